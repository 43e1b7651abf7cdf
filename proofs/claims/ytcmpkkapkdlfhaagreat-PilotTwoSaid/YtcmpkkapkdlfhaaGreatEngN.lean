import Derived.Test.YtcmpkkapkdlfhaaGreatEngY
import Derived.Scope
import Derived.Laws.AppendOwn
import Derived.Lib.AppendStr
import Derived.Maps.AppendAt
import Derived.Laws.BytesArg
import Derived.ArgAppend
namespace Go.Proofs.YtcmpkkapkdlfhaaGreat
open Go.RowKit
def asU(x:Sem Unit):Sem Next:=x >>= fun _=>pure .skip
section
variable {D:List Deferred}{P:Program}{n:Nat}{w0:World}{S:Nat->Prop}
theorem run_storeG(w:World)(t:TypeId)(g o:Nat)(tt:TypeId)(cs:List Value)(v:Value)(hs:(P.info? t).map (·.size)=some v.cells.size)(hB:Blk w g tt cs)(hle:o+v.cells.size<=cs.length)(hone:∀u∈v.cells.toList,u.oneCell'=true) :
  (Instr.storeAt t (.pointer (some ⟨g,o,none⟩)) v).run P w=.ok () (w.setRow g (cs.take o++v.cells.toList++cs.drop (o+v.cells.size)).toArray):=by
 obtain⟨inf,hi,hz⟩:=Option.map_eq_some_iff.1 hs
 have h1:=run_storeCells_at P g o tt v.cells.toList 0 cs.toArray w hB (by simpa using hle) hone
 simp only[Nat.add_zero,Array.length_toList]at h1
 simp only[Instr.storeAt,Instr.sureAddr,storeVar]
 simp[sizeOf,typeInfo,hi,hz,h1]
theorem run_loadOne(w:World)(t:TypeId)(k:IntKind)(g o:Nat)(tt:TypeId)(cs:List Value)(v:Value)(hu:P.underlying t=some (.int k))(hB:Blk w g tt cs)(hv:cs[o]?=some v) :
  (Instr.loadAt t (.pointer (some ⟨g,o,none⟩))).run P w=.ok v w:=by
 have hc:=(hB.cell o).trans hv
 simp[Instr.loadAt,Instr.sureAddr,loadVar,isAgg,run_underlying hu,hc]
theorem holds_opS{body:Code}{Q:Exit->Act->World->Prop}{p:List Nat}{i:Nat}{l:List Nat}{k:List KI}{st:St}{x:Sem Unit}(bk:List Bk){sl:List (Nat×Value)}
  (hd:dstAt (opsOf (getCode body p)) st.sl i=some none) (hx:semAt (opsOf (getCode body p)) st.sl i=some (asU x)) (hsl:st.sl=sl)
  (hr:∀w,MemOk w0 S st.bk st.wn st.sz w->∃w',x.run P w=.ok () w'∧st.sz<=w'.heap.size∧MemOk w0 S bk st.wn w'.heap.size w')
  (hh:∀sz,st.sz<=sz->Holds D P body n w0 S Q (.ops p l::k) ⟨sl,bk,st.wn,sz⟩):Holds D P body n w0 S Q (.ops p (i::l)::k) st:=by
 intro a w hf hm
 subst hsl
 simp only[sem]
 rw[wpOps_cons]
 unfold dstAt at hd
 unfold semAt at hx
 split at hd
 ·rename_i o ho
  simp only[ho,Option.some.injEq]at hx
  split at hd
  ·rename_i hg
   split at hd
   ·rename_i hk
    simp only[Option.some.injEq]at hd
    have hw:Region.wanted o (yielded (opsOf (getCode body p)) a.tmps)=true:=by simp[Region.wanted,hg]
    simp only[wpOp,ho,if_pos hw]
    refine .inl ?_
    obtain⟨w',h2,h3,h4⟩:=hr w hm
    have h5:(execOp a.eval o).run P w=.ok .skip w':=by
     rw[hf.rho hk,hx]
     simp only[asU,Sem.run_bind,h2,Result.andThen_ok,Sem.run_pure]
    simp only[Oper.wp,h5,Oper.upon_skip]
    rw[hd]
    exact hh _ h3 _ _ hf h4
   ·cases hd
  ·cases hd
 ·cases hd
def FB(w:World)(g:Nat)(t:TypeId)(L:List Int):Prop:=∃r:List Value,w.heap[g]?=some (.cells (intsV L++r).toArray t ((intsV L++r).length,(intsV L++r).length+1))
theorem FB.lt{w:World}{g:Nat}{t:TypeId}{L:List Int}(h:FB w g t L):g<w.heap.size:=by
 obtain⟨r,h⟩:=h
 exact(Array.getElem?_eq_some_iff.1 h).1
theorem FB.kept{w w':World}{g:Nat}{t:TypeId}{L:List Int}{T:Nat->Prop}(h:FB w g t L)(hk:Kept T w w')(hT:¬T g):FB w' g t L:=by
 have hl:=h.lt
 obtain⟨r,h⟩:=h
 exact⟨r,(hk.block g hl hT).trans h⟩
theorem FB.cell{w:World}{g:Nat}{t:TypeId}{L:List Int}(h:FB w g t L){i:Nat}{v:Int}(hv:L[i]?=some v):w.cell? ⟨g,i,none⟩=some (.int .u8 v):=by
 obtain⟨r,h⟩:=h
 have hi:=(List.getElem?_eq_some_iff.1 hv).1
 have e:(intsV L++r)[i]?=some (.int .u8 v):=by
  rw[List.getElem?_append_left (by simpa[intsV]using hi)]
  simp[intsV,hv]
 simp only[World.cell?,h]
 simpa using e
theorem run_newBytes(w:World)(src dst e:TypeId)(s:ByteArray)(hs:P.underlying src=some .string)(hd:P.underlying dst=some (.slice e))(he:P.underlying e=some (.int .u8)) :
  ∃c w',(convert src dst (.string s)).run P w=.ok (.slice (some ⟨w.heap.size,0,none⟩) s.size c) w'∧FB w' w.heap.size e (intsOf s)∧Kept (fun _=>False) w w':=by
 refine⟨_,_,run_bytes_of_string w src dst e s hs hd he,⟨List.replicate (grownCap w s.size 0 e-s.size) (.int .u8 0),?_⟩,((Kept.refl _ w).drew).alloc _⟩
 have e1:(intsV (intsOf s)++List.replicate (grownCap w s.size 0 e-s.size) (Value.int .u8 0)).toArray=bytesRow s (grownCap w s.size 0 e):=by
  unfold bytesRow
  apply Array.toList_inj.1
  simp[intsV,intsOf]
 have e2:(intsV (intsOf s)++List.replicate (grownCap w s.size 0 e-s.size) (Value.int .u8 0)).length=(bytesRow s (grownCap w s.size 0 e)).size:=by
  rw[<-e1]
  simp
 rw[e2,e1]
 show(w.heap.push _)[w.heap.size]?=_
 simp
theorem run_store1(w:World)(t:TypeId)(g o:Nat)(tt:TypeId)(L:List Int)(v:Int)(hs:(P.info? t).map (·.size)=some 1)(hB:FB w g tt L)(ho:o<L.length) :
  ∃w',(Instr.storeAt t (.pointer (some ⟨g,o,none⟩)) (.int .u8 v)).run P w=.ok () w'∧FB w' g tt (L.set o v)∧Kept (fun x=>x=g) w w'∧w'.heap.size=w.heap.size:=by
 obtain⟨inf,hi,hz⟩:=Option.map_eq_some_iff.1 hs
 have hc:=hB.cell (List.getElem?_eq_getElem ho)
 have hB':=hB
 obtain⟨r,hB⟩:=hB
 have hfz:w.frozen? ⟨g,o,none⟩=false:=by
  simp only[World.frozen?,hB]
  have h2:¬(intsV L++r).length<=o:=by
   simp[intsV]
   omega
  rw[decide_eq_false h2]
  rfl
 refine⟨w.setCell ⟨g,o,none⟩ (.int .u8 v),?_,⟨r,?_⟩,?_,by simp⟩
 ·simp only[Instr.storeAt,Instr.sureAddr,storeVar]
  have h1:(Value.int .u8 v).cells=#[.int .u8 v]:=rfl
  have h2:(store ⟨g,o,none⟩ (.int .u8 v)).run P w=.ok () (w.setCell ⟨g,o,none⟩ (.int .u8 v)):=by
   rw[run_store P w _ _ _ rfl,hc,hfz]
   rfl
  simp[sizeOf,typeInfo,hi,hz,h1,storeCells,add_norm,h2]
 ·have e:(intsV (L.set o v)++r)=(intsV L++r).set o (.int .u8 v):=by
   rw[List.set_append_left _ _ (by simpa[intsV]using ho)]
   simp[intsV,List.map_set]
  rw[e]
  simp[World.setCell,Array.getElem?_modify,hB]
 ·exact⟨rfl,rfl,rfl,by simp,fun k _ hn=>Below.heap_setCell w _ _ k (fun e=>hn e)⟩
theorem run_bytesFB(w:World)(src dst e:TypeId)(g L cap:Nat)(t:TypeId)(l:List Int)(hs:P.underlying src=some (.slice e))(he:P.underlying e=some (.int .u8))(hd:P.underlying dst=some .string)
  (hB:FB w g t l) (hL:l.length=L) (hb:Byts l):(convert src dst (.slice (some ⟨g,0,none⟩) L cap)).run P w=.ok (.string (bytesI l)) w:=by
 subst hL
 have hl:(u8s l).length=l.length:=by simp[u8s]
 have h1:=run_convert_bytes_back (P:=P) w src dst e ⟨g,0,none⟩ cap (u8s l) hs he hd (fun j hj=>by
  have:(⟨g,0,none⟩:Addr).add j=⟨g,j,none⟩:=by rw[add_norm,Nat.zero_add]
  rw[this]
  have hj':j<l.length:=by omega
  rw[hB.cell (List.getElem?_eq_getElem hj')]
  have h2:((u8s l)[j].toNat:Int)=l[j]:=by
   simp only[u8s,List.getElem_map]
   exact toNat_u8 (hb _ (List.getElem_mem hj'))
  rw[h2])
 rw[hl]at h1
 exact h1
theorem holds_opW{body:Code}{Q:Exit->Act->World->Prop}{p:List Nat}{i:Nat}{l:List Nat}{k:List KI}{st:St}{dst:Option Nat}{x:Sem Value}{w:World}{S':Nat->Prop}(v:Nat->Value)(X:Nat->World->Prop)(sl:Nat->List (Nat×Value))
  (hd:dstAt (opsOf (getCode body p)) st.sl i=some dst) (hx:semAt (opsOf (getCode body p)) st.sl i=some (asV x)) (hp:∀c,putS n st.sl dst (v c)=some (sl c))
  (hr:∀wx,MemOk w0 S st.bk st.wn st.sz wx->∃c w',x.run P wx=.ok (v c) w'∧X c w'∧MemOk w S' st.bk [] w'.heap.size w')
  (hh:∀c W,X c W->MemOk w S' st.bk [] W.heap.size W->Holds D P body n W (Turned st.bk) Q (.ops p l::k) ⟨sl c,st.bk,[],W.heap.size⟩):Holds D P body n w0 S Q (.ops p (i::l)::k) st:=by
 intro a wx hf hm
 simp only[sem]
 rw[wpOps_cons]
 unfold dstAt at hd
 unfold semAt at hx
 split at hd
 ·rename_i o ho
  simp only[ho,Option.some.injEq]at hx
  split at hd
  ·rename_i hg
   split at hd
   ·rename_i hk
    simp only[Option.some.injEq]at hd
    have hw:Region.wanted o (yielded (opsOf (getCode body p)) a.tmps)=true:=by simp[Region.wanted,hg]
    simp only[wpOp,ho,if_pos hw]
    refine .inl ?_
    obtain⟨c,w',h2,h3,h4⟩:=hr wx hm
    have h5:(execOp a.eval o).run P wx=.ok (.value (v c)) w':=by
     rw[hf.rho hk,hx]
     simp only[asV,Sem.run_bind,h2,Result.andThen_ok,Sem.run_pure]
    simp only[Oper.wp,h5,Oper.upon_value]
    rw[hd]
    exact hh c w' h3 h4 _ _ (hf.put (hp c)) h4.again
   ·cases hd
  ·cases hd
 ·cases hd
theorem holds_anyW{body:Code}{Q:Exit->Act->World->Prop}{p:List Nat}{i f0:Nat}{ls ls':Array Bool}{k:List KI}{st:St}{x:Sem Unit}{w:World}{S':Nat->Prop}(X:World->Prop)
  (hrd:Region.ready .any (opsOf (getCode body p)) ls=[i]) (hl:ls.setIfInBounds i true=ls')
  (hd:dstAt (opsOf (getCode body p)) st.sl i=some none) (hx:semAt (opsOf (getCode body p)) st.sl i=some (asU x))
  (hr:∀wx,MemOk w0 S st.bk st.wn st.sz wx->∃w',x.run P wx=.ok () w'∧X w'∧MemOk w S' st.bk [] w'.heap.size w')
  (hh:∀W,X W->MemOk w S' st.bk [] W.heap.size W->Holds D P body n W (Turned st.bk) Q (.any p f0 ls'::k) ⟨st.sl,st.bk,[],W.heap.size⟩):Holds D P body n w0 S Q (.any p (f0+1) ls::k) st:=by
 intro a wx hf hm
 subst hl
 simp only[sem]
 refine⟨fun h=>(by rw[hrd]at h; cases h),fun j hj=>?_⟩
 rw[hrd,List.mem_singleton]at hj
 subst hj
 unfold dstAt at hd
 unfold semAt at hx
 split at hd
 ·rename_i o ho
  simp only[ho,Option.some.injEq]at hx
  split at hd
  ·rename_i hg
   split at hd
   ·rename_i hk
    simp only[Option.some.injEq]at hd
    have hw:Region.wanted o (yielded (opsOf (getCode body p)) a.tmps)=true:=by simp[Region.wanted,hg]
    simp only[wpOp,ho,if_pos hw]
    refine .inl ?_
    obtain⟨w',h2,h3,h4⟩:=hr wx hm
    have h5:(execOp a.eval o).run P wx=.ok .skip w':=by
     rw[hf.rho hk,hx]
     simp only[asU,Sem.run_bind,h2,Result.andThen_ok,Sem.run_pure]
    simp only[Oper.wp,h5,Oper.upon_skip]
    rw[hd]
    have h6:=hh w' h3 h4 _ _ hf h4.again
    simp only[sem]at h6
    exact h6
   ·cases hd
  ·cases hd
 ·cases hd
theorem holds_loopW{body:Code}{Q:Exit->Act->World->Prop}{p:List Nat}{k:List KI}{st:St}{w:World}{S':Nat->Prop}(I:Nat->St->World->Prop)(m0:Nat)(hl:isLoop (getCode body p)=true)
  (h0:∀W,MemOk w0 S st.bk st.wn st.sz W->I m0 st W∧MemOk w S' st.bk [] st.sz W)
  (round:∀m st' W,I m st' W->MemOk w S' st'.bk [] W.heap.size W->∀J:Act->World->Prop,(∀m' st'' a' W',m'<m->I m' st'' W'->FrOk D n st''.sl a'->MemOk w S' st''.bk [] st''.sz W'->J a' W') ->
   Holds D P body n W (Turned st'.bk) Q (.code (p++[0])::.inv J::k) ⟨st'.sl,st'.bk,[],W.heap.size⟩) :
  Holds D P body n w0 S Q (.code p::k) st:=by
 obtain⟨c,hc⟩:∃c,getCode body p=.loop c:=by
  cases h:getCode body p<;>rw[h]at hl<;>first|exact⟨_,rfl⟩|cases hl
 intro a wx hf hm
 simp only[sem,hc]
 obtain⟨hI0,hm0⟩:=h0 wx hm
 refine wp_loop_ghost (fun m a W=>∃st',I m st' W∧FrOk D n st'.sl a∧MemOk w S' st'.bk [] st'.sz W) m0 ⟨st,hI0,hf,hm0⟩ ?_
 rintro m a W ⟨st',hI,hf',hm'⟩
 have hmW:MemOk w S' st'.bk [] W.heap.size W:=by rw[hm'.size]; exact hm'
 have h1:=round m st' W hI hmW (fun a' w'=>∃m',m'<m∧∃st',I m' st' w'∧FrOk D n st'.sl a'∧MemOk w S' st'.bk [] st'.sz w') (fun m' st'' a' W' hlt hI' hf'' hm''=>⟨m',hlt,st'',hI',hf'',hm''⟩) a W hf' hmW.again
 simp only[sem,getCode_append,hc,getCode]at h1
 refine wp_mono h1 fun e a w h2=>?_
 cases e<;>exact h2
end
section
variable {P:Program}
variable {D:List Deferred}{body:Code}{n:Nat}{w0:World}{S:Nat->Prop}{Q:Exit->Act->World->Prop}
theorem holds_callV{body:Code}{p:List Nat}{i:Nat}{l:List Nat}{k:List KI}{st:St}{f:FuncId}{args:List Value}{dst:Option Nat}{ob:List Prop}{w:World}{S':Nat->Prop}{Y:Type}(v:Y->Value)(bk':Y->List Bk)(X:Y->World->Prop)(sl:Y->List (Nat×Value))
  (h:callAt P (opsOf (getCode body p)) st.sl i=some (f,args,dst,ob)) (ho:All ob) (hp:∀y,putS n st.sl dst (v y)=some (sl y))
  (hc:∀wx,MemOk w0 S st.bk st.wn st.sz wx->Calls P f args.toArray wx (fun e w'=>∃y,e=.returned (v y)∧X y w'∧MemOk w S' (bk' y) [] w'.heap.size w'))
  (hh:∀y W,X y W->MemOk w S' (bk' y) [] W.heap.size W->Holds D P body n W (Turned (bk' y)) Q (.ops p l::k) ⟨sl y,bk' y,[],W.heap.size⟩):Holds D P body n w0 S Q (.ops p (i::l)::k) st:=by
 intro a wx hf hm
 simp only[sem]
 rw[wpOps_cons]
 refine callAt_wpOp h ho hf ((hc wx hm).mono fun e w' he=>?_)
 obtain⟨y,h1,h2,h3⟩:=he
 refine⟨v y,h1,?_⟩
 exact hh y w' h2 h3 _ _ (hf.put (hp y)) h3.again
theorem holds_gnd{k:List KI}{sl:List (Nat×Value)}{bk:List Bk}{sz:Nat}(h:∀W,MemOk w0 S bk [] W.heap.size W->Holds D P body n W (Turned bk) Q k ⟨sl,bk,[],W.heap.size⟩):Holds D P body n w0 S Q k ⟨sl,bk,[],sz⟩:=by
 intro a w hf hm
 have hm':MemOk w0 S bk [] w.heap.size w:=by rw[hm.size]; exact hm
 exact h w hm' a w hf hm'.again
def frzB:List Bool->List Bk->List Bk
 |f::fs,b::bs=>⟨b.g,b.t,b.rw&&f,b.cs⟩::frzB fs bs
 |_,_=>[]
theorem frzB_mem:∀(fs:List Bool)(bs:List Bk){c:Bk},c∈frzB fs bs->∃b∈bs,b.g=c.g∧b.t=c.t∧b.cs=c.cs∧(c.rw=true->b.rw=true)
 |[],_,c,h=>by simp[frzB]at h
 |_::_,[],c,h=>by simp[frzB]at h
 |f::fs,b::bs,c,h=>by
  simp only[frzB,List.mem_cons]at h
  rcases h with rfl|h
  ·exact⟨b,by simp,rfl,rfl,rfl,fun h=>by simp at h; exact h.1⟩
  ·obtain⟨b',h1,h2⟩:=frzB_mem fs bs h
   exact⟨b',List.mem_cons_of_mem _ h1,h2⟩
theorem frzB_g:∀(fs:List Bool)(bs:List Bk),((frzB fs bs).map (·.g)).Sublist (bs.map (·.g))
 |[],bs=>by simp[frzB]
 |_::_,[]=>by simp[frzB]
 |f::fs,b::bs=>by
  simp only[frzB,List.map_cons]
  exact(frzB_g fs bs).cons_cons _
theorem MemOk.frz{w0 w:World}{S:Nat->Prop}{bk:List Bk}{wn:List Wn}{sz:Nat}(fs:List Bool)(h:MemOk w0 S bk wn sz w):MemOk w0 S (frzB fs bk) [] sz w:=
 ⟨h.size,fun b hb=>by
  obtain⟨c,hc,h1,h2,h3,_⟩:=frzB_mem fs bk hb
  have:=h.blk c hc
  rw[h1,h2,h3]at this
  exact this,fun b hb hr=>by
  obtain⟨c,hc,h1,_,_,h4⟩:=frzB_mem fs bk hb
  have:=h.own c hc (h4 hr)
  rw[h1]at this
  exact this,h.nd.sublist (frzB_g fs bk),h.kept,fun x hx=>by cases hx⟩
theorem holds_gndF{k:List KI}{sl:List (Nat×Value)}{bk bk':List Bk}{wn:List Wn}{sz:Nat}(fs:List Bool)(hb:frzB fs bk=bk')(h:∀W,MemOk w0 S bk wn sz W->MemOk w0 S bk' [] W.heap.size W->Holds D P body n W (Turned bk') Q k ⟨sl,bk',[],W.heap.size⟩):Holds D P body n w0 S Q k ⟨sl,bk,wn,sz⟩:=by
 subst hb
 intro a w hf hm
 have h1:=hm.frz fs
 rw[<-hm.size]at h1
 exact h w hm h1 a w hf h1.again
section
variable {ops:Array Oper}{sl0:List (Nat×Value)}{vs:List (Option Value)}{C:Nat->Value->World->Prop}{ms:List (List Bk)}{wn:List Wn}{z0:Nat}{stg:List (Option Nat)}{J:Nat}
end
end
def slU(dst:Option Nat)(v:Value)(sl:List (Nat×Value)):List (Nat×Value):=match dst with
 |some d=>(d,v)::sl
 |none=>sl
theorem hcV{D:List Deferred}{P:Program}{n:Nat}{w0:World}{S:Nat->Prop}{Q:Exit->Act->World->Prop}{body:Code}{p:List Nat}{i:Nat}{l:List Nat}{k:List KI}{sl:List (Nat×Value)}{bk:List Bk}{wn:List Wn}{z:Nat}{f:FuncId}{args:List Value}{dst:Option Nat}{ob:List Prop}{w:World}{S':Nat->Prop}{Y:Type}(v:Y->Value)(bk':Y->List Bk)(X:Y->World->Prop)
  (h:callAt P (opsOf (getCode body p)) sl i=some (f,args,dst,ob)) (ho:All ob)
  (hc:∀wx,MemOk w0 S bk wn z wx->Calls P f args.toArray wx (fun e w'=>∃y,e=.returned (v y)∧X y w'∧MemOk w S' (bk' y) [] w'.heap.size w'))
  (hh:∀y W,X y W->MemOk w S' (bk' y) [] W.heap.size W->Holds D P body n W (Turned (bk' y)) Q (.ops p l::k) ⟨slU dst (v y) sl,bk' y,[],W.heap.size⟩) (hp:∀y,putS n sl dst (v y)=some (slU dst (v y) sl):=by exact fun _=>rfl):Holds D P body n w0 S Q (.ops p (i::l)::k) ⟨sl,bk,wn,z⟩:=holds_callV v bk' X (fun y=>slU dst (v y) sl) h ho hp hc hh
end Go.Proofs.YtcmpkkapkdlfhaaGreat
namespace Go.Proofs.YtcmpkkapkdlfhaaGreat
open Go.RowKit Go.Lib
def OwnR(w:World)(base:Nat)(e:TypeId)(z:Nat)(A:Option Addr)(n cp:Nat)(cs:List Value):Prop:=w.ownsRow base e z (.slice A n cp) n cs
def ownS(A:Option Addr)(x:Nat):Prop:=∃a,A=some a∧x=a.block
theorem OwnR.kept{w w':World}{base:Nat}{e:TypeId}{z:Nat}{A:Option Addr}{n cp:Nat}{cs:List Value}{T:Nat->Prop}(h:OwnR w base e z A n cp cs)(hk:Kept T w w')(hT:∀x,ownS A x->¬T x):OwnR w' base e z A n cp cs:=by
 refine⟨h.1,h.2.imp_right ?_⟩
 rintro⟨g,cap,cur,hv,h1,h2,h3⟩
 have hg:g<w.heap.size:=(Array.getElem?_eq_some_iff.1 h2).1
 simp only[Value.slice.injEq]at hv
 exact⟨g,cap,cur,by simp[hv],h1,(hk.block g hg (hT g ⟨_,hv.1,rfl⟩)).trans h2,h3⟩
theorem OwnR.own{w:World}{base:Nat}{e:TypeId}{z:Nat}{A:Option Addr}{n cp:Nat}{cs:List Value}(h:OwnR w base e z A n cp cs):∀x,ownS A x->base<=x∧x<w.heap.size:=by
 rintro x ⟨a,rfl,rfl⟩
 rcases h.2 with⟨hv,_⟩|⟨g,cap,cur,hv,h1,h2,_⟩
 ·simp at hv
 ·simp only[Value.slice.injEq,Option.some.injEq]at hv
  rw[hv.1]
  exact⟨h1,(Array.getElem?_eq_some_iff.1 h2).1⟩
theorem OwnR.nil(w:World)(base:Nat)(e:TypeId)(z:Nat):OwnR w base e z none 0 0 []:=World.ownsRow_nil w base e z
theorem OwnR.below{w:World}{base base':Nat}{e:TypeId}{z:Nat}{A:Option Addr}{n cp:Nat}{cs:List Value}(h:OwnR w base e z A n cp cs)(hb:base'<=base):OwnR w base' e z A n cp cs:=
 ⟨h.1,h.2.imp_right fun⟨g,cap,cur,hv,h1,h2⟩=>⟨g,cap,cur,hv,Nat.le_trans hb h1,h2⟩⟩
theorem OwnR.len{w:World}{base:Nat}{e:TypeId}{z:Nat}{A:Option Addr}{n cp:Nat}{cs:List Value}(h:OwnR w base e z A n cp cs):cs.length=n*z:=h.1
theorem OwnR.blk{w:World}{base:Nat}{e:TypeId}{z:Nat}{A:Option Addr}{n cp:Nat}{cs:List Value}(h:OwnR w base e z A n cp cs) :
  (A=none∧n=0∧cp=0∧cs=[])∨∃g r,A=some ⟨g,0,none⟩∧base<=g∧Blk w g e (cs++r)∧n<=cp∧cp<=maxLen∧(cs++r).length=cp*z:=by
 have hl:=h.1
 rcases h.2 with⟨hv,hn⟩|⟨g,cap,cur,hv,h1,h2,h3,h4,h5,h6⟩
 ·simp only[Value.slice.injEq]at hv
  obtain⟨rfl,_,rfl⟩:=hv
  subst hn
  exact .inl ⟨rfl,rfl,rfl,List.eq_nil_of_length_eq_zero (by simpa using hl)⟩
 ·simp only[Value.slice.injEq]at hv
  obtain⟨rfl,_,rfl⟩:=hv
  have e1:cs++cur.toList.drop (n*z)=cur.toList:=by rw[<-h6,List.take_append_drop]
  refine .inr ⟨g,cur.toList.drop (n*z),rfl,h1,?_,h3,h4,by rw[e1]; simpa using h5⟩
  unfold Blk
  rw[e1,h2]
theorem ownR_of{w:World}{base g:Nat}{e:TypeId}{z n cp:Nat}{cs r:List Value}(hb:base<=g)(hB:Blk w g e (cs++r))(hn:n<=cp)(hc:cp<=maxLen)(hl:cs.length=n*z)(hz:(cs++r).length=cp*z):OwnR w base e z (some ⟨g,0,none⟩) n cp cs:=
 ⟨hl,.inr ⟨g,cp,(cs++r).toArray,rfl,hb,hB,hn,hc,by simpa using hz,by rw[<-hl]; simp⟩⟩
theorem OwnR.cell{w:World}{base:Nat}{e:TypeId}{z:Nat}{A:Option Addr}{n cp:Nat}{cs:List Value}(h:OwnR w base e z A n cp cs){j:Nat}{v:Value}(hj:cs[j]?=some v) :
  ∃g,A=some ⟨g,0,none⟩∧base<=g∧g<w.heap.size∧w.cell? ⟨g,j,none⟩=some v:=by
 rcases h.blk with⟨_,_,_,rfl⟩|⟨g,r,rfl,h1,h2,_⟩
 ·simp at hj
 ·exact⟨g,rfl,h1,h2.lt,h2.at_ (by rw[List.getElem?_append_left (List.getElem?_eq_some_iff.1 hj).1]; exact hj)⟩
theorem kept_grownS{w w':World}{v:Value}(h:w.grownBy w' v.ownBlock){A:Option Addr}{n cp:Nat}(hv:v=.slice A n cp):Kept (ownS A) w w':=by
 subst hv
 refine⟨h.os,h.tape,h.output,h.size,fun k hk hn=>h.block k hk (fun e=>?_)⟩
 cases A with
 |none=>simp[Value.ownBlock]at e
 |some a=>simp only[Value.ownBlock,Option.some.injEq]at e; exact hn ⟨a,rfl,e⟩
def FromS(w:World)(A0 A:Option Addr):Prop:=∀x,ownS A x->ownS A0 x∨w.heap.size<=x
theorem OwnR.le{w:World}{base:Nat}{e:TypeId}{z:Nat}{A:Option Addr}{n cp:Nat}{cs:List Value}(h:OwnR w base e z A n cp cs):n<=cp:=by
 rcases h.blk with⟨_,h1,h2,_⟩|⟨g,r,_,_,_,h1,_⟩
 ·omega
 ·exact h1
theorem ones_all{l:List Value}(h:l.all Value.oneCell'=true):∀u∈l,u.oneCell'=true:=List.all_eq_true.1 h
def TyIn(w:World)(e:TypeId)(x:Nat):Prop:=∃cur fz,w.heap[x]?=some (.cells cur e fz)
theorem OwnR.ty{w:World}{base:Nat}{e:TypeId}{z:Nat}{A:Option Addr}{n cp:Nat}{cs:List Value}(h:OwnR w base e z A n cp cs):∀x,ownS A x->TyIn w e x:=by
 rintro x ⟨a,rfl,rfl⟩
 rcases h.blk with⟨h0,_⟩|⟨g,r,h0,_,h2,_⟩
 ·cases h0
 ·simp only[Option.some.injEq]at h0
  subst h0
  exact⟨_,_,h2⟩
theorem MemOk.bck{w W W1:World}{S:Nat->Prop}{bk bk':List Bk}{wn:List Wn}{sz:Nat}(h:MemOk w S bk [] W.heap.size W)(h1:MemOk W (Turned bk) bk' wn sz W1):MemOk w S bk' [] sz W1:=
 ⟨h1.size,h1.blk,fun b hb hr=>(h1.own b hb hr).elim (fun⟨c,hc,h2,h3⟩=>by rw[<-h3]; exact h.own c hc h2) (fun h2=>.inr (Nat.le_trans h.kept.size h2)),h1.nd,
  h.kept.trans h1.kept (fun k hk ⟨b,hb,hr,he⟩=>(h.own b hb hr).elim (fun h2=>he▸h2) (fun h2=>absurd hk (by omega))),fun x hx=>by cases hx⟩
theorem MemOk.offA{w wx w':World}{S S' T:Nat->Prop}{bk:List Bk}{wn:List Wn}{sz:Nat}(hm:MemOk w S bk wn sz wx)(hS:∀x,S x->S' x)(hk:Kept T wx w')(hT:∀x,T x->S' x∨w.heap.size<=x)(hb:∀b∈bk,¬T b.g):MemOk w S' bk [] w'.heap.size w':=
 ⟨rfl,fun b h=>(hm.blk b h).kept hk (hb b h),fun b h hr=>(hm.own b h hr).imp_left (hS _),hm.nd,(hm.kept.mono (fun k _ h=>hS k h)).trans hk (fun k hk' h=>(hT k h).resolve_right (by omega)),fun x hx=>by cases hx⟩
theorem MemOk.wide{w0 w:World}{S S':Nat->Prop}{bk:List Bk}{wn:List Wn}{sz:Nat}(hm:MemOk w0 S bk wn sz w)(h:∀x,S x->S' x):MemOk w0 S' bk [] sz w:=
 ⟨hm.size,hm.blk,fun b hb hr=>(hm.own b hb hr).imp_left (h _),hm.nd,hm.kept.mono (fun k _ h'=>h k h'),fun x hx=>(by cases hx)⟩
theorem MemOk.none_{w0 w:World}{S:Nat->Prop}{bk:List Bk}{wn:List Wn}{sz:Nat}(hm:MemOk w0 S bk wn sz w):MemOk w0 S [] [] sz w:=
 ⟨hm.size,fun b hb=>(by cases hb),fun b hb=>(by cases hb),List.nodup_nil,hm.kept,fun x hx=>(by cases hx)⟩
section
variable {P:Program}
theorem run_appendR(w:World)(base:Nat)(t ty e:TypeId)(zv:Value)(z by_:Nat)(A:Option Addr)(n cp:Nat)(cs:List Value)(a:Addr)(m c:Nat)(xs:List Value)(ht:P.underlying t=some (.slice e))(hi:(P.info? e).map (fun i=>(i.zero,i.size,i.bytes))=some (some zv,z,by_))
  (hzz:zv.cells.size=z) (hz0:0<z) (h:OwnR w base e z A n cp cs) (hl:xs.length=m*z) (hc:∀j x,xs[j]?=some x->w.cell? (a.add j)=some x) (ho:∀u∈xs,u.oneCell'=true) (hn:n+m<=100000) (hby:by_<=1000) (hb:base<=w.heap.size) :
  ∃A' cp' w',(Builtin.append_ #[t,t] ty #[.slice A n cp,.slice (some a) m c]).run P w=.ok (.slice A' (n+m) cp') w'∧OwnR w' base e z A' (n+m) cp' (cs++xs)∧Kept (ownS A) w w'∧(∀x,ownS A' x->ownS A x∨w.heap.size<=x):=by
 obtain⟨inf,hi1,hi2⟩:=Option.map_eq_some_iff.1 hi
 simp only[Prod.mk.injEq]at hi2
 obtain⟨hz,hs,hby2⟩:=hi2
 obtain⟨v',w',h1,h2,h3,h4,h5⟩:=run_append_own_at (P:=P) w base t ty e inf zv z by_ ht hi1 hz hs hby2 hzz hz0 (.slice A n cp) n cs h a m c xs hl hc ho (by simp only[maxLen]; omega)
  (Nat.le_trans (Nat.mul_le_mul hn hby) (by decide)) hb
 have hk:=kept_grownS h3 rfl
 rcases h2.2 with⟨rfl,hx⟩|⟨g',cap',cur,rfl,hr⟩
 ·refine⟨none,0,w',?_,?_,hk,fun x ⟨a,ha,_⟩=>by cases ha⟩
  ·rw[h1,hx]
  ·unfold OwnR
   rw[hx]at h2 ⊢
   exact h2
 ·refine⟨some ⟨g',0,none⟩,cap',w',h1,h2,hk,?_⟩
  rintro x ⟨a',ha,rfl⟩
  simp only[Option.some.injEq]at ha
  subst ha
  rcases h5 with h6|h6
  ·left
   cases A with
   |none=>simp[Value.ownBlock]at h6
   |some a0=>simp only[Value.ownBlock,Option.some.injEq]at h6; exact⟨a0,rfl,h6⟩
  ·right
   simp only[Value.ownBlock,Option.some.injEq]at h6
   exact Nat.le_of_eq h6.symm
theorem run_append0(w:World)(t ty e:TypeId)(A:Option Addr)(n cp:Nat)(B:Option Addr)(cB:Nat)(ht:P.underlying t=some (.slice e))(hi:(P.info? e).isSome=true)(h:n<=cp) :
  (Builtin.append_ #[t,t] ty #[.slice A n cp,.slice B 0 cB]).run P w=.ok (.slice A n cp) w:=by
 obtain⟨inf,hi1⟩:=Option.isSome_iff_exists.1 hi
 cases A<;>cases B<;>simp[Builtin.append_,run_underlying ht,sizeOf,typeInfo,hi1,Builtin.lenOf,h,Builtin.firstCells,loadCells,loadCellsFrom,storeCells]
theorem run_appendO(w:World)(base b2:Nat)(t ty e:TypeId)(zv:Value)(z by_:Nat)(A:Option Addr)(n cp:Nat)(cs:List Value)(B:Option Addr)(m cB:Nat)(xs:List Value)(ht:P.underlying t=some (.slice e))(hi:(P.info? e).map (fun i=>(i.zero,i.size,i.bytes))=some (some zv,z,by_))
  (hzz:zv.cells.size=z) (hz0:0<z) (h:OwnR w base e z A n cp cs) (h2:OwnR w b2 e z B m cB xs) (ho:∀u∈xs,u.oneCell'=true) (hn:n+m<=100000) (hby:by_<=1000) (hb:base<=w.heap.size) :
  ∃A' cp' w',(Builtin.append_ #[t,t] ty #[.slice A n cp,.slice B m cB]).run P w=.ok (.slice A' (n+m) cp') w'∧OwnR w' base e z A' (n+m) cp' (cs++xs)∧Kept (ownS A) w w':=by
 have hl2:=h2.len
 rcases h2.blk with⟨rfl,rfl,rfl,rfl⟩|⟨g,r,rfl,hg,hB,_⟩
 ·refine⟨A,cp,w,run_append0 w t ty e A n cp none 0 ht ?_ h.le,by rw[List.append_nil]; exact h,Kept.refl _ w⟩
  obtain⟨inf,hi1,_⟩:=Option.map_eq_some_iff.1 hi
  rw[hi1]
  rfl
 ·obtain⟨A',cp',w',h3,h4,h5,_⟩:=run_appendR (P:=P) w base t ty e zv z by_ A n cp cs ⟨g,0,none⟩ m cB xs ht hi hzz hz0 h hl2 (fun j x hj=>by rw[add_norm,Nat.zero_add]; exact hB.at_ (by rw[List.getElem?_append_left (List.getElem?_eq_some_iff.1 hj).1]; exact hj)) ho hn hby hb
  exact⟨A',cp',w',h3,h4,h5⟩
variable {D:List Deferred}{n:Nat}{w0:World}{S:Nat->Prop}{Y:Type}{body:Code}{Q:Exit->Act->World->Prop}
theorem holds_opV{p:List Nat}{i:Nat}{l:List Nat}{k:List KI}{st:St}{dst:Option Nat}{x:Sem Value}{w:World}{S':Nat->Prop}(v:Y->Value)(bk':List Bk)(X:Y->World->Prop)(sl:Y->List (Nat×Value))
  (hd:dstAt (opsOf (getCode body p)) st.sl i=some dst) (hx:semAt (opsOf (getCode body p)) st.sl i=some (asV x)) (hp:∀c,putS n st.sl dst (v c)=some (sl c))
  (hr:∀wx,MemOk w0 S st.bk st.wn st.sz wx->∃c w',x.run P wx=.ok (v c) w'∧X c w'∧MemOk w S' bk' [] w'.heap.size w')
  (hh:∀c W,X c W->MemOk w S' bk' [] W.heap.size W->Holds D P body n W (Turned bk') Q (.ops p l::k) ⟨sl c,bk',[],W.heap.size⟩):Holds D P body n w0 S Q (.ops p (i::l)::k) st:=by
 intro a wx hf hm
 simp only[sem]
 rw[wpOps_cons]
 unfold dstAt at hd
 unfold semAt at hx
 split at hd
 ·rename_i o ho
  simp only[ho,Option.some.injEq]at hx
  split at hd
  ·rename_i hg
   split at hd
   ·rename_i hk
    simp only[Option.some.injEq]at hd
    have hw:Region.wanted o (yielded (opsOf (getCode body p)) a.tmps)=true:=by simp[Region.wanted,hg]
    simp only[wpOp,ho,if_pos hw]
    refine .inl ?_
    obtain⟨c,w',h2,h3,h4⟩:=hr wx hm
    have h5:(execOp a.eval o).run P wx=.ok (.value (v c)) w':=by
     rw[hf.rho hk,hx]
     simp only[asV,Sem.run_bind,h2,Result.andThen_ok,Sem.run_pure]
    simp only[Oper.wp,h5,Oper.upon_value]
    rw[hd]
    exact hh c w' h3 h4 _ _ (hf.put (hp c)) h4.again
   ·cases hd
  ·cases hd
 ·cases hd
theorem holds_anyV{p:List Nat}{i f0:Nat}{ls ls':Array Bool}{k:List KI}{st:St}{dst:Option Nat}{x:Sem Value}{w:World}{S':Nat->Prop}(v:Y->Value)(bk':List Bk)(X:Y->World->Prop)(sl:Y->List (Nat×Value))
  (hl:ls.setIfInBounds i true=ls') (hr0:Region.ready .any (opsOf (getCode body p)) ls=[i])
  (hd:dstAt (opsOf (getCode body p)) st.sl i=some dst) (hx:semAt (opsOf (getCode body p)) st.sl i=some (asV x)) (hp:∀c,putS n st.sl dst (v c)=some (sl c))
  (hr:∀wx,MemOk w0 S st.bk st.wn st.sz wx->∃c w',x.run P wx=.ok (v c) w'∧X c w'∧MemOk w S' bk' [] w'.heap.size w')
  (hh:∀c W,X c W->MemOk w S' bk' [] W.heap.size W->Holds D P body n W (Turned bk') Q (.any p f0 ls'::k) ⟨sl c,bk',[],W.heap.size⟩):Holds D P body n w0 S Q (.any p (f0+1) ls::k) st:=by
 intro a wx hf hm
 subst hl
 simp only[sem]
 refine⟨fun h=>(by rw[hr0]at h; cases h),fun j hj=>?_⟩
 rw[hr0,List.mem_singleton]at hj
 subst hj
 unfold dstAt at hd
 unfold semAt at hx
 split at hd
 ·rename_i o ho
  simp only[ho,Option.some.injEq]at hx
  split at hd
  ·rename_i hg
   split at hd
   ·rename_i hk
    simp only[Option.some.injEq]at hd
    have hw:Region.wanted o (yielded (opsOf (getCode body p)) a.tmps)=true:=by simp[Region.wanted,hg]
    simp only[wpOp,ho,if_pos hw]
    refine .inl ?_
    obtain⟨c,w',h2,h3,h4⟩:=hr wx hm
    have h5:(execOp a.eval o).run P wx=.ok (.value (v c)) w':=by
     rw[hf.rho hk,hx]
     simp only[asV,Sem.run_bind,h2,Result.andThen_ok,Sem.run_pure]
    simp only[Oper.wp,h5,Oper.upon_value]
    rw[hd]
    have h6:=hh c w' h3 h4 _ _ (hf.put (hp c)) h4.again
    simpa only[sem]using h6
   ·cases hd
  ·cases hd
 ·cases hd
end
end Go.Proofs.YtcmpkkapkdlfhaaGreat
namespace Go.Proofs.YtcmpkkapkdlfhaaGreat
open Go.RowKit
section
variable {P:Program}{D:List Deferred}{body:Code}{n:Nat}{w0:World}{S:Nat->Prop}{Q:Exit->Act->World->Prop}
variable {ops:Array Oper}{sl0:List (Nat×Value)}{vs:List (Option Value)}{ms:List (List Bk)}{wn:List Wn}{z0:Nat}{stg:List (Option Nat)}{J:Nat}
end
def CNews(z0:Nat)(sp:List (Nat×TypeId×Nat×List Value)):Nat->Value->World->Prop:=fun k v w=>
 ∃x,List.lookup k sp=some x∧∃g,z0<=g∧v=.slice (some ⟨g,0,none⟩) x.2.1 x.2.1∧Blk w g x.1 x.2.2
theorem cnews_stable{z0:Nat}{sp:List (Nat×TypeId×Nat×List Value)}{bk:List Bk}(hz:∀b∈bk,b.g<z0):∀k v w w',CNews z0 sp k v w->Kept (Turned bk) w w'->CNews z0 sp k v w':=
 fun k v w w' ⟨x,h1,g,h2,h3,h4⟩ hk=>⟨x,h1,g,h2,h3,h4.kept hk (fun⟨b,hb,_,he⟩=>by have:=hz b hb; omega)⟩
section
variable {P:Program}{D:List Deferred}{body:Code}{n:Nat}{w0:World}{S:Nat->Prop}{Q:Exit->Act->World->Prop}
variable {ops:Array Oper}{sl0:List (Nat×Value)}{vs:List (Option Value)}{ms:List (List Bk)}{wn:List Wn}{z0:Nat}{stg:List (Option Nat)}{J:Nat}
theorem cert_newN{bk0:List Bk}(hrow:rowsOf ms=List.replicate (J+1) (bk0.map fun x=>(x.g,x.rw))){i:Nat}{h:OH}{ob:List Prop}{rs:List (Nat×Nat×Nat)}{e:TypeId}{L:Nat}{l:List Value}{sp:List (Nat×TypeId×Nat×List Value)}(hsp:List.lookup i sp=some (e,L,l))(hs:stgOf stg i=none)(hv:vkOf vs i=none)
  (he:∀sz,(List.range (J+1)).map (regEnt P ops sl0 vs ms wn sz i h)=(List.range (J+1)).map (fun j=>(ms[j]?).map fun bk=>(ob,dupR rs,Value.slice (some ⟨sz,0,none⟩) L L,bk++[⟨sz,e,true,l⟩],sz+1))) (ho:All ob) :
  CertG (wpOp P ops Q) D n ops sl0 stg J (MG w0 S ms wn z0) (Turned bk0) (PvG vs (CNews z0 sp)) i:=by
 intro j a w K hj _ _ hf hk hm hK
 obtain⟨bk,hb,hz,hM⟩:=hm
 have h1:=congrArg (fun l=>l[j]?) (he w.heap.size)
 simp only[List.getElem?_map,List.getElem?_range (show j<J+1 by omega),Option.map_some,Option.some.injEq,regEnt,hb]at h1
 have hT:=turned_same (rows_at hrow hb)
 refine opG_soundW (w0:=w) (S:=Turned bk) h1 ho (dupR_good _) (knows_slG hf _ hk) hM.again (fun w' hm'=>?_)
 have hB:=hm'.blk ⟨w.heap.size,e,true,l⟩ (by simp)
 have hm3:=hm'.less
 have hm2:MemOk w (Turned bk) bk wn w'.heap.size w':=by rw[hm'.size]; exact hm3
 refine hK _ w' ?_ (hT▸hm'.kept) ⟨bk,?_,Nat.le_trans hz hm'.kept.size,hM.onto hm2 rfl⟩
 ·simp only[PvG,hv]
  exact⟨_,hsp,_,hz,rfl,hB⟩
 ·unfold nextG
  rw[hs]
  exact hb
theorem cert_asgN{bk0:List Bk}{i k d:Nat}{sp:List (Nat×TypeId×Nat×List Value)}(hn:k∈needsOf ops i)(hd:dstOf ops k=some d)(hvk:vkOf vs k=none)(hsp:List.lookup i sp=List.lookup k sp)(hs:stgOf stg i=none)(hv:vkOf vs i=none)
  (hda:∀v,dstAt ops [(d,v)] i=some (dstOf ops i)) (hse:∀v,semAt ops [(d,v)] i=some (asV (pure v))) :
  CertG (wpOp P ops Q) D n ops sl0 stg J (MG w0 S ms wn z0) (Turned bk0) (PvG vs (CNews z0 sp)) i:=by
 refine cert_op fun j a w _ _ _ hf hk hm=>?_
 obtain⟨v,hv1,hv2⟩:=hk k hn d hd
 simp only[PvG,hvk]at hv2
 obtain⟨x,h1,h2⟩:=hv2
 refine⟨_,_,v,w,⟨hf.size,hf.df,fun p u hq=>?_⟩,hda v,hse v,rfl,?_,Kept.refl _ _,?_⟩
 ·simp only[getS]at hq
  split at hq
  ·rename_i he
   have he':d=p:=Nat.eq_of_beq_eq_true he
   subst he'
   simp only[Option.some.injEq]at hq
   subst hq
   exact hv1
  ·cases hq
 ·simp only[PvG,hv]
  exact⟨x,hsp.trans h1,h2⟩
 ·unfold nextG
  rw[hs]
  exact hm
theorem holds_mixU{p:List Nat}{k:List KI}{st:St}{vs:List (Option Value)}(C:Nat->Value->World->Prop){ms:List (List Bk)}{stg:List (Option Nat)}{J:Nat}(ks:List Nat){sl':List (Nat×Value)}{bk':List Bk}(iu du iv dv:Nat)
  (hc:isDraw (getCode body p)=true) (hmx:P.follows .mixedOrders=true) (h1:mixChk n (opsOf (getCode body p)) [] (opsOf (getCode body p)).size J stg=true)
  (hst:∀k v w w',C k v w->Kept (Turned st.bk) w w'->C k v w')
  (hcert:∀i,i<(opsOf (getCode body p)).size->CertG (wpOp P (opsOf (getCode body p)) (sem P body Q k)) D n (opsOf (getCode body p)) (slI (opsOf (getCode body p)) st.sl i) stg J (MG w0 S ms st.wn st.sz) (Turned st.bk) (PvG vs C) i)
  (h0:ms[0]?=some st.bk) (hJ:ms[J]?=some bk') (hwn:st.wn=[]) (hiu:iu<(opsOf (getCode body p)).size) (hiv:iv<(opsOf (getCode body p)).size) (hdu:dstOf (opsOf (getCode body p)) iu=some du) (hdv:dstOf (opsOf (getCode body p)) iv=some dv) (hvu:vkOf vs iu=none) (hvv:vkOf vs iv=none)
  (hsl:keepS (slG (opsOf (getCode body p)) vs (slE (opsOf (getCode body p)) st.sl) (List.range (opsOf (getCode body p)).size)) ks=sl')
  (hh:∀v u W,C iu v W->C iv u W->st.sz<=W.heap.size->MemOk w0 S bk' [] W.heap.size W->Holds D P body n W (Turned bk') Q k ⟨(du,v)::(dv,u)::sl',bk',[],W.heap.size⟩):Holds D P body n w0 S Q (.code p::k) st:=by
 intro a w hf hm
 obtain⟨id,hc⟩:=draw_of hc
 subst hsl
 simp only[sem]
 rw[hc]
 refine wp_region_any hmx ?_
 rw[wpAny_anyG]
 have e:∀i,(Array.replicate (opsOf (getCode body p)).size false).getD i false=false:=fun i=>by
  simp only[Array.getD]
  split
  ·simp
  ·rfl
 refine anyMixG h1 (fun k v w w' hv hk=>?_) hcert ?_ _ _ 0 a _ (by simp) ⟨hf.size,hf.df,fun q v hq _=>hf.val q v hq,fun k hk=>(by rw[e]at hk; cases hk),by simp,fun i d hi=>(by rw[e]at hi; cases hi),fun i s _=>(by rw[e]; exact⟨fun h=>(by cases h),fun h=>(by omega)⟩),Nat.zero_le _,st.bk,h0,Nat.le_of_eq hm.size.symm,rfl,hm.blk,hm.own,hm.nd,hm.kept.drew,hm.win⟩
 ·unfold PvG at *
  split at hv
  ·exact hv
  ·exact hst _ _ _ _ hv hk
 ·intro a' w' hM hf' hk'
  obtain⟨bk,hb,hz,hM⟩:=hM
  rw[hJ]at hb
  cases hb
  have h2:=knows_slG hf' _ hk'
  obtain⟨v,hv1,hv2⟩:=hk' iu (List.mem_range.2 hiu) du hdu
  obtain⟨u,hu1,hu2⟩:=hk' iv (List.mem_range.2 hiv) dv hdv
  simp only[PvG,hvu]at hv2
  simp only[PvG,hvv]at hu2
  rw[hwn]at hM
  refine hh v u w' hv2 hu2 hz hM a' w' ⟨h2.size,h2.df,fun i x hi=>?_⟩ hM.again
  simp only[getS]at hi
  split at hi
  ·rename_i he
   have he':du=i:=Nat.eq_of_beq_eq_true he
   subst he'
   simp only[Option.some.injEq]at hi
   subst hi
   exact hv1
  ·split at hi
   ·rename_i he
    have he':dv=i:=Nat.eq_of_beq_eq_true he
    subst he'
    simp only[Option.some.injEq]at hi
    subst hi
    exact hu1
   ·exact h2.val i x (getS_keepS ks i x hi)
end
theorem own_of_blk{w:World}{base g:Nat}{e:TypeId}{z n:Nat}{cs:List Value}(hb:base<=g)(hB:Blk w g e cs)(hl:cs.length=n*z)(hn:n<=100000):OwnR w base e z (some ⟨g,0,none⟩) n n cs:=
 ownR_of (r:=[]) hb (by rw[List.append_nil]; exact hB) (Nat.le_refl _) (by simp only[maxLen]; omega) hl (by rw[List.append_nil]; exact hl)
end Go.Proofs.YtcmpkkapkdlfhaaGreat
