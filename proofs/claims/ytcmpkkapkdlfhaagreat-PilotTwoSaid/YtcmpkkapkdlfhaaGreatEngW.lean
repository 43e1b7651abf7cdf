import Derived.Test.YtcmpkkapkdlfhaaGreatEngR
import Derived.ScopeJumps
namespace Go.Proofs.YtcmpkkapkdlfhaaGreat
open Go.RowKit
section
variable {P:Program}{body:Code}{n:Nat}
theorem callsIn_of_holdsR{F:Fence}{m:Nat}{fid:FuncId}{fn:Func}{l:List Value}{w:World}{R:Ending->World->Prop}{S:Nat->Prop}{bk:List Bk}{wn:List Wn}
  (hF:∀f,F.fn f) (hro:F.round=none) (hf:P.funcs[fid]?=some fn) (hb:fn.body=some body) (hn:fn.ntmps=n) (hl:l.length<=n) (hm:MemOk w S bk wn w.heap.size w)
  (h:HoldsR F m [] P body n w S (bodyPost P fn R) [.code []] ⟨enumS 0 l,bk,wn,w.heap.size⟩):CallsIn F m P fid l.toArray w R:=by
 refine callsIn_of_wp hf hb (hF _) ?_ hro
 have hg:getCode body []=body:=by cases body<;>rfl
 have h1:=h { tmps:=l.toArray++Array.replicate (fn.ntmps-l.toArray.size) undef,defers:=[] } w
  ⟨by simp; omega,rfl,fun i v hi=>by
   obtain⟨_,h2⟩:=getS_enumS l 0 i v hi
   simp only[Nat.sub_zero]at h2
   have hlt:=(List.getElem?_eq_some_iff.1 h2).1
   rw[Array.getElem?_append_left (by simpa using hlt)]
   simpa using h2⟩ hm
 simp only[semR,hg]at h1
 exact wpIn_mono h1 fun e a w h2=>h2
theorem holdsR_end{F:Fence}{m:Nat}{D:List Deferred}{w0:World}{S:Nat->Prop}{Q:Exit->Act->World->Prop}{st:St}(h:∀a w,FrOk D n st.sl a->MemOk w0 S st.bk st.wn st.sz w->Q .normal a w):HoldsR F m D P body n w0 S Q [] st:=h
theorem holdsR_fin{F:Fence}{m:Nat}{w0:World}{S:Nat->Prop}{fn:Func}{R:Ending->World->Prop}{st:St}(hr:fn.results.toList=[])
  (h:∀w,MemOk w0 S st.bk st.wn st.sz w->R (.returned (oneOf [])) w):HoldsR F m [] P body n w0 S (bodyPost P fn R) [] st:=by
 intro a w hf hm
 exact⟨hf.df,_,results_of (vs:=[]) (rs:=[]) (hs:=[]) hf hm (by rw[hr]; rfl),h w hm⟩
theorem semR_ret{F:Fence}{m:Nat}{Q:Exit->Act->World->Prop}{a:Act}{w:World}(h:Q .ret a w):∀(k:List KI),semR F m P body Q k .ret a w:=by
 intro k
 induction k with
 |nil=>exact h
 |cons x k ih=>cases x<;>exact ih
theorem sem_ret{Q:Exit->Act->World->Prop}{a:Act}{w:World}(h:Q .ret a w):∀(k:List KI),sem P body Q k .ret a w:=by
 intro k
 induction k with
 |nil=>exact h
 |cons x k ih=>cases x<;>exact ih
theorem holdsR_ret{F:Fence}{m:Nat}{D:List Deferred}{w0:World}{S:Nat->Prop}{Q:Exit->Act->World->Prop}{st:St}{p:List Nat}{k:List KI}(hc:getCode body p=.ret)
  (h:∀a w,FrOk D n st.sl a->MemOk w0 S st.bk st.wn st.sz w->Q .ret a w):HoldsR F m D P body n w0 S Q (.code p::k) st:=by
 intro a w hf hm
 simp only[semR,hc]
 exact wpIn_ret (semR_ret (h a w hf hm) k)
def markD(D:Nat):List Deferred:=[{ target:=.collected D,args:=#[] }]
theorem MemOk.shut{w0 w:World}{S:Nat->Prop}{bk:List Bk}{sz D:Nat}(hm:MemOk w0 S bk [] sz w)(hD:w.heap[D]?=some (.deferred (some []))):MemOk w0 (fun x=>S x∨x=D) bk [] sz (w.putObj D (.deferred Option.none)):=by
 have hne:∀b∈bk,b.g≠D:=fun b hb e=>by
  have h1:=hm.blk b hb
  unfold Blk at h1
  rw[e,hD]at h1
  cases h1
 refine⟨by simpa using hm.size,fun b hb=>?_,fun b hb hr=>(hm.own b hb hr).imp_left .inl,hm.nd,?_,by simp⟩
 ·exact(World.putObj_heap_other (hne b hb)).trans (hm.blk b hb)
 ·refine⟨hm.kept.os,hm.kept.tape,hm.kept.output,by simpa using hm.kept.size,fun k hk hn=>?_⟩
  exact(World.putObj_heap_other (fun e=>hn (.inr e))).trans (hm.kept.block k hk (fun h=>hn (.inl h)))
theorem leavesM{w0:World}{S:Nat->Prop}{m:Nat}{fn:Func}{R:Ending->World->Prop}{sl:List (Nat×Value)}{bk:List Bk}{sz:Nat}{vs:List Value}{rs:List (Nat×Nat×Nat)}{D:Nat}(hs:List (List MH))
  (h:resL P [] bk sl fn.results.toList hs=some (vs,dupR rs)) (hR:∀w,MemOk w0 (fun x=>S x∨x=D) bk [] sz w->R (.returned (oneOf vs)) w)
  {a:Act} {w:World} (hf:FrOk (markD D) n sl a) (hm:MemOk w0 S bk [] sz w) (hD:w.heap[D]?=some (.deferred (some []))):bodyPostM Fence.wide m P fn R .ret a w:=by
 have h1:=hm.shut hD
 simp only[bodyPostM,hf.df,markD]
 refine⟨by simp,.inl ⟨_,_,rfl,run_takeDeferred hD,?_⟩⟩
 exact⟨_,results_of (D:=markD D) hf h1 h,hR _ h1⟩
theorem holds_retM{w0:World}{S:Nat->Prop}{m:Nat}{fn:Func}{R:Ending->World->Prop}{p:List Nat}{k:List KI}{sl:List (Nat×Value)}{bk:List Bk}{sz:Nat}{vs:List Value}{rs:List (Nat×Nat×Nat)}{D:Nat}(hs:List (List MH))
  (hlt:D<w0.heap.size) (hD:w0.heap[D]?=some (.deferred (some []))) (hS:¬S D)
  (hc:getCode body p=.ret) (h:resL P [] bk sl fn.results.toList hs=some (vs,dupR rs)) (hR:∀w,MemOk w0 (fun x=>S x∨x=D) bk [] sz w->R (.returned (oneOf vs)) w) :
  Holds (markD D) P body n w0 S (bodyPostM Fence.wide m P fn R) (.code p::k) ⟨sl,bk,[],sz⟩:=by
 intro a w hf hm
 simp only[sem,hc]
 refine wp_ret ?_
 exact sem_ret (leavesM hs h hR hf hm ((hm.kept.block D hlt hS).trans hD)) k
theorem calls_of_holdsM{m:Nat}{fid:FuncId}{fn:Func}{l:List Value}{w:World}{R:Ending->World->Prop}{S:Nat->Prop}{bk:List Bk}{wn:List Wn}
  (hf:P.funcs[fid]?=some fn) (hb:fn.body=some body) (hn:fn.ntmps=n) (hl:l.length<=n) (hm:MemOk w S bk wn w.heap.size w)
  (h:Holds [] P body n w S (bodyPostM Fence.wide m P fn R) [.code []] ⟨enumS 0 l,bk,wn,w.heap.size⟩):Calls P fid l.toArray w R:=by
 refine(callsIn_wide (n:=m)).1 (callsIn_of_wp_marks hf hb trivial (wpIn_wide.2 ?_) rfl)
 have hg:getCode body []=body:=by cases body<;>rfl
 have h1:=h { tmps:=l.toArray++Array.replicate (fn.ntmps-l.toArray.size) undef,defers:=[] } w
  ⟨by simp; omega,rfl,fun i v hi=>by
   obtain⟨_,h2⟩:=getS_enumS l 0 i v hi
   simp only[Nat.sub_zero]at h2
   have hlt:=(List.getElem?_eq_some_iff.1 h2).1
   rw[Array.getElem?_append_left (by simpa using hlt)]
   simpa using h2⟩ hm
 simp only[sem,hg]at h1
 exact wp_mono h1 fun e a w h2=>h2
def Turned(bk:List Bk)(k:Nat):Prop:=∃b∈bk,b.rw=true∧b.g=k
theorem MemOk.again{w0 w:World}{S:Nat->Prop}{bk:List Bk}{wn:List Wn}{sz:Nat}(hm:MemOk w0 S bk wn sz w):MemOk w (Turned bk) bk wn w.heap.size w:=by
 refine⟨rfl,hm.blk,fun b hb hr=>.inl ⟨b,hb,hr,rfl⟩,hm.nd,Kept.refl _ _,fun x hx=>?_⟩
 obtain⟨h1,h2,h3⟩:=hm.win x hx
 refine⟨fun⟨b,hb,hr,he⟩=>?_,Nat.lt_of_lt_of_le h2 hm.kept.size,fun j v hj=>?_⟩
 ·rcases hm.own b hb hr with h4|h4
  ·exact h1 (he▸h4)
  ·rw[he]at h4
   omega
 ·exact hm.winCell hx hj
theorem MemOk.onto{w0 w w':World}{S:Nat->Prop}{bk bk':List Bk}{wn:List Wn}{sz:Nat}(hm:MemOk w0 S bk wn sz w)(h:MemOk w (Turned bk) bk' wn w'.heap.size w')
  (hsame:bk'.map (fun b=>(b.g,b.rw))=bk.map (fun b=>(b.g,b.rw))):MemOk w0 S bk' wn w'.heap.size w':=by
 have hin:∀b∈bk',∃c∈bk,c.g=b.g∧c.rw=b.rw:=fun b hb=>by
  have h1:(b.g,b.rw)∈bk'.map (fun b=>(b.g,b.rw)):=List.mem_map.2 ⟨b,hb,rfl⟩
  rw[hsame]at h1
  obtain⟨c,hc,he⟩:=List.mem_map.1 h1
  simp only[Prod.mk.injEq]at he
  exact⟨c,hc,he.1,he.2⟩
 refine⟨rfl,h.blk,fun b hb hr=>?_,h.nd,hm.kept.trans h.kept (fun k hk ⟨b,hb,hr,he⟩=>?_),hm.win⟩
 ·obtain⟨c,hc,h1,h2⟩:=hin b hb
  rw[<-h1]
  exact hm.own c hc (h2.trans hr)
 ·rcases hm.own b hb hr with h4|h4
  ·exact he▸h4
  ·omega
theorem keepsFrom_turned{B:Nat}{w w':World}{bk:List Bk}(hb:∀b∈bk,Blk w b.g b.t b.cs)(h:Kept (Turned bk) w w'):KeepsFrom B w w':=by
 refine⟨h.size,fun k o _ hk ho=>?_⟩
 have hlt:=(Array.getElem?_eq_some_iff.1 hk).1
 refine(h.block k hlt (fun⟨b,hbm,_,he⟩=>?_)).trans hk
 have h1:=hb b hbm
 unfold Blk at h1
 rw[he,hk]at h1
 simp only[Option.some.injEq]at h1
 rw[h1]at ho
 cases ho
theorem ownFrom_mem{α:Type}{B:Nat}{w0:World}{S:Nat->Prop}{bks:α->List Bk}{wn:List Wn}{Ip:α->Prop}(hB:w0.heap.size<=B) :
  OwnFrom B (fun(pre:α) W=>Ip pre∧MemOk w0 S (bks pre) wn W.heap.size W∧B<=W.heap.size):=by
 rintro s W W' row ⟨hp,hm,hsz⟩ hg hr
 have hk:∀k o,W.heap[k]?=some o->(k<B∨o.isCells=true)->W'.heap[k]?=some o:=by
  intro k o ho h1
  refine(hg.block k (Array.getElem?_eq_some_iff.1 ho).1 (fun e=>?_)).trans ho
  obtain⟨h2,o',h3,h4⟩:=hr k e.symm
  rw[ho]at h3
  cases h3
  rcases h1 with h1|h1
  ·omega
  ·rw[h1]at h4
   cases h4
 refine⟨hp,⟨rfl,fun b hb=>hk _ _ (hm.blk b hb) (.inr rfl),hm.own,hm.nd,⟨hg.os.trans hm.kept.os,hg.tape.trans hm.kept.tape,hg.output.trans hm.kept.output,Nat.le_trans hm.kept.size hg.size,fun k hlt hn=>?_⟩,hm.win⟩,Nat.le_trans hsz hg.size⟩
 have h1:=hm.kept.block k hlt hn
 obtain⟨o,ho⟩:∃o,w0.heap[k]?=some o:=⟨_,Array.getElem?_eq_getElem hlt⟩
 rw[ho]at h1
 rw[ho]
 exact hk k o h1 (.inl (by omega))
theorem holds_range{α:Type}{w0:World}{S:Nat->Prop}{Q:Exit->Act->World->Prop}{p:List Nat}{k:List KI}{sl:List (Nat×Value)}{bk:List Bk}{wn:List Wn}{sz:Nat}
  {g:Operand} {pt:Tmp} {asg bd:Code} {gf:Nat} {lb:Array Value} {enc:α->Value} {Sq Spq:List α->Prop} {N Bn:Nat}
  (hc:getCode body p=.rangeFunc g #[pt] asg bd) (hg:opd sl g=some (.func (.func gf) #[] lb)) (eg:∀args w,(callFunc gf args).run P w=.ok (.enter gf args) w)
  (hBn:∀w,MemOk w0 S bk wn sz w->Bn<sz) (hBt:¬Turned bk Bn)
  (hseq:∀w,MemOk w0 S bk wn sz w->SeqStopsK Fence.wide 4 P gf lb (fun x=>#[enc x]) (fun W W'=>Kept (fun x=>x≠Bn) W W') Sq Spq N w)
  (Ip Xp:List α->Prop) (bks bksx:List α->List Bk) (h0:bks []=bk) (hI0:Ip []) (hbs:∀pre,(bks pre).map (fun b=>(b.g,b.rw))=bk.map (fun b=>(b.g,b.rw))) (hbx:∀pre,(bksx pre).map (fun b=>(b.g,b.rw))=bk.map (fun b=>(b.g,b.rw)))
  (sl₁:α->List (Nat×Value))
  (sl₀:α->List (Nat×Value)) (hsl₀:∀x,putS n sl (some pt) (enc x)=some (sl₀ x))
  (hassign:∀(x:α)(l:Nat)(W:World),HoldsR (Fence.wide.inRound l) 3 [] P body n W (fun _=>False) (fun e a' W'=>e=.normal∧Kept (fun _=>False) W W'∧FrOk [] n (sl₁ x) a') [.code (p++[0])] ⟨sl₀ x,[],[],W.heap.size⟩)
  (hbody:∀(l:Nat)(pre:List α)(x:α)(W:World)(z:Nat),sz<=z->Ip pre->pre.length<N->HoldsR (Fence.wide.inRound l) 3 [] P body n W (Turned (bks pre))
   (fun e _ W'=>(e=.normal∧Ip (pre++[x])∧MemOk W (Turned (bks pre)) (bks (pre++[x])) wn W'.heap.size W')∨(e=.ret∧Xp (pre++[x])∧MemOk W (Turned (bks pre)) (bksx (pre++[x])) wn W'.heap.size W')) [.code (p++[1])] ⟨sl₁ x,bks pre,wn,z⟩)
  (hdone:∀(D:Nat)(xs:List α)(W:World),Sq xs->Ip xs->MemOk w0 S (bks xs) wn W.heap.size W->sz<=D->sz<=W.heap.size->W.heap[D]?=some (.deferred (some []))->Holds (markD D) P body n W (Turned (bks xs)) Q k ⟨sl,bks xs,wn,W.heap.size⟩)
  (hstop:∀(D:Nat)(pre:List α)(W:World),Spq pre->Xp pre->MemOk w0 S (bksx pre) wn W.heap.size W->sz<=D->sz<=W.heap.size->W.heap[D]?=some (.deferred (some []))->∀a,FrOk (markD D) n sl a->Q .ret a W) :
  Holds [] P body n w0 S Q (.code p::k) ⟨sl,bk,wn,sz⟩:=by
 intro a w hf hm
 simp only[sem,hc]
 have hz:w.heap.size=sz:=hm.size
 have hw0:w0.heap.size<=w.heap.size:=hm.kept.size
 have hT:∀pre,Turned (bks pre)=Turned bk:=fun pre=>by
  funext y
  apply propext
  have h1:∀(l:List Bk),Turned l y↔(y,true)∈l.map (fun b=>(b.g,b.rw)):=fun l=>by
   simp only[Turned,List.mem_map,Prod.mk.injEq]
   exact⟨fun⟨b,h1,h2,h3⟩=>⟨b,h1,h3,h2⟩,fun⟨b,h1,h2,h3⟩=>⟨b,h1,h3,h2⟩⟩
  rw[h1,h1,hbs]
 have hget:getCode body (p++[1])=bd:=by simp only[getCode_append,hc,getCode]
 refine(wpIn_wide (n:=5)).1 ?_
 refine wpIn_rangeFunc_ownH (encs:=fun x=>#[enc x]) (N:=N) (F:=Fence.wide) (w0:=w) (gf:=gf) (lb:=lb) rfl (by omega) (hf.eval hg) trivial eg (hseq w hm) (fun h h'=>h.trans h' (fun _ _=>id)) ?hKb (Below.refl _ _) (fun _=>rfl)
  (fun pre W=>Ip pre∧MemOk w0 S (bks pre) wn W.heap.size W∧w.heap.size<=W.heap.size)
  (fun c pre W=>(c=.ret∧Xp pre)∧MemOk w0 S (bksx pre) wn W.heap.size W∧w.heap.size<=W.heap.size) (ownFrom_mem hw0) (fun c=>ownFrom_mem hw0) ⟨hI0,by rw[h0,hz]; exact hm,Nat.le_refl _⟩
  (fun x a' _=>FrOk [] n (sl₁ x) a') (fun x a' _ _ _ _ h _ _=>h) ?assign ?body ?done ?stop
 case hKb=>
  intro W l o o' hl ho _ _
  have hb:=hBn w hm
  exact⟨rfl,rfl,rfl,by simp,fun k _ hn=>World.putObj_heap_other (by omega)⟩
 case assign=>
  intro l pre x W K hI hK
  have hg0:getCode body (p++[0])=asg:=by simp only[getCode_append,hc,getCode]
  have hf':FrOk [] n sl { tmps:=a.tmps,defers:=[] }:=⟨hf.size,rfl,hf.val⟩
  have h1:=hassign x l W _ W (hf'.put (hsl₀ x)) (MemOk.none W _)
  simp only[semR,hg0]at h1
  have hfr:({ tmps:=(#[pt].zip #[enc x]).foldl (fun t (p,v)=>t.setIfInBounds p v) a.tmps,defers:=[] }:Act)=({ tmps:=a.tmps,defers:=[] }:Act).put (some pt) (enc x):=by
   simp[Act.put]
  rw[<-hfr]at h1
  refine wpIn_mono h1 fun e a' W' h2=>?_
  obtain⟨rfl,h3,h4⟩:=(show e=.normal∧_∧_ from h2)
  obtain⟨hp,hI,hsz⟩:=hI
  have h5:=hI.same h3
  exact hK a' _ ⟨h3.size,fun k o _ ho _=>(h3.block k (Array.getElem?_eq_some_iff.1 ho).1 id).trans ho⟩ (h3.mono (fun _ _ h=>h.elim)) ⟨hp,h5.2,Nat.le_trans hsz h3.size⟩ h4
 case body=>
  rintro l pre x a' W _ _ ⟨hp,hI,hsz⟩ hA hlen
  have h1:=hbody l pre x W W.heap.size (by omega) hp hlen a' W hA hI.again
  simp only[semR,hget]at h1
  refine wpIn_mono h1 fun e a2 W' h2=>?_
  have hkk:∀bk',(bk'.map (fun b:Bk=>(b.g,b.rw))=bk.map (fun b=>(b.g,b.rw)))->MemOk W (Turned (bks pre)) bk' wn W'.heap.size W'->KeepsFrom w.heap.size W W'∧Kept (fun x=>x≠Bn) W W'∧MemOk w0 S bk' wn W'.heap.size W'∧w.heap.size<=W'.heap.size:=fun bk' hs h=>by
   refine⟨keepsFrom_turned hI.blk h.kept,h.kept.mono (fun k _ h3 h4=>?_),hI.onto h (hs.trans (hbs pre).symm),Nat.le_trans hsz h.kept.size⟩
   rw[hT]at h3
   exact hBt (h4▸h3)
  cases e with
  |normal=>
   rcases (show _∨_ from h2)with⟨_,h3,h4⟩|⟨h,_⟩
   ·obtain⟨q1,q2,q3,q4⟩:=hkk _ (hbs _) h4
    exact⟨q1,q2,h3,q3,q4⟩
   ·cases h
  |ret=>
   rcases (show _∨_ from h2)with⟨h,_⟩|⟨_,h3,h4⟩
   ·cases h
   ·obtain⟨q1,q2,q3,q4⟩:=hkk _ (hbx _) h4
    exact⟨q1,⟨rfl,h3⟩,q3,q4⟩
  |_=>rcases (show _∨_ from h2)with⟨h,_⟩|⟨h,_⟩<;>cases h
 case done=>
  rintro D xs W hD hS ⟨hp,hI,hsz⟩ hK
  have h1:=hdone D xs W hS hp hI (by omega) (by omega) hK { a with defers:={ target:=.collected D,args:=#[] }::a.defers } W ⟨hf.size,by simp[hf.df,markD],hf.val⟩ hI.again
  exact h1
 case stop=>
  rintro D c pre W hD hS ⟨⟨rfl,hp⟩,hI,hsz⟩ hK
  refine wpIn_ret (sem_ret (hstop D pre W hS hp hI (by omega) (by omega) hK { a with defers:={ target:=.collected D,args:=#[] }::a.defers } ⟨hf.size,by simp[hf.df,markD],hf.val⟩) k)
end
section
variable {D:List Deferred}{P:Program}{body:Code}{n:Nat}{w0:World}{S:Nat->Prop}{Q:Exit->Act->World->Prop}
theorem holds_anyStart{p:List Nat}{k:List KI}{st:St}{f:Nat}{ls:Array Bool}(hc:isDraw (getCode body p)=true)(hm:P.follows .mixedOrders=true)(hz:(opsOf (getCode body p)).size=f)
  (hl:Array.replicate (opsOf (getCode body p)).size false=ls) (hh:Holds D P body n w0 S Q (.any p f ls::k) st):Holds D P body n w0 S Q (.code p::k) st:=by
 intro a w hf hmm
 obtain⟨id,hc⟩:=draw_of hc
 subst hl hz
 simp only[sem]
 rw[hc]
 refine wp_region_any hm ?_
 have h1:=hh a { w with drawn:=w.drawn+1 } hf ⟨hmm.size,hmm.blk,hmm.own,hmm.nd,hmm.kept.drew,hmm.win⟩
 simpa only[sem]using h1
def Edge(D:List Deferred)(P:Program)(body:Code)(n:Nat)(w0:World)(S:Nat->Prop)(Q:Exit->Act->World->Prop)(p:List Nat)(f:Nat)(k:List KI)(ls:Array Bool)(st:St)(i:Nat):Prop:=
 ∀a w,FrOk D n st.sl a->MemOk w0 S st.bk st.wn st.sz w->wpOp P (opsOf (getCode body p)) (sem P body Q k) i (wpAny P .any (opsOf (getCode body p)) (sem P body Q k) f (ls.setIfInBounds i true)) a w
theorem edge_op{p:List Nat}{f i:Nat}{k:List KI}{ls ls':Array Bool}{st st':St}{h0:OH}{ob:List Prop}{rs:List (Nat×Nat×Nat)}{ks:List Nat}(hl:ls.setIfInBounds i true=ls')
  (h:Out.prune ks (opStep P n (opsOf (getCode body p)) st i h0)=some ⟨ob,dupR rs,st'⟩) (ho:All ob) (hh:Holds D P body n w0 S Q (.any p f ls'::k) st'):Edge D P body n w0 S Q p f k ls st i:=by
 subst hl
 intro a w hf hm
 obtain⟨r,hr,h1,h2,h3⟩:=out_prune h
 dsimp only at h1 h2 h3
 refine opStep_sound hr (by rw[h1]; exact ho) (by rw[h2]; exact dupR_good rs) hf hm (fun a' w' hf' hm'=>?_)
 have h4:=holds_prune (D:=D) (P:=P) (body:=body) (n:=n) (w0:=w0) (S:=S) (Q:=Q) (k:=.any p f (ls.setIfInBounds i true)::k) (st:=r.st) ks [] (by rw[h3]; exact hh) a' w' hf' hm'
 simpa only[sem]using h4
theorem eop{p:List Nat}{f i:Nat}{k:List KI}{ls:Array Bool}{st:St}(ls':Array Bool)(h0:OH)(ks:List Nat)(ob:List Prop)(rs:List (Nat×Nat×Nat))(st':St)(ho:All ob)(hh:Holds D P body n w0 S Q (.any p f ls'::k) st')(hl:ls.setIfInBounds i true=ls':=by kernel_rfl)
  (h:Out.prune ks (opStep P n (opsOf (getCode body p)) st i h0)=some ⟨ob,dupR rs,st'⟩:=by kernel_rfl):Edge D P body n w0 S Q p f k ls st i:=edge_op hl h ho hh
theorem holds_anyAll{p:List Nat}{f:Nat}{k:List KI}{ls:Array Bool}{st:St}{l:List Nat}(hr:Region.ready .any (opsOf (getCode body p)) ls=l)(hne:l≠[])(h:All (l.map (Edge D P body n w0 S Q p f k ls st))) :
  Holds D P body n w0 S Q (.any p (f+1) ls::k) st:=by
 intro a w hf hm
 simp only[sem]
 refine⟨fun h'=>absurd (hr.symm.trans h') hne,fun i hi=>?_⟩
 rw[hr]at hi
 have h2:∀(l:List Nat),All (l.map (Edge D P body n w0 S Q p f k ls st))->∀i∈l,Edge D P body n w0 S Q p f k ls st i:=by
  intro l
  induction l with
  |nil=>intro _ i hi; cases hi
  |cons x l ih=>
   intro h i hi
   rcases List.mem_cons.1 hi with rfl|hi
   ·exact h.1
   ·exact ih h.2 i hi
 exact h2 l h i hi a w hf hm
end
def qStepG(P:Program)(n:Nat)(w0:World)(S:Nat->Prop)(ops:Array Oper)(o:Oper)(st:St)(dec:Bool)(h:QH):Option Out:=
 match o.guard with
 |none=>qExec P n w0 S o st h
 |some (j,want)=>match (ops[j]?).bind (·.dst)with
  |none=>none
  |some t=>match getS st.sl t with
   |some (.bool c)=>match (dec==want)with
    |true=>Out.ask (c=dec) (qExec P n w0 S o st h)
    |false=>Out.ask (c=dec) (opSkip n o st)
   |some (.tuple _)=>opSkip n o st
   |_=>none
def qListG(P:Program)(n:Nat)(w0:World)(S:Nat->Prop)(ops:Array Oper):List Oper->St->List (Bool×QH)->Option Out
 |[],st,_=>some ⟨[],[],st⟩
 |_::_,_,[]=>none
 |o::l,st,(dec,h)::hs=>match qStepG P n w0 S ops o st dec h with
  |none=>none
  |some r=>match qListG P n w0 S ops l r.st hs with
   |none=>none
   |some r'=>some ⟨r.ob++r'.ob,r.eqs++r'.eqs,r'.st⟩
section
variable {D:List Deferred}{P:Program}{n:Nat}{w0:World}{S:Nat->Prop}{ops:Array Oper}
theorem qSkip_st{o:Oper}{st:St}{r:Out}(he:opSkip n o st=some r):r.st.bk=st.bk∧r.st.wn=st.wn∧r.st.sz=st.sz:=by
 unfold opSkip at he
 split at he
 ·simp only[Option.some.injEq]at he
  subst he
  exact⟨rfl,rfl,rfl⟩
 ·cases he
theorem qStepG_sound{o:Oper}{l:List Oper}{st:St}{dec:Bool}{h:QH}{r:Out}(he:qStepG P n w0 S ops o st dec h=some r)(ho:All r.ob)(hg:Good r.eqs){a:Act}(hf:FrOk D n st.sl a){K:Act->Prop}{E:Prop}
  (hK:∀a',FrOk D n r.st.sl a'->wpQuiet P ops (MemC w0 S st.bk st.wn st.sz) K l a'∧E):wpQuiet P ops (MemC w0 S st.bk st.wn st.sz) K (o::l) a∧E:=by
 have doit:∀r',qExec P n w0 S o st h=some r'->All r'.ob->r'.eqs=r.eqs->r'.st=r.st->Region.wanted o (yielded ops a.tmps)=true->wpQuiet P ops (MemC w0 S st.bk st.wn st.sz) K (o::l) a∧E:=by
  intro r' h1 h2 h3 h4 hw
  have h5:=qExec_sound h1 h2 (by rw[h3]; exact hg) hf (K:=fun a'=>wpQuiet P ops (MemC w0 S st.bk st.wn st.sz) K l a'∧E) (fun a' hf'=>hK a' (by rw[<-h4]; exact hf'))
  obtain⟨v,q1,q2⟩:=h5
  refine⟨?_,q2.2⟩
  simp only[wpQuiet,if_pos hw]
  exact⟨v,q1,q2.1⟩
 have skip:∀r',opSkip n o st=some r'->r'.st=r.st->Region.wanted o (yielded ops a.tmps)=false->wpQuiet P ops (MemC w0 S st.bk st.wn st.sz) K (o::l) a∧E:=by
  intro r' h1 h4 hw
  have h5:=opSkip_sound h1 hf
  have h6:=hK _ (by rw[<-h4]; exact h5.1)
  refine⟨?_,h6.2⟩
  have hw':¬Region.wanted o (yielded ops a.tmps)=true:=by
   rw[hw]
   decide
  simp only[wpQuiet,if_neg hw']
  exact h6.1
 unfold qStepG at he
 split at he
 ·rename_i hgd
  exact doit r he ho rfl rfl (by simp[Region.wanted,hgd])
 ·rename_i j want hgd
  split at he
  ·cases he
  ·rename_i t ht
   split at he
   ·rename_i c hc
    have hy:yielded ops a.tmps j=some c:=by
     have:=hf.val t _ hc
     simp[yielded,ht,this]
    split at he
    ·rename_i hd
     obtain⟨r',hr',rfl⟩:=ask_some he
     have h1:c=dec:=ho.1
     have h2:dec=want:=by simpa using hd
     exact doit r' hr' ho.2 rfl rfl (by simp[Region.wanted,hgd,hy,h1,h2])
    ·rename_i hd
     obtain⟨r',hr',rfl⟩:=ask_some he
     have h1:c=dec:=ho.1
     have h2:¬dec=want:=by simpa using hd
     exact skip r' hr' rfl (by simp[Region.wanted,hgd,hy,h1,h2])
   ·rename_i vs hc
    have hy:yielded ops a.tmps j=none:=by
     have:=hf.val t _ hc
     simp[yielded,ht,this]
    exact skip r he rfl (by simp[Region.wanted,hgd,hy])
   ·cases he
theorem qStepG_st{o:Oper}{st:St}{dec:Bool}{h:QH}{r:Out}(he:qStepG P n w0 S ops o st dec h=some r):r.st.bk=st.bk∧r.st.wn=st.wn∧r.st.sz=st.sz:=by
 unfold qStepG at he
 split at he
 ·exact qExec_st he
 ·split at he
  ·cases he
  ·split at he
   ·split at he
    ·obtain⟨r',hr',rfl⟩:=ask_some he
     have h7:=qExec_st hr'
     exact h7
    ·obtain⟨r',hr',rfl⟩:=ask_some he
     have h7:=qSkip_st hr'
     exact h7
   ·exact qSkip_st he
   ·cases he
theorem qListG_sound:∀(l:List Oper)(st:St)(hs:List (Bool×QH))(r:Out),qListG P n w0 S ops l st hs=some r->All r.ob->Good r.eqs->∀(a:Act),FrOk D n st.sl a->∀(K:Act->Prop),
  (∀a',FrOk D n r.st.sl a'->K a')->wpQuiet P ops (MemC w0 S st.bk st.wn st.sz) K l a∧r.st.bk=st.bk∧r.st.wn=st.wn∧r.st.sz=st.sz
 |[],st,hs,r,he,_,_,a,hf,K,hK=>by
  simp only[qListG,Option.some.injEq]at he
  subst he
  exact⟨hK a hf,rfl,rfl,rfl⟩
 |o::l,st,[],r,he,_,_,_,_,_,_=>by cases he
 |o::l,st,(dec,h)::hs,r,he,ho,hg,a,hf,K,hK=>by
  simp only[qListG]at he
  split at he
  ·cases he
  ·rename_i r1 h1
   split at he
   ·cases he
   ·rename_i r2 h2
    simp only[Option.some.injEq]at he
    subst he
    obtain⟨o1,o2⟩:=all_append ho
    obtain⟨e1,e2,e3⟩:=qStepG_st h1
    refine qStepG_sound h1 o1 (fun e he=>hg e (List.mem_append_left _ he)) hf fun a' hf'=>?_
    have h3:=qListG_sound l r1.st hs r2 h2 o2 (fun e he=>hg e (List.mem_append_right _ he)) a' hf' K hK
    rw[e1,e2,e3]at h3
    exact h3
variable {body:Code}{Q:Exit->Act->World->Prop}
theorem holds_quietG{p:List Nat}{k:List KI}{st st':St}{ob:List Prop}{rs:List (Nat×Nat×Nat)}(hs:List (Bool×QH))(ks:List Nat)
  (hc:isDraw (getCode body p)=true) (hm:P.follows .mixedOrders=true) (hB:Region.lexB .any (opsOf (getCode body p))=true)
  (h:Out.prune ks (qListG P n w0 S (opsOf (getCode body p)) (opsOf (getCode body p)).toList st hs)=some ⟨ob,dupR rs,st'⟩) (ho:All ob)
  (hh:∀sz,st.sz<=sz->Holds D P body n w0 S Q k ⟨st'.sl,st.bk,st.wn,sz⟩):Holds D P body n w0 S Q (.code p::k) st:=by
 intro a w hf hmm
 obtain⟨id,hc⟩:=draw_of hc
 generalize opsOf (getCode body p)=ops at *
 obtain⟨r,hr,h1,h2,h3⟩:=out_prune h
 dsimp only at h1 h2 h3
 simp only[sem,hc]
 refine wp_region_quiet (C:=MemC w0 S st.bk st.wn st.sz) hm hB ⟨Nat.le_of_eq hmm.size.symm,?_⟩ ?_
 ·exact⟨rfl,hmm.blk,hmm.own,hmm.nd,hmm.kept.drew,hmm.win⟩
 ·refine(qListG_sound _ st hs r hr (by rw[h1]; exact ho) (by rw[h2]; exact dupR_good rs) a hf _ fun a' hf' w' hw'=>?_).1
  refine hh w'.heap.size hw'.1 a' w' ?_ hw'.2
  rw[<-h3]
  exact⟨hf'.size,hf'.df,fun i v hi=>hf'.val i v (getS_keepS ks i v hi)⟩
end
section
variable {D:List Deferred}{P:Program}{body:Code}{n:Nat}{w0:World}{S:Nat->Prop}{Q:Exit->Act->World->Prop}
def noPanic(Q:Exit->Act->World->Prop):Exit->Act->World->Prop
 |.panic _,_,_=>False
 |e,a,w=>Q e a w
theorem holds_retN{m:Nat}{fn:Func}{R:Ending->World->Prop}{p:List Nat}{k:List KI}{sl:List (Nat×Value)}{bk:List Bk}{sz:Nat}{vs:List Value}{rs:List (Nat×Nat×Nat)}{D:Nat}(hs:List (List MH))
  (hlt:D<w0.heap.size) (hD:w0.heap[D]?=some (.deferred (some []))) (hS:¬S D)
  (hc:getCode body p=.ret) (h:resL P [] bk sl fn.results.toList hs=some (vs,dupR rs)) (hR:∀w,MemOk w0 (fun x=>S x∨x=D) bk [] sz w->R (.returned (oneOf vs)) w) :
  Holds (markD D) P body n w0 S (noPanic (bodyPostM Fence.wide m P fn R)) (.code p::k) ⟨sl,bk,[],sz⟩:=by
 intro a w hf hm
 simp only[sem,hc]
 refine wp_ret (sem_ret (Q:=noPanic _) ?_ k)
 show bodyPostM Fence.wide m P fn R .ret a w
 exact leavesM hs h hR hf hm ((hm.kept.block D hlt hS).trans hD)
theorem calls_of_holdsN{m:Nat}{fid:FuncId}{fn:Func}{l:List Value}{w:World}{R:Ending->World->Prop}{S:Nat->Prop}{bk:List Bk}{wn:List Wn}
  (hf:P.funcs[fid]?=some fn) (hb:fn.body=some body) (hn:fn.ntmps=n) (hl:l.length<=n) (hm:MemOk w S bk wn w.heap.size w)
  (h:Holds [] P body n w S (noPanic (bodyPostM Fence.wide m P fn R)) [.code []] ⟨enumS 0 l,bk,wn,w.heap.size⟩):Calls P fid l.toArray w R:=by
 refine calls_of_holdsM (m:=m) hf hb hn hl hm (fun a w hf' hm'=>?_)
 have h1:=h a w hf' hm'
 simp only[sem]at h1 ⊢
 refine wp_mono h1 fun e a w h2=>?_
 cases e with
 |panic c=>exact h2.elim
 |_=>exact h2
theorem holds_fact{D:List Deferred}{k:List KI}{st:St}{p:Prop}(h:∀w,MemOk w0 S st.bk st.wn st.sz w->p)(hh:p->Holds D P body n w0 S Q k st):Holds D P body n w0 S Q k st:=fun a w hf hm=>hh (h w hm) a w hf hm
end
theorem le_max64{a:Int}(h:a<=9223372036854775807):a<=IntKind.max .i64:=by
 have:IntKind.max .i64=9223372036854775807:=by decide
 omega
theorem bits_ob64{a b:Int}(h1:0<=a∧a<=9223372036854775807)(h2:0<=b∧b<=9223372036854775807):(0:Int)<=a∧(0:Int)<=b∧a<=IntKind.max .i64∧b<=IntKind.max .i64:=by
 have:IntKind.max .i64=9223372036854775807:=by decide
 omega
theorem bits_ob8{a b:Int}(h1:0<=a∧a<=255)(h2:0<=b∧b<=255):(0:Int)<=a∧(0:Int)<=b∧a<=IntKind.max .u8∧b<=IntKind.max .u8:=by
 have:IntKind.max .u8=255:=by decide
 omega
def u8s(l:List Int):List UInt8:=l.map fun n=>UInt8.ofNat n.toNat
def bytesI(l:List Int):ByteArray:=⟨(u8s l).toArray⟩
def Byts(l:List Int):Prop:=∀n∈l,0<=n∧n<=255
def intsV(l:List Int):List Value:=l.map fun n=>.int .u8 n
theorem toNat_u8{n:Int}(h:0<=n∧n<=255):((UInt8.ofNat n.toNat).toNat:Int)=n:=by
 rw[UInt8.toNat_ofNat_of_lt' (by show n.toNat<256; omega)]
 omega
theorem bytesV_u8s{l:List Int}(h:Byts l):bytesV (u8s l)=intsV l:=by
 simp only[bytesV,u8s,intsV,List.map_map]
 refine List.map_congr_left fun n hn=>?_
 simp only[Function.comp,toNat_u8 (h n hn)]
theorem size_bytesI(l:List Int):(bytesI l).size=l.length:=by
 show(u8s l).toArray.size=_
 simp[u8s]
def intsOf(s:ByteArray):List Int:=s.data.toList.map fun b=>(b.toNat:Int)
theorem length_intsOf(s:ByteArray):(intsOf s).length=s.size:=by simp[intsOf]
theorem byts_intsOf(s:ByteArray):Byts (intsOf s):=by
 intro n hn
 obtain⟨b,_,rfl⟩:=List.mem_map.1 hn
 have:=b.toNat_lt
 omega
theorem u8s_intsOf(s:ByteArray):u8s (intsOf s)=s.data.toList:=by
 simp only[u8s,intsOf,List.map_map]
 refine(List.map_congr_left fun b _=>?_).trans (List.map_id _)
 simp
theorem bytesI_intsOf(s:ByteArray):bytesI (intsOf s)=s:=by
 simp[bytesI,u8s_intsOf]
theorem intsOf_bytesI{l:List Int}(h:Byts l):intsOf (bytesI l)=l:=by
 have e:(bytesI l).data.toList=u8s l:=by simp[bytesI]
 simp only[intsOf,e,u8s,List.map_map]
 refine(List.map_congr_left fun n hn=>?_).trans (List.map_id _)
 exact toNat_u8 (h n hn)
theorem byteAt_eq(s:ByteArray)(i:Nat):byteAt s i=(intsOf s)[i]?.getD 0:=by
 simp only[byteAt,intsOf,List.getElem?_map,Array.getElem?_toList]
 cases s.data[i]?<;>rfl
theorem byteAt_bd(s:ByteArray)(i:Nat):0<=byteAt s i∧byteAt s i<=255:=by
 unfold byteAt
 have:=(s.data[i]?.getD 0).toNat_lt
 omega
theorem intsOf_size{s:ByteArray}{n:Nat}(h:s.size=n):intsOf s=(List.range n).map (byteAt s):=by
 subst h
 apply List.ext_getElem?
 intro i
 rw[List.getElem?_map]
 by_cases hi:i<s.size
 ·rw[List.getElem?_range hi,Option.map_some,byteAt_eq]
  have hl:i<(intsOf s).length:=by rw[length_intsOf]; exact hi
  rw[List.getElem?_eq_getElem hl,Option.getD_some]
 ·rw[List.getElem?_eq_none (by rw[length_intsOf]; omega),List.getElem?_eq_none (by simp; omega),Option.map_none]
section
variable {P:Program}
theorem run_bytesAt(w:World)(src dst e:TypeId)(g o L cap:Nat)(t:TypeId)(l r:List Int)(pre:List Value)(hs:P.underlying src=some (.slice e))(he:P.underlying e=some (.int .u8))(hd:P.underlying dst=some .string)
  (hB:Blk w g t (pre++intsV l++intsV r)) (ho:pre.length=o) (hL:l.length=L) (hb:Byts l) :
  (convert src dst (.slice (some ⟨g,o,none⟩) L cap)).run P w=.ok (.string (bytesI l)) w:=by
 subst ho hL
 have hl:(u8s l).length=l.length:=by simp[u8s]
 have h1:=run_convert_bytes_back (P:=P) w src dst e ⟨g,pre.length,none⟩ cap (u8s l) hs he hd (fun j hj=>by
  have:(⟨g,pre.length,none⟩:Addr).add j=⟨g,pre.length+j,none⟩:=add_norm _ _ _
  rw[this]
  refine(hB.cell _).trans ?_
  have h2:j<(intsV l).length:=by simpa[intsV,u8s]using hj
  rw[List.append_assoc,List.getElem?_append_right (by omega),Nat.add_sub_cancel_left,List.getElem?_append_left h2,<-bytesV_u8s hb]
  simp[bytesV,hj])
 rw[hl]at h1
 exact h1
end
abbrev OV:=List Prop×List ((Nat×Nat)×(Nat×Nat))×Value×List Bk×Nat
def opV(P:Program)(o:Oper)(st:St)(h:OH):Option OV:=
 match known st.sl o with
 |true=>match h.ov with
  |0=>match runS P st.wn (execOp (rho st.sl) o) h.hs st.bk st.sz with
   |some ⟨.value v,bk,sz,es⟩=>some ([],es,v,bk,sz)
   |some ⟨.skip,bk,sz,es⟩=>some ([],es,undef,bk,sz)
   |_=>none
  |k+1=>match ov P (rho st.sl) k o.op with
   |some (v,p)=>some ([p],[],v,st.bk,st.sz)
   |none=>none
 |false=>none
def askV(p:Prop):Option OV->Option OV
 |some (ob,r)=>some (p::ob,r)
 |none=>none
def dstOf(ops:Array Oper)(i:Nat):Option Nat:=(ops[i]?).bind (·.dst)
def opG(P:Program)(ops:Array Oper)(st:St)(i:Nat)(h:OH):Option OV:=
 match ops[i]? with
 |none=>none
 |some o=>match o.guard with
  |none=>opV P o st h
  |some (j,want)=>match dstOf ops j with
   |none=>none
   |some t=>match getS st.sl t with
    |some (.bool c)=>match (h.dec==want)with
     |true=>askV (c=h.dec) (opV P o st h)
     |false=>some ([c=h.dec],[],undef,st.bk,st.sz)
    |some (.tuple _)=>some ([],[],undef,st.bk,st.sz)
    |_=>none
section
variable {D:List Deferred}{F:Fence}{m:Nat}{P:Program}{n:Nat}{w0:World}{S:Nat->Prop}{a:Act}{w:World}
end
def needsOf(ops:Array Oper)(i:Nat):List Nat:=
 match ops[i]? with
 |some o=>(o.after.toList.filter (Region.binds .any ·)).map (·.on)
 |none=>[]
def nodupN:List Nat->Bool
 |[]=>true
 |x::l=>!l.any (Nat.beq x)&&nodupN l
def stgOf(stg:List (Option Nat))(i:Nat):Option Nat:=(stg[i]?).bind id
def eqO(x:Option Nat)(s:Nat):Bool:=match x with
 |some t=>Nat.beq t s
 |none=>false
def mixChk(n:Nat)(ops:Array Oper)(sl0:List (Nat×Value))(nv J:Nat)(stg:List (Option Nat)):Bool:=
 nodupN (ops.toList.filterMap (·.dst))&&(ops.toList.filterMap (·.dst)).all (fun d=>Nat.blt d n&&!(sl0.any fun x=>Nat.beq x.1 d))&&Nat.beq nv ops.size&&Nat.beq stg.length ops.size
  && (List.range ops.size).all (fun i=>(needsOf ops i).all (Nat.blt · i))
  && (List.range ops.size).all (fun i=>match stgOf stg i with
   |none=>true
   |some s=>Nat.blt s J&&(Nat.beq s 0||(needsOf ops i).any (fun k=>eqO (stgOf stg k) (s-1)))&&(List.range ops.size).all (fun k=>!eqO (stgOf stg k) s||Nat.beq k i))
  && (Nat.beq J 0||(List.range ops.size).any (fun i=>eqO (stgOf stg i) (J-1)))
section
variable {D:List Deferred}{F:Fence}{m:Nat}{P:Program}{n:Nat}{w0:World}{S:Nat->Prop}
theorem filterMap_dst:∀{l:List Oper},nodupN (l.filterMap (·.dst))=true->∀{i j:Nat}{o o':Oper}{d:Nat},l[i]?=some o->l[j]?=some o'->o.dst=some d->o'.dst=some d->i=j
 |[],_,i,j,o,o',d,hi,_,_,_=>by simp at hi
 |y::l,h,i,j,o,o',d,hi,hj,ho,ho'=>by
  have hin:∀{k:Nat}{q:Oper},l[k]?=some q->q.dst=some d->d∈l.filterMap (·.dst):=fun hk hq=>List.mem_filterMap.2 ⟨_,List.mem_of_getElem? hk,hq⟩
  have htail:nodupN (l.filterMap (·.dst))=true:=by
   cases hy:y.dst with
   |none=>simpa[List.filterMap_cons,hy]using h
   |some e=>
    rw[List.filterMap_cons_some hy]at h
    simp only[nodupN,Bool.and_eq_true]at h
    exact h.2
  have hhead:y.dst=some d->d ∉ l.filterMap (·.dst):=fun hy hd=>by
   rw[List.filterMap_cons_some hy]at h
   simp only[nodupN,Bool.and_eq_true,Bool.not_eq_true',List.any_eq_false]at h
   exact absurd (Nat.beq_refl _) (h.1 d hd)
  cases i<;>cases j
  ·rfl
  ·simp only[List.getElem?_cons_zero,Option.some.injEq]at hi
   simp only[List.getElem?_cons_succ]at hj
   subst hi
   exact absurd (hin hj ho') (hhead ho)
  ·simp only[List.getElem?_cons_zero,Option.some.injEq]at hj
   simp only[List.getElem?_cons_succ]at hi
   subst hj
   exact absurd (hin hi ho) (hhead ho')
  ·simp only[List.getElem?_cons_succ]at hi hj
   rw[filterMap_dst htail hi hj ho ho']
theorem getD_of_false{ls:Array Bool}{i:Nat}(h:ls.getD i true=false):i<ls.size∧ls[i]?=some false:=by
 rcases Nat.lt_or_ge i ls.size with h'|h'
 ·refine⟨h',?_⟩
  rw[Array.getElem?_eq_getElem h']
  simpa[Array.getD,h']using h
 ·simp[Array.getD,Nat.not_lt.2 h']at h
theorem count_set{ls:Array Bool}{i:Nat}(h:ls[i]?=some false):(ls.setIfInBounds i true).toList.count false+1=ls.toList.count false:=by
 have hi:=(Array.getElem?_eq_some_iff.1 h).1
 have hv:=(Array.getElem?_eq_some_iff.1 h).2
 have hl:i<ls.toList.length:=by simpa using hi
 have e:(ls.setIfInBounds i true).toList=ls.toList.set i true:=by simp
 rw[e,List.count_set hl]
 have hv':ls.toList[i]=false:=by simpa using hv
 have hpos:0<ls.toList.count false:=List.count_pos_iff.2 (hv'▸List.getElem_mem hl)
 rw[hv']
 simp only[beq_self_eq_true,if_true]
 have e2:(true==false)=false:=rfl
 rw[e2]
 simp only[Bool.false_eq_true,if_false]
 omega
end
end Go.Proofs.YtcmpkkapkdlfhaaGreat
