import Derived.Test.YtcmpkkapkdlfhaaGreatEngO
namespace Go.Proofs.YtcmpkkapkdlfhaaGreat
open Go.RowKit
def dstAtG(ops:Array Oper)(sl:List (Nat×Value))(i:Nat):Option (Option Nat×Prop):=
 match ops[i]? with
 |none=>none
 |some o=>match known sl o with
  |false=>none
  |true=>match o.guard with
   |none=>some (o.dst,True)
   |some (j,want)=>match (ops[j]?).bind (·.dst)with
    |none=>none
    |some t=>match getS sl t with
     |some (.bool c)=>some (o.dst,c=want)
     |_=>none
theorem dstAtG_wanted{D:List Deferred}{n:Nat}{ops:Array Oper}{sl:List (Nat×Value)}{i:Nat}{dst:Option Nat}{ob:Prop}{a:Act}(h:dstAtG ops sl i=some (dst,ob))(ho:ob)(hf:FrOk D n sl a) :
  ∃o,ops[i]?=some o∧known sl o=true∧o.dst=dst∧Region.wanted o (yielded ops a.tmps)=true:=by
 unfold dstAtG at h
 split at h
 ·cases h
 ·rename_i o hoi
  split at h
  ·cases h
  ·rename_i hk
   split at h
   ·rename_i hg
    simp only[Option.some.injEq,Prod.mk.injEq]at h
    exact⟨o,hoi,hk,h.1,by simp[Region.wanted,hg]⟩
   ·rename_i j want hg
    split at h
    ·cases h
    ·rename_i t ht
     split at h
     ·rename_i c hcc
      simp only[Option.some.injEq,Prod.mk.injEq]at h
      obtain⟨e3,e4⟩:=h
      subst e4
      have h1:c=want:=ho
      have hy:yielded ops a.tmps j=some c:=by
       have:=hf.val t _ hcc
       simp[yielded,ht,this]
      exact⟨o,hoi,hk,e3,by simp[Region.wanted,hg,hy,h1]⟩
     ·cases h
section
variable {D:List Deferred}{P:Program}{body:Code}{n:Nat}{w0:World}{S:Nat->Prop}{Q:Exit->Act->World->Prop}
theorem holds_opRG{p:List Nat}{i:Nat}{l:List Nat}{k:List KI}{st:St}{dst:Option Nat}{ob:Prop}{x:Sem Value}(v:Value){sl:List (Nat×Value)}
  (hd:dstAtG (opsOf (getCode body p)) st.sl i=some (dst,ob)) (ho:ob) (hx:semAt (opsOf (getCode body p)) st.sl i=some (asV x)) (hp:putS n st.sl dst v=some sl)
  (hr:∀w,MemOk w0 S st.bk st.wn st.sz w->x.run P w=.ok v w)
  (hh:Holds D P body n w0 S Q (.ops p l::k) ⟨sl,st.bk,st.wn,st.sz⟩):Holds D P body n w0 S Q (.ops p (i::l)::k) st:=by
 intro a w hf hm
 simp only[sem]
 rw[wpOps_cons]
 obtain⟨o,hoi,hk,hdo,hw⟩:=dstAtG_wanted hd ho hf
 unfold semAt at hx
 simp only[hoi,Option.some.injEq]at hx
 simp only[wpOp,hoi,if_pos hw]
 refine .inl ?_
 have h5:(execOp a.eval o).run P w=.ok (.value v) w:=by
  rw[hf.rho hk,hx]
  simp only[asV,Sem.run_bind,hr w hm,Result.andThen_ok,Sem.run_pure]
 simp only[Oper.wp,h5,Oper.upon_value]
 rw[hdo]
 exact hh _ _ (hf.put hp) hm
end
theorem xor_under{a b k:Nat}(ha:a<2^k)(hb:b<2^k):a^^^b<2^k:=Nat.xor_lt_two_pow ha hb
theorem xorZ_under{a b:Int}(k:Nat)(ha:0<=a∧a<((2^k:Nat):Int))(hb:0<=b∧b<((2^k:Nat):Int)):0<=xorZ a b∧xorZ a b<((2^k:Nat):Int):=by
 have:=xor_under (a:=a.toNat) (b:=b.toNat) (k:=k) (by omega) (by omega)
 unfold xorZ
 omega
structure RecM where
 used:Bool
 (fence de ds:Int)
 block:ByteArray
 op:Bool
 (ie is mask:Int)
 staged:ByteArray
structure AskM where
 (kind stripe epoch seq mask node oe os:Int)
 block:ByteArray
structure SayR where
 (st ep ou:Int)
 rc:RecM
def RecM.cells(r:RecM):List Value:=[.bool r.used,.int .i64 r.fence,.int .i64 r.de,.int .i64 r.ds,.string r.block,.bool r.op,.int .i64 r.ie,.int .i64 r.is,.int .i64 r.mask,.string r.staged]
def AskM.cells(q:AskM):List Value:=[.int .i64 q.kind,.int .i64 q.stripe,.int .i64 q.epoch,.int .i64 q.seq,.int .i64 q.mask,.int .i64 q.node,.int .i64 q.oe,.int .i64 q.os,.string q.block]
def SayR.cells(s:SayR):List Value:=[.int .i64 s.st,.int .i64 s.ep,.int .i64 s.ou]++s.rc.cells
def noText:ByteArray:=⟨#[]⟩
structure OneM where
 (to id:Int)
 q:AskM
 (asked sent:Int)
def OneM.cells(o:OneM):List Value:=[.int .i64 o.to,.int .i64 o.id,.int .i64 o.q.kind,.int .i64 o.q.stripe,.int .i64 o.q.epoch,.int .i64 o.q.seq,.int .i64 o.q.mask,.int .i64 o.q.node,.int .i64 o.q.oe,.int .i64 o.q.os,.string o.q.block,.int .i64 o.asked,.int .i64 o.sent]
def onesV(l:List OneM):List Value:=(l.map OneM.cells).flatten
theorem onesV_len(l:List OneM):(onesV l).length=l.length*13:=by
 induction l with
 |nil=>rfl
 |cons o l ih=>
  show(o.cells++onesV l).length=_
  rw[List.length_append,ih,List.length_cons]
  show 13+_=_
  omega
theorem onesV_snoc(l:List OneM)(o:OneM):onesV l++o.cells=onesV (l++[o]):=by simp[onesV]
theorem onesV_get{l:List OneM}{i j:Nat}{o:OneM}(h:l[i]?=some o)(hj:j<13):(onesV l)[i*13+j]?=o.cells[j]?:=by
 induction l generalizing i with
 |nil=>simp at h
 |cons x l ih=>
  show(x.cells++onesV l)[i*13+j]?=_
  cases i with
  |zero=>
   simp only[List.getElem?_cons_zero,Option.some.injEq]at h
   subst h
   rw[List.getElem?_append_left (by show _<13; omega)]
   simp
  |succ i=>
   rw[List.getElem?_append_right (by show 13<=_; omega)]
   have e:(i+1)*13+j-x.cells.length=i*13+j:=by show _-13=_; omega
   rw[e]
   exact ih (by simpa using h)
structure CM where
 (frm last:Int)
 opn:List OneM
def within14(n:Int):Int:=minZ (maxZ n 0) 1099511627776
def CallAt(tC tO:TypeId)(w:World)(base cb:Nat)(c:CM):Prop:=
 ∃A cp,Blk w cb tC [.int .i64 c.frm,.int .i64 c.last,.slice A c.opn.length cp]∧OwnR w base tO 13 A c.opn.length cp (onesV c.opn)
def askC(c:CM)(now to:Int)(q:AskM):CM:=⟨c.frm,c.last+1,c.opn++[⟨to,c.last+1,q,within14 now,within14 now⟩]⟩
structure MeantI(w0:World)(tCp tF tC:TypeId)(c1 c2 cb:Nat)(fv:Value)(X:World->Prop)(frm last:Int)(A:Option Addr)(cp:Nat)(opn:List OneM)(pre:List Nat)(W:World):Prop where
 kp:Kept (fun _=>True) w0 W
 c1:Blk W c1 tCp [.pointer (some ⟨cb,0,none⟩)]
 c2:Blk W c2 tF [fv]
 x:X W
 hd:pre=[]->Blk W cb tC [.int .i64 frm,.int .i64 last,.slice A opn.length cp]
 arr:∀(j:Nat)(o:OneM),opn[j]?=some o->(∀i∈pre,i<j)->∃g,A=some ⟨g,0,none⟩∧g<W.heap.size∧∀(i:Nat)(v:Value),o.cells[i]?=some v->W.cell? ⟨g,0+j*13+i,none⟩=some v
def meantL(ok:OneM->Bool)(opn:List OneM)(j:Nat):List Nat:=(List.range j).filter (fun i=>match opn[i]? with|some o=>ok o|none=>false)
theorem meantL_lt{ok:OneM->Bool}{opn:List OneM}{j:Nat}:∀i∈meantL ok opn j,i<j:=fun i hi=>by
 simp only[meantL,List.mem_filter,List.mem_range]at hi
 exact hi.1
theorem meantL_succ{ok:OneM->Bool}{opn:List OneM}{j:Nat}{o:OneM}(h:opn[j]?=some o):meantL ok opn (j+1)=bif ok o then meantL ok opn j++[j]else meantL ok opn j:=by
 unfold meantL
 rw[List.range_succ,List.filter_append]
 cases hk:ok o<;>simp[h,hk]
def MeantSp(ok:OneM->Bool)(opn:List OneM)(pre:List Nat):Prop:=∃j o,opn[j]?=some o∧ok o=true∧pre=meantL ok opn j++[j]
def MeantV(ok:OneM->Bool)(opn:List OneM)(pre:List Nat)(j:Nat):Prop:=∃o,opn[j]?=some o∧ok o=true∧pre=meantL ok opn j
section
variable {P:Program}
def SeqI{α:Type}(n:Nat)(P:Program)(g:Nat)(lb:Array Value)(encs:α->Array Value)(Inv:List α->World->Prop)(S Sp:List α->Prop)(N:List α->α->Prop):Prop:=
 ∀(l:Nat)(J Jx:List α->World->Prop)(W:World),(∀pre W1,J pre W1->Inv pre W1)->AbidesFrom W.heap.size J->AbidesFrom W.heap.size Jx ->
  (∀pre x W1,J pre W1->N pre x->YieldAt Fence.wide (n-1) P l (encs x) W1 fun e W'=>(e=.returned (.bool true)∧J (pre++[x]) W')∨(e=.returned (.bool false)∧Jx (pre++[x]) W'))->J [] W ->
  CallsIn Fence.wide n P g (#[.func (.yield l) #[] #[]]++lb) W fun e W'=>(∃v,e=.returned v)∧((∃xs,S xs∧J xs W')∨(∃pre,Sp pre∧Jx pre W'))
theorem wpIn_rangeI{α:Type}{n:Nat}{g:Operand}{ps:Array Tmp}{assign body:Code}{Q:Exit->Act->World->Prop}{a:Act}{w:World}(h1:1<=n){gf:Nat}{lb:Array Value}
  (hg:a.eval g=.func (.func gf) #[] lb) (eg:∀args w,(callFunc gf args).run P w=.ok (.enter gf args) w) {encs:α->Array Value} {Inv:List α->World->Prop} {S Sp:List α->Prop} {N:List α->α->Prop}
  (hseq:SeqI (n-1) P gf lb encs Inv S Sp N) (hps:∀x,(encs x).size=ps.size) (I Ix:List α->World->Prop) (hI:OwnFrom w.heap.size I) (hIx:OwnFrom w.heap.size Ix) (hInv:∀pre W,I pre W->Inv pre W) (h0:I [] w) (Ax:α->Act->Prop)
  (hassign:∀(l:Nat)(pre:List α)(x:α)(W:World),I pre W->assign.wpIn (Fence.wide.inRound l) (n-1-1) P (fun e a' W'=>e=.normal∧KeepsFrom w.heap.size W W'∧I pre W'∧Ax x a') { tmps:=(ps.zip (encs x)).foldl (fun t (p,v)=>t.setIfInBounds p v) a.tmps,defers:=[] } W)
  (hbody:∀(l:Nat)(pre:List α)(x:α)(a':Act)(W:World),I pre W->Ax x a'->N pre x->body.wpIn (Fence.wide.inRound l) (n-1-1) P (fun e _ W'=>KeepsFrom w.heap.size W W'∧((e=.normal∧I (pre++[x]) W')∨(e=.ret∧Ix (pre++[x]) W'))) a' W)
  (hdone:∀(D:Nat)(xs:List α)(W:World),w.heap.size<=D->S xs->I xs W->W.heap[D]?=some (.deferred (some []))->Q .normal { a with defers:={ target:=.collected D,args:=#[] }::a.defers } W)
  (hstop:∀(D:Nat)(pre:List α)(W:World),w.heap.size<=D->Sp pre->Ix pre W->W.heap[D]?=some (.deferred (some []))->Code.ret.wpIn Fence.wide n P Q { a with defers:={ target:=.collected D,args:=#[] }::a.defers } W) :
  (Code.rangeFunc g ps assign body).wpIn Fence.wide n P Q a w:=by
 refine wpIn_rangeFunc fun fn hfn=>?_
 let R0:LoopState->Option Code->Loop:=fun st pe=>{ state:=st,pending:=pe,fn,tmps:=a.tmps,params:=ps,assign,body,defers:=w.heap.size }
 let L:=w.heap.size+1
 let W0:=(w.alloc (.deferred (some []))).alloc (.loop (R0 .ready none))
 have hL0:W0.heap[L]?=some (.loop (R0 .ready none)):=by
  have h:=World.alloc_heap_new (w.alloc (.deferred (some []))) (.loop (R0 .ready none))
  rwa [World.size_alloc]at h
 have hD0:W0.heap[w.heap.size]?=some (.deferred (some [])):=(Below.heap_alloc _ _ _ (by simp)).trans (World.alloc_heap_new w _)
 have hz0:w.heap.size<=W0.heap.size:=by simp[W0]; omega
 refine⟨L,[{ target:=.collected w.heap.size,args:=#[] }],W0,{ target:=.fn (.func gf) lb,args:=#[.func (.yield L) #[] #[]] },W0,gf,#[.func (.yield L) #[] #[]]++lb,W0,run_enterLoop_outer _ _ _ _ _,?_,fun _ _=>trivial,?_,fun _=>h1,?_⟩
 ·simp only[resolve,hg]
  simp[go_sem]
 ·simp[invoke,go_sem,eg]
 have hlay:∀{A B:World}{row:Option Nat},(∀r,row=some r->W0.heap.size<=r∧∃o:Obj,A.heap[r]?=some o∧o.isWalk=true)->(∀r,row=some r->w.heap.size<=r∧∃o:Obj,A.heap[r]?=some o∧o.isCells=false):=fun hr r e=>by
  obtain⟨hB,o,ho,hw⟩:=hr r e
  exact⟨by omega,o,ho,Obj.not_cells_of_walk hw⟩
 let J:List α->World->Prop:=fun pre W=>I pre W∧W.heap[L]?=some (.loop (R0 .ready none))∧W.heap[w.heap.size]?=some (.deferred (some []))
 let Jx:List α->World->Prop:=fun pre W=>Ix pre W∧W.heap[L]?=some (.loop (R0 .done (some .ret)))∧W.heap[w.heap.size]?=some (.deferred (some []))
 have hJ:AbidesFrom W0.heap.size J:=fun s A B row ⟨q1,q2,q3⟩ hg' hr=>⟨hI s A B row q1 hg' (hlay (B:=B) hr),(grownBy_keeps hg' (fun r e=>(hr r e).2) q2 rfl).trans q2,(grownBy_keeps hg' (fun r e=>(hr r e).2) q3 rfl).trans q3⟩
 have hJx:AbidesFrom W0.heap.size Jx:=fun s A B row ⟨q1,q2,q3⟩ hg' hr=>⟨hIx s A B row q1 hg' (hlay (B:=B) hr),(grownBy_keeps hg' (fun r e=>(hr r e).2) q2 rfl).trans q2,(grownBy_keeps hg' (fun r e=>(hr r e).2) q3 rfl).trans q3⟩
 refine(hseq L J Jx W0 (fun pre W h=>hInv pre W h.1) hJ hJx ?round ⟨hI.alloc _ (hI.alloc _ h0),hL0,hD0⟩).mono ?behind
 case round=>
  rintro pre x W ⟨hi,hl,hd⟩ hlen
  refine⟨fn,_,assign,body,run_yield (P:=P) (args:=encs x) hl (hps x),roundIn_of_wpIn hfn (wpIn_mono (hassign L pre x W hi) fun e a1 W1 hq=>?_)⟩
  obtain⟨rfl,hk1,hi1,hax⟩:=hq
  have hl1:=hk1.same _ _ (by omega) hl rfl
  have hd1:=hk1.same _ _ (Nat.le_refl _) hd rfl
  have hlt1:L<W1.heap.size:=(Array.getElem?_eq_some_iff.1 hl1).1
  refine⟨_,run_beginRound hl1 rfl,?_⟩
  have hl2:(W1.putObj L (.loop { R0 .ready none with state:=.busy })).heap[L]?=some (.loop { R0 .ready none with state:=.busy }):=World.putObj_heap_same hlt1
  have hd2:(W1.putObj L (.loop { R0 .ready none with state:=.busy })).heap[w.heap.size]?=some (.deferred (some [])):=(World.putObj_heap_other (by omega)).trans hd1
  refine wpIn_mono (hbody L pre x a1 _ (hI.putObj _ hi1 (by omega) hl1 rfl) hax hlen) ?_
  rintro e a3 W3 ⟨hk3,hq⟩
  have hl3:=hk3.same _ _ (by omega) hl2 rfl
  have hd3:=hk3.same _ _ (Nat.le_refl _) hd2 rfl
  have hlt3:L<W3.heap.size:=(Array.getElem?_eq_some_iff.1 hl3).1
  rcases hq with⟨rfl,hi3⟩|⟨rfl,hi3⟩
  ·exact⟨_,_,run_endRound (P:=P) none hl3,.inl ⟨rfl,hI.putObj _ hi3 (by omega) hl3 rfl,World.putObj_heap_same hlt3,(World.putObj_heap_other (by omega)).trans hd3⟩⟩
  ·exact⟨_,_,run_endRound (P:=P) (some .ret) hl3,.inr ⟨rfl,hIx.putObj _ hi3 (by omega) hl3 rfl,World.putObj_heap_same hlt3,(World.putObj_heap_other (by omega)).trans hd3⟩⟩
 case behind=>
  rintro e W2 ⟨⟨v,rfl⟩,(⟨xs,hS,hi,hl,hd⟩|⟨pre,hSp,hi,hl,hd⟩)⟩
  ·exact⟨none,_,run_endLoop (P:=P) hl (by simp[R0]),hdone _ xs _ (Nat.le_refl _) hS (hI.putObj _ hi (by omega) hl rfl) ((World.putObj_heap_other (by omega)).trans hd)⟩
  ·exact⟨some .ret,_,run_endLoop (P:=P) hl (by simp[R0]),hstop _ pre _ (Nat.le_refl _) hSp (hIx.putObj _ hi (by omega) hl rfl) ((World.putObj_heap_other (by omega)).trans hd)⟩
theorem keepsFrom_cells{B:Nat}{T:Nat->Prop}{W W':World}(h:Kept T W W')(hT:∀k o,T k->W.heap[k]?=some o->o.isCells=true):KeepsFrom B W W':=by
 refine⟨h.size,fun k o _ hk ho=>?_⟩
 refine(h.block k (Array.getElem?_eq_some_iff.1 hk).1 (fun ht=>?_)).trans hk
 rw[hT k o ht hk]at ho
 cases ho
variable {body:Code}{n:Nat}
theorem holds_rangeI{α:Type}{w0:World}{S:Nat->Prop}{Q:Exit->Act->World->Prop}{p:List Nat}{k:List KI}{sl:List (Nat×Value)}{bk:List Bk}{wn:List Wn}{sz:Nat}
  {g:Operand} {pt:Tmp} {asg bd:Code} {gf:Nat} {lb:Array Value} {enc:α->Value} {Inv:List α->World->Prop} {Sq Spq:List α->Prop} {N:List α->α->Prop}
  (hc:getCode body p=.rangeFunc g #[pt] asg bd) (hg:opd sl g=some (.func (.func gf) #[] lb)) (eg:∀args w,(callFunc gf args).run P w=.ok (.enter gf args) w)
  (I Ix:List α->World->Prop) (hI:OwnFrom sz I) (hIx:OwnFrom sz Ix) (h0:∀w,MemOk w0 S bk wn sz w->I [] w)
  (hseq:SeqI 4 P gf lb (fun x=>#[enc x]) Inv Sq Spq N) (hInv:∀pre W,I pre W->Inv pre W) (hI1:∀pre W W',I pre W->Kept (fun _=>False) W W'->I pre W')
  (sl₀ sl₁:α->List (Nat×Value)) (hsl₀:∀x,putS n sl (some pt) (enc x)=some (sl₀ x))
  (hassign:∀(x:α)(l:Nat)(W:World),HoldsR (Fence.wide.inRound l) 3 [] P body n W (fun _=>False) (fun e a' W'=>e=.normal∧Kept (fun _=>False) W W'∧FrOk [] n (sl₁ x) a') [.code (p++[0])] ⟨sl₀ x,[],[],W.heap.size⟩)
  (hbody:∀(l:Nat)(pre:List α)(x:α)(W:World),I pre W->N pre x->∃bk1,MemOk W (Turned bk1) bk1 [] W.heap.size W∧HoldsR (Fence.wide.inRound l) 3 [] P body n W (Turned bk1)
   (fun e _ W'=>KeepsFrom sz W W'∧((e=.normal∧I (pre++[x]) W')∨(e=.ret∧Ix (pre++[x]) W'))) [.code (p++[1])] ⟨sl₁ x,bk1,[],W.heap.size⟩)
  (hdone:∀(D:Nat)(xs:List α)(W:World),Sq xs->I xs W->sz<=D->W.heap[D]?=some (.deferred (some []))->∃bk1,MemOk W (Turned bk1) bk1 [] W.heap.size W∧Holds (markD D) P body n W (Turned bk1) Q k ⟨sl,bk1,[],W.heap.size⟩)
  (hstop:∀(D:Nat)(pre:List α)(W:World),Spq pre->Ix pre W->sz<=D->W.heap[D]?=some (.deferred (some []))->∀a,FrOk (markD D) n sl a->Q .ret a W) :
  Holds [] P body n w0 S Q (.code p::k) ⟨sl,bk,wn,sz⟩:=by
 intro a w hf hm
 simp only[sem,hc]
 have hz:w.heap.size=sz:=hm.size
 subst hz
 have hget:getCode body (p++[1])=bd:=by simp only[getCode_append,hc,getCode]
 have hget0:getCode body (p++[0])=asg:=by simp only[getCode_append,hc,getCode]
 refine(wpIn_wide (n:=5)).1 ?_
 refine wpIn_rangeI (encs:=fun x=>#[enc x]) (N:=N) (gf:=gf) (lb:=lb) (by omega) (hf.eval hg) eg hseq (fun _=>rfl) I Ix hI hIx hInv (h0 w hm) (fun x a'=>FrOk [] n (sl₁ x) a') ?assign ?body ?done ?stop
 case assign=>
  intro l pre x W hi
  have hf':FrOk [] n sl { tmps:=a.tmps,defers:=[] }:=⟨hf.size,rfl,hf.val⟩
  have h1:=hassign x l W _ W (hf'.put (hsl₀ x)) (MemOk.none W _)
  simp only[semR,hget0]at h1
  have hfr:({ tmps:=(#[pt].zip #[enc x]).foldl (fun t (p,v)=>t.setIfInBounds p v) a.tmps,defers:=[] }:Act)=({ tmps:=a.tmps,defers:=[] }:Act).put (some pt) (enc x):=by
   simp[Act.put]
  rw[<-hfr]at h1
  refine wpIn_mono h1 fun e a' W' h2=>?_
  obtain⟨rfl,h3,h4⟩:=(show e=.normal∧_∧_ from h2)
  exact⟨rfl,keepsFrom_cells h3 (fun _ _ h=>h.elim),hI1 pre W W' hi h3,h4⟩
 case body=>
  intro l pre x a' W hi hA hlen
  obtain⟨bk1,hb1,hb2⟩:=hbody l pre x W hi hlen
  have h1:=hb2 a' W hA hb1
  simp only[semR,hget]at h1
  exact wpIn_mono h1 fun e a2 W' h2=>h2
 case done=>
  intro D xs W hD hS hi hd
  obtain⟨bk1,hb1,hb2⟩:=hdone D xs W hS hi hD hd
  exact hb2 { a with defers:={ target:=.collected D,args:=#[] }::a.defers } W ⟨hf.size,by simp[hf.df,markD],hf.val⟩ hb1
 case stop=>
  intro D pre W hD hS hi hd
  exact wpIn_ret (sem_ret (hstop D pre W hS hi hD hd { a with defers:={ target:=.collected D,args:=#[] }::a.defers } ⟨hf.size,by simp[hf.df,markD],hf.val⟩) k)
def isReg:Code->Bool
 |.region _ _ false=>true
 |_=>false
theorem reg_of{c:Code}(h:isReg c=true):∃id,c=.region id (opsOf c) false:=by
 cases c with
 |region id ops b=>
  cases b with
  |false=>exact⟨id,rfl⟩
  |true=>cases h
 |_=>cases h
def noDefer(o:Oper):Bool:=match o.op with|.defer _=>false|_=>true
theorem noDefer_ne{o:Oper}(h:noDefer o=true):∀c,o.op≠.defer c:=fun c e=>by
 unfold noDefer at h
 rw[e]at h
 cases h
theorem rowsIn_wide{n:Nat}{row:String}{args:Array Value}{w:World}{R:Value->World->Prop}(h:Rows P row args w R):RowsIn Fence.wide n P row args w R:=
 fun c cs _=>let ⟨v,w',r,s⟩:=h c cs; ⟨v,w',r,stepsIn_wide.2 s⟩
@[reducible] def WideR(r:Option Nat):Fence:={ Fence.wide with round:=r }
section
variable {ops:Array Oper}{m:Nat}{r:Option Nat}{K:Act->World->Prop}{Q Qx:Exit->Act->World->Prop}{a:Act}{w:World}
theorem upon_round{o:Oper}{R:Result Next}(hx:∀e a w,e≠.normal->¬Qx e a w)(h:o.upon P a K Qx R):o.uponIn (WideR r) m P a K Q R:=by
 have hd:(WideR r).depth.isSome=true->1<=m:=fun h=>by cases h
 unfold Oper.upon at h
 split at h
 ·exact h
 ·exact h
 ·exact h
 ·rename_i f args w'
  rw[Oper.uponIn_enter]
  refine⟨hd,(show CallsIn Fence.wide (m-1) P f args w' _ from callsIn_wide.2 (h.mono fun e w'' he=>?_))⟩
  cases e with
  |returned v=>exact he
  |panicked c=>exact absurd he (hx _ _ _ (by simp))
  |outgrown=>
   obtain⟨a',w3,h3⟩:=(show LetsOut Qx from he)
   exact absurd h3 (hx _ _ _ (by simp))
 ·rw[Oper.uponIn_row]
  exact⟨hd,rowsIn_wide h⟩
 ·exact absurd h (hx _ _ _ (by simp))
 ·exact h.elim
theorem op_round{i:Nat}(hnd:∀o∈ops,noDefer o=true)(hx:∀e a w,e≠.normal->¬Qx e a w){K':Act->World->Prop}(hK:∀a w,K a w->K' a w)(h:wpOp P ops Qx i K a w):wpOpIn (WideR r) m P ops Q i K' a w:=by
 refine wpOpIn_mono hK ?_
 unfold wpOp at h
 unfold wpOpIn
 cases hi:ops[i]? with
 |none=>
  rw[hi]at h
  exact h
 |some o=>
  rw[hi]at h
  have ho:=hnd o (Array.mem_of_getElem? hi)
  simp only at h ⊢
  split
  ·rename_i hw
   rw[if_pos hw]at h
   rcases h with h|⟨_,a',w3,h3⟩
   ·refine⟨fun _ _=>trivial,?_⟩
    rw[Oper.semAt_eq _ _ _ (noDefer_ne ho)]
    exact upon_round hx h
   ·exact absurd h3 (hx _ _ _ (by simp))
  ·rename_i hw
   rw[if_neg hw]at h
   exact⟨fun _ _=>trivial,h⟩
theorem ops_round(hnd:∀o∈ops,noDefer o=true)(hx:∀e a w,e≠.normal->¬Qx e a w)(hN:∀a w,Qx .normal a w->Q .normal a w):∀(li:List Nat)(a:Act)(w:World),wpOps P ops Qx li a w->wpOpsIn (WideR r) m P ops Q li a w
 |[],a,w,h=>hN a w h
 |i::rest,a,w,h=>by
  rw[wpOps_cons]at h
  rw[wpOpsIn_cons]
  exact op_round hnd hx (ops_round hnd hx hN rest) h
theorem any_round(hnd:∀o∈ops,noDefer o=true)(hx:∀e a w,e≠.normal->¬Qx e a w)(hN:∀a w,Qx .normal a w->Q .normal a w):∀(f:Nat)(ls:Array Bool)(a:Act)(w:World),wpAny P .any ops Qx f ls a w->wpAnyIn (WideR r) m P .any ops Q f ls a w
 |0,_,a,w,h=>⟨h.1,hN a w h.2⟩
 |f+1,_,a,w,h=>⟨fun hr=>hN a w (h.1 hr),fun i hi=>op_round hnd hx (any_round hnd hx hN f _) (h.2 i hi)⟩
end
def noDefers(ops:Array Oper):Bool:=ops.toList.all noDefer
theorem noDefers_all{ops:Array Oper}(h:noDefers ops=true):∀o∈ops,noDefer o=true:=fun o ho=>List.all_eq_true.1 h o (Array.mem_toList_iff.2 ho)
def NoWay:Exit->Act->World->Prop:=fun _ _ _=>False
theorem sem_inv{J:Act->World->Prop}:∀(e:Exit)(a:Act)(w:World),e≠.normal->¬sem P body NoWay [.inv J] e a w:=by
 intro e a w he h
 cases e<;>first|exact he rfl|exact h
section
variable {m:Nat}{r:Option Nat}{D:List Deferred}{w0:World}{S:Nat->Prop}{Q:Exit->Act->World->Prop}{p:List Nat}{k:List KI}{st:St}
theorem holdsR_op{i:Nat}{rest:List Nat}(hnd:noDefers (opsOf (getCode body p))=true)
  (h:∀J:Act->World->Prop,(∀(w1:World)(S1:Nat->Prop)(st1:St),HoldsR (WideR r) m D P body n w1 S1 Q (.ops p rest::k) st1->Holds D P body n w1 S1 NoWay [.inv J] st1)->Holds D P body n w0 S NoWay [.ops p [i],.inv J] st) :
  HoldsR (WideR r) m D P body n w0 S Q (.ops p (i::rest)::k) st:=by
 intro a w hf hm
 have h1:=h (fun a w=>semR (WideR r) m P body Q (.ops p rest::k) .normal a w) (fun w1 S1 st1 h2 a1 w1' hf1 hm1=>h2 a1 w1' hf1 hm1) a w hf hm
 simp only[sem]at h1
 rw[wpOps_cons]at h1
 simp only[semR]
 rw[wpOpsIn_cons]
 exact op_round (noDefers_all hnd) (fun e a w he hq=>sem_inv (P:=P) (body:=body) e a w he hq) (fun a w hq=>hq) h1
theorem holds_codeY(m:Nat)
  (h:∀(J:Act->World->Prop)(Qn:Exit->Act->World->Prop),(∀(w1:World)(S1:Nat->Prop)(st1:St),Holds D P body n w1 S1 Q k st1->HoldsR Fence.wide m D P body n w1 S1 Qn [.inv J] st1)->(∀a w,Q .ret a w->Qn .ret a w)->HoldsR Fence.wide m D P body n w0 S Qn [.code p,.inv J] st) :
  Holds D P body n w0 S Q (.code p::k) st:=by
 intro a w hf hm
 have h1:=h (sem P body Q k .normal) (sem P body Q k) (fun w1 S1 st1 h2 a1 w1' hf1 hm1=>h2 a1 w1' hf1 hm1) (fun a w hq=>sem_ret hq k) a w hf hm
 have he:semR Fence.wide m P body (sem P body Q k) [.inv (sem P body Q k .normal)]=sem P body Q k:=by
  funext e a w
  cases e<;>rfl
 simp only[semR]at h1
 rw[he]at h1
 simp only[sem]
 exact(wpIn_wide (n:=m)).1 h1
end
section
variable {m l:Nat}{D:List Deferred}{w0:World}{S:Nat->Prop}{Q:Exit->Act->World->Prop}{p:List Nat}{k:List KI}{st:St}
theorem holdsR_reg{l0:List Nat}(hr:isReg (getCode body p)=true)(hnd:noDefers (opsOf (getCode body p))=true)(hl:List.range (opsOf (getCode body p)).size=l0)
  (h:∀J:Act->World->Prop,(∀(w1:World)(S1:Nat->Prop)(st1:St),HoldsR (Fence.wide.inRound l) m D P body n w1 S1 Q k st1->Holds D P body n w1 S1 NoWay [.inv J] st1)->Holds D P body n w0 S NoWay [.ops p l0,.inv J] st) :
  HoldsR (Fence.wide.inRound l) m D P body n w0 S Q (.code p::k) st:=by
 subst hl
 intro a w hf hm
 obtain⟨id,hc⟩:=reg_of hr
 have h1:=h (fun a w=>semR (Fence.wide.inRound l) m P body Q k .normal a w) (fun w1 S1 st1 h2 a1 w1' hf1 hm1=>h2 a1 w1' hf1 hm1) a w hf hm
 simp only[sem]at h1
 simp only[semR]
 rw[hc]
 refine wpIn_region ?_
 exact ops_round (noDefers_all hnd) (fun e a w he hq=>sem_inv (P:=P) (body:=body) e a w he hq) (fun a w hq=>hq) _ a w h1
theorem holdsR_draw{f0:Nat}{ls:Array Bool}(hr:isDraw (getCode body p)=true)(hmo:P.follows .mixedOrders=true)(hnd:noDefers (opsOf (getCode body p))=true)(hf0:(opsOf (getCode body p)).size=f0)(hl:Array.replicate (opsOf (getCode body p)).size false=ls)
  (h:∀J:Act->World->Prop,(∀(w1:World)(S1:Nat->Prop)(st1:St),HoldsR (Fence.wide.inRound l) m D P body n w1 S1 Q k st1->Holds D P body n w1 S1 NoWay [.inv J] st1)->Holds D P body n w0 S NoWay [.any p f0 ls,.inv J] st) :
  HoldsR (Fence.wide.inRound l) m D P body n w0 S Q (.code p::k) st:=by
 subst hl hf0
 intro a w hf hm
 obtain⟨id,hc⟩:=draw_of hr
 have h1:=h (fun a w=>semR (Fence.wide.inRound l) m P body Q k .normal a w) (fun w1 S1 st1 h2 a1 w1' hf1 hm1=>h2 a1 w1' hf1 hm1) a { w with drawn:=w.drawn+1 } hf ⟨hm.size,hm.blk,hm.own,hm.nd,hm.kept.drew,hm.win⟩
 simp only[sem]at h1
 simp only[semR]
 rw[hc]
 refine wpIn_region_any hmo ?_
 exact any_round (noDefers_all hnd) (fun e a w he hq=>sem_inv (P:=P) (body:=body) e a w he hq) (fun a w hq=>hq) _ _ a _ h1
end
end
end Go.Proofs.YtcmpkkapkdlfhaaGreat
