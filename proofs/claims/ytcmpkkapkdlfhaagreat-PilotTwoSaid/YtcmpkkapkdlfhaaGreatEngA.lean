import Derived.WalkKit
import Derived.Deep.Draws
import Derived.ProofKit
import Derived.Deep.Slices
import Derived.Orders
import Derived.Laws.StructEq
namespace Go.Proofs.YtcmpkkapkdlfhaaGreat
open Go.RowKit
def Blk(w:World)(g:Nat)(t:TypeId)(cs:List Value):Prop:=w.heap[g]?=some (.cells cs.toArray t (0,0))
theorem getElem?_lt {α:Type} {h:Array α} {g:Nat} {x:α} (e:h[g]?=some x):g<h.size:=by
 rcases Nat.lt_or_ge g h.size with hlt|hge
 ·exact hlt
 ·rw[Array.getElem?_eq_none hge]at e; cases e
section
variable {w w':World}{g:Nat}{t:TypeId}{cs:List Value}
theorem Blk.lt(h:Blk w g t cs):g<w.heap.size:=getElem?_lt h
theorem Blk.cell(h:Blk w g t cs)(i:Nat):w.cell? ⟨g,i,none⟩=cs[i]?:=by
 unfold Blk at h; simp[World.cell?,h]
theorem Blk.at_(h:Blk w g t cs){i:Nat}{v:Value}(hi:cs[i]?=some v):w.cell? ⟨g,i,none⟩=some v:=(h.cell i).trans hi
theorem Blk.frozen(h:Blk w g t cs)(i:Nat):w.frozen? ⟨g,i,none⟩=false:=by
 unfold Blk at h; simp[World.frozen?,h]
theorem Blk.new(w:World)(t:TypeId)(cs:List Value):Blk (w.alloc (.cells cs.toArray t)) w.heap.size t cs:=
 heap_alloc_new w _
theorem Blk.alloc(h:Blk w g t cs)(o:Obj):Blk (w.alloc o) g t cs:=(Below.heap_alloc w o g h.lt).trans h
theorem Blk.put(h:Blk w g t cs)(i:Nat)(u:Value):Blk (w.setCell ⟨g,i,none⟩ u) g t (cs.set i u):=by
 unfold Blk at h ⊢
 simp[World.setCell,Array.getElem?_modify,h]
theorem Blk.far(h:Blk w g t cs){p:Addr}(hp:p.block≠g)(u:Value):Blk (w.setCell p u) g t cs:=(Below.heap_setCell w p u g (Ne.symm hp)).trans h
end
structure Kept(S:Nat->Prop)(w w':World):Prop where
 os:w'.os=w.os
 tape:w'.tape=w.tape
 output:w'.output=w.output
 size:w.heap.size<=w'.heap.size
 block:∀k,k<w.heap.size->¬S k->w'.heap[k]?=w.heap[k]?
section
variable {S S':Nat->Prop}{a b c w w':World}
theorem Kept.refl(S:Nat->Prop)(w:World):Kept S w w:=⟨rfl,rfl,rfl,Nat.le_refl _,fun _ _ _=>rfl⟩
theorem Kept.trans(h:Kept S a b)(h':Kept S' b c)(hs:∀k,k<a.heap.size->S' k->S k):Kept S a c:=
 ⟨h'.os.trans h.os,h'.tape.trans h.tape,h'.output.trans h.output,Nat.le_trans h.size h'.size,fun k hk hn=>
  (h'.block k (Nat.lt_of_lt_of_le hk h.size) (fun hs'=>hn (hs k hk hs'))).trans (h.block k hk hn)⟩
theorem Kept.mono(h:Kept S' a b)(hs:∀k,k<a.heap.size->S' k->S k):Kept S a b:=⟨h.os,h.tape,h.output,h.size,fun k hk hn=>h.block k hk (fun x=>hn (hs k hk x))⟩
theorem Kept.drew(h:Kept S a b):Kept S a b.drew:=⟨h.os,h.tape,h.output,h.size,h.block⟩
theorem Kept.alloc(h:Kept S a b)(o:Obj):Kept S a (b.alloc o):=
 ⟨h.os,h.tape,h.output,Nat.le_trans h.size (by simp),fun k hk hn=>(Below.heap_alloc b o k (Nat.lt_of_lt_of_le hk h.size)).trans (h.block k hk hn)⟩
theorem Kept.setCell(h:Kept S a b){p:Addr}(hp:p.block<a.heap.size->S p.block)(u:Value):Kept S a (b.setCell p u):=
 ⟨h.os,h.tape,h.output,by simpa using h.size,fun k hk hn=>(Below.heap_setCell b p u k (by rintro rfl; exact hn (hp hk))).trans (h.block k hk hn)⟩
theorem Kept.below(h:Kept (fun _=>False) a b):Below a.heap.size a b:=⟨h.os,h.tape,h.output,h.size,fun k hk=>h.block k hk id⟩
theorem Kept.of_grown{row:Option Nat}(h:a.grownBy b row)(hs:∀k,k<a.heap.size->row=some k->S k):Kept S a b:=
 ⟨h.os,h.tape,h.output,h.size,fun k hk hn=>h.block k hk (fun e=>hn (hs k hk e.symm))⟩
theorem Blk.kept{g:Nat}{t:TypeId}{cs:List Value}(h:Blk w g t cs)(hk:Kept S w w')(hn:¬S g):Blk w' g t cs:=(hk.block g h.lt hn).trans h
theorem Kept.cell(hk:Kept S w w'){p:Addr}(hp:p.block<w.heap.size)(hn:¬S p.block):w'.cell? p=w.cell? p:=World.cell?_of_block (hk.block _ hp hn)
end
theorem ret_bool{a b:Bool}(h:a=b):Ending.returned (.bool a)=.returned (.bool b):=by rw[h]
end Go.Proofs.YtcmpkkapkdlfhaaGreat
namespace Go.Proofs.YtcmpkkapkdlfhaaGreat
open Go.RowKit Go.WideShapes Go.ChangeShapes
section
variable {H:Type}{enc:TypeId×Value->H}{P:Program}
theorem post_of_kept{f:Func}{s:ChangeSpec}{apart fresh handsOn again:Bool}{W W':World}{args:Array Value}{v:Value}{ds gs:List (DataW H)}{before pa pv:List MemPlace}
  (hW:DataW.Whole enc P f.params.toList s.vars apart W args.toList ds gs before)
  (hres:∀(b:Nat)(sp:Nat->Bool)(hd:Bool),DataW.TrodAll enc P W' b sp hd f.resultTypes.toList (v.resultList f.resultTypes.size) (s.fn H (ds++gs)).results [])
  (hargs:∀sp:Nat->Bool,(∀p∈before,sp p.block=true)->DataW.TrodAll enc P W' 0 sp true f.params.toList args.toList (s.fn H (ds++gs)).args pa)
  (hvars:∀sp:Nat->Bool,(∀p∈before,sp p.block=true)->DataW.TrodVars enc P W' sp s.vars (s.fn H (ds++gs)).vars pv)
  (hps:before=pa++pv) (hk:Kept (fun _=>False) W W')
  (hok:∀(j:Nat)(t:TypeId)(r:Value),f.resultTypes[j]?=some t->(v.resultList f.resultTypes.size)[j]?=some r->Value.okWide P W' .any 0 t r) :
  s.post enc P f apart fresh handsOn again W args v W':=by
 have hb:=hk.below
 have hlt:∀p∈before,p.block<W.heap.size:=fun p hp=>hW.lt p hp
 have hold:∀p∈before,(fun b=>decide (b<W.heap.size)) p.block=true:=fun p hp=>by simpa using hlt p hp
 refine⟨ds,gs,before,[],pa,pv,hW,hres _ _ _,hargs _ hold,hvars _ hold,World.keptBut_mono (fun p hp=>⟨hp,?_⟩) (hb.frame (·∈before)),fun _=>?_⟩
 ·rw[hps,List.mem_append]at hp
  exact Or.inr hp
 ·obtain⟨_,_,_,_,_,hz,hn⟩:=hW
  refine⟨hok,_,_,([]++pa)++pv,⟨[]++pa,pv,trodAll_append (hargs _ (fun _ _=>rfl)) (hres _ _ _),hvars _ (fun _ _=>rfl),rfl,?_,?_⟩,?_⟩
  ·intro b off hp
   have hin:MemPlace.cell b off∈before:=by rw[hps]; simpa using hp
   rw[hb.frozen (hlt _ hin)]
   exact hz b off hin
  ·intro ha
   have:=hn ha
   rw[hps]at this
   simpa using this
  ·intro p hp _
   rw[hps]
   simpa using hp
theorem stays_all{W W':World}(hl:laidOutB P=true)(hk:Kept (fun _=>False) W W'):∀(ts:List TypeId)(vs:List Value)(ds:List (DataW H))(ps:List MemPlace)(sp:Nat->Bool),
  (∀t∈ts,P.readableRec t=true∧t<P.types.size)->DataW.TrodAll enc P W 0 (fun _=>true) true ts vs ds ps->(∀p∈ps,p.block<W.heap.size)->(∀p∈ps,sp p.block=true)->DataW.TrodAll enc P W' 0 sp true ts vs ds ps
 |[],[],[],_,_,_,h,_,_=>h
 |[],_::_,_,_,_,_,h,_,_=>(h:False).elim
 |[],[],_::_,_,_,_,h,_,_=>(h:False).elim
 |_::_,[],_,_,_,_,h,_,_=>(h:False).elim
 |_::_,_::_,[],_,_,_,h,_,_=>(h:False).elim
 |t::ts,v::vs,d::ds,ps,sp,ht,h,hlt,hs=>by
  obtain⟨p,q,h1,h2,rfl⟩:=h
  refine⟨p,q,?_,stays_all hl hk ts vs ds q sp (fun u hu=>ht u (List.mem_cons_of_mem _ hu)) h2 (fun x hx=>hlt x (List.mem_append_right _ hx)) (fun x hx=>hs x (List.mem_append_right _ hx)),rfl⟩
  have:=ht t (List.mem_cons_self ..)
  exact WideElems.Trod_stays hl this.1 this.2 h1 (fun x hx=>hk.below.same (hlt x (List.mem_append_left _ hx))) (fun x hx=>hs x (List.mem_append_left _ hx))
theorem law_post{f:Func}{s:ChangeSpec}{apart:Bool}{W W':World}{args:Array Value}{ds gs:List (DataW H)}{before:List MemPlace}{tb:TypeId}
  (hl:laidOutB P=true) (ht:∀t∈f.params.toList,P.readableRec t=true∧t<P.types.size) (hr:f.resultTypes=#[tb]) (hu:P.underlying tb=some .bool)
  (hv:s.vars=[]) (hf:s.fn H ds={ results:=[.lit (.bool true)],args:=ds })
  (hW:DataW.Whole enc P f.params.toList s.vars apart W args.toList ds gs before) (hk:Kept (fun _=>False) W W') :
  s.post enc P f apart true false false W args (.bool true) W':=by
 have hW2:=hW
 obtain⟨p,q,hA,hV,rfl,_,_⟩:=hW2
 rw[hv]at hV
 have hg:gs=[]∧q=[]:=by
  cases gs with
  |nil=>exact⟨rfl,hV⟩
  |cons a b=>exact(hV:False).elim
 obtain⟨rfl,rfl⟩:=hg
 have hfe:s.fn H (ds++[])={ results:=[.lit (.bool true)],args:=ds }:=by rw[List.append_nil]; exact hf
 have hlt:∀x∈p,x.block<W.heap.size:=fun x hx=>hW.lt x (List.mem_append_left _ hx)
 have hsv:(s.fn H (ds++[])).vars=[]:=by rw[hfe]
 refine post_of_kept (pa:=p) (pv:=[]) hW (fun _ _ _=>?_) (fun sp hsp=>?_) (fun _ _=>?_) rfl hk ?_
 ·rw[hfe,hr]
  exact trodAll_mk1 (shut_bool hu true)
 ·rw[hfe]
  exact stays_all hl hk _ _ _ _ sp ht hA hlt (fun x hx=>hsp x (List.mem_append_left _ hx))
 ·rw[hsv,hv]
  rfl
 ·exact ok_one hr rfl (okWide_bool_mk hu true)
end
end Go.Proofs.YtcmpkkapkdlfhaaGreat
namespace Go.Proofs.YtcmpkkapkdlfhaaGreat
open Go.RowKit Go.WideShapes Go.ChangeShapes Go.Deep
def okKind(w:World):Nat->Value->Prop
 |0,v=>∃a,v=.int .i64 a∧(Lit.int .i64 a).wf=true
 |1,v=>∃b,v=.bool b
 |2,v=>∃s:ByteArray,v=.string s∧s.size<=maxLen
 |4,v=>∃A n c,v=.slice A n c∧∀k,k<n->∃b o a,A=some ⟨b,o,none⟩∧b<w.heap.size∧w.cell? ⟨b,o+k,none⟩=some (.int .i64 a)∧(Lit.int .i64 a).wf=true
 |_,v=>∃A n c,v=.slice A n c
def flatFields(P:Program)(g:TypeId->Option (List Nat)):List Field->Nat->Option (List Nat)
 |[],_=>some []
 |f::r,o=>
  match g f.type,flatFields P g r (o+P.cellsOf f.type)with
  |some l,some m=>if f.offset=o∧P.cellsOf f.type=l.length then some (l++m)else none
  |_,_=>none
def flat(P:Program):Nat->TypeId->Option (List Nat)
 |0,_=>none
 |n+1,t=>
  match P.underlying t with
  |some (.int .i64)=>some [0]
  |some .bool=>some [1]
  |some .string=>some [2]
  |some (.slice e)=>match P.underlying e with
   |some (.int .i64)=>some [4]
   |_=>some [3]
  |some (.struct fs)=>flatFields P (flat P n) fs.toList 0
  |_=>none
section
variable {H:Type}{enc:TypeId×Value->H}{P:Program}{w:World}{base:Nat}{spare:Nat->Bool}{held:Bool}
theorem addr_add(b o i:Nat):(⟨b,o,none⟩:Addr).add i=⟨b,o+i,none⟩:=by
 unfold Addr.add
 split
 ·rename_i h; subst h; rfl
 ·rfl
theorem open_ints{t e:TypeId}{cs:List Value}{m:Nat}{x:DataW H×List MemPlace}(ht:P.underlying t=some (.slice e))(he:P.underlying e=some (.int .i64))(hx:DataW.trod enc P w base spare held m t cs=some x):∃v,cs=[v]∧okKind w 4 v:=by
 rcases open_slice ht hx with⟨hcs,_⟩|⟨a,len',cap',m',n',D,Pl,hcs,_,hl,hm,hmm,_,hi⟩
 ·exact⟨_,hcs,none,0,0,rfl,fun k hk=>absurd hk (by omega)⟩
 ·refine⟨_,hcs,_,_,_,rfl,fun k hk=>?_⟩
  have key:∀k,k<len'->∃y,P.cellsOf e=1∧w.cell? ((a.add (k*1)).add 0)=some (.int .i64 y)∧(Lit.int .i64 y).wf=true:=fun k hk=>by
   have hkm:k<m':=by rw[hmm]; split<;>omega
   obtain⟨cs',hc,hy⟩:=hi k hkm
   obtain⟨y,hcs',_,wy⟩:=DataW.trod_int he hy
   subst hcs'
   obtain⟨_,hlen,hat⟩:=World.cells?_some hc
   have h1:P.cellsOf e=1:=hlen.symm
   rw[h1]at hat
   exact⟨y,h1,hat 0 (by omega),wy⟩
  obtain⟨y,_,hcell,wy⟩:=key k hk
  have hblk:=World.block_lt_of_cell? _ _ hcell
  obtain⟨b,o,sp⟩:=a
  have hsp:sp=none:=by
   cases sp with
   |none=>rfl
   |some s=>
    exfalso
    obtain⟨_,_,h0,_⟩:=key 0 (by omega)
    simp only[Nat.zero_mul,Addr.add,if_true]at h0
    unfold World.cell? at h0
    split at h0
    ·simp at h0
    ·cases h0
  subst hsp
  rw[addr_add,addr_add]at hcell
  refine⟨b,o,y,rfl,by simpa[addr_add]using hblk,by simpa using hcell,wy⟩
theorem flatFields_spec(g:TypeId->Option (List Nat))(cs:List Value)
  (hg:∀(t:TypeId)(L:List Nat)(cs:List Value)(m:Nat)(x:DataW H×List MemPlace),g t=some L->DataW.trod enc P w base spare held m t cs=some x->∀(j k:Nat),L[j]?=some k->∃v,cs[j]?=some v∧okKind w k v) :
  ∀(fs:List Field)(o:Nat)(L:List Nat),flatFields P g fs o=some L ->
   (∀(i:Nat)(f:Field),fs[i]?=some f->∃m x,DataW.trod enc P w base spare held m f.type ((cs.drop f.offset).take (P.cellsOf f.type))=some x) ->
   ∀(j k:Nat),L[j]?=some k->∃v,cs[o+j]?=some v∧okKind w k v
 |[],o,L,h,_,j,k,hj=>by
  simp only[flatFields,Option.some.injEq]at h
  subst h
  simp at hj
 |f::r,o,L,h,ht,j,k,hj=>by
  simp only[flatFields]at h
  split at h
  ·rename_i l m hl hm
   split at h
   ·rename_i hc
    obtain⟨hc1,hc2⟩:=hc
    simp only[Option.some.injEq]at h
    subst h
    by_cases hlt:j<l.length
    ·obtain⟨mm,x,hx⟩:=ht 0 f rfl
     rw[List.getElem?_append_left hlt]at hj
     obtain⟨v,hv,hk⟩:=hg _ _ _ _ _ hl hx j k hj
     refine⟨v,?_,hk⟩
     rw[List.getElem?_take,if_pos (by omega),List.getElem?_drop,hc1]at hv
     exact hv
    ·rw[List.getElem?_append_right (by omega)]at hj
     obtain⟨v,hv,hk⟩:=flatFields_spec g cs hg r _ _ hm (fun i f' hf'=>ht (i+1) f' hf') (j-l.length) k hj
     exact⟨v,by rw[<-hv]; congr 1; omega,hk⟩
   ·cases h
  ·cases h
theorem flat_spec:∀(n:Nat)(t:TypeId)(L:List Nat)(cs:List Value)(m:Nat)(x:DataW H×List MemPlace),flat P n t=some L->DataW.trod enc P w base spare held m t cs=some x ->
  ∀(j k:Nat),L[j]?=some k->∃v,cs[j]?=some v∧okKind w k v
 |0,_,_,_,_,_,h,_,_,_,_=>by cases h
 |n+1,t,L,cs,m,x,h,hx,j,k,hj=>by
  simp only[flat]at h
  split at h
  ·rename_i hu
   simp only[Option.some.injEq]at h
   subst h
   obtain⟨a,rfl,_,wa⟩:=DataW.trod_int hu hx
   match j,hj with
   |0,hj=>simp at hj; subst hj; exact⟨_,rfl,a,rfl,wa⟩
   |j+1,hj=>simp at hj
  ·rename_i hu
   simp only[Option.some.injEq]at h
   subst h
   obtain⟨b,rfl,_⟩:=DataW.trod_bool hu hx
   match j,hj with
   |0,hj=>simp at hj; subst hj; exact⟨_,rfl,b,rfl⟩
   |j+1,hj=>simp at hj
  ·rename_i hu
   simp only[Option.some.injEq]at h
   subst h
   obtain⟨s,rfl,_,hs⟩:=DataW.trod_string hu hx
   match j,hj with
   |0,hj=>simp at hj; subst hj; exact⟨_,rfl,s,rfl,hs⟩
   |j+1,hj=>simp at hj
  ·rename_i e hu
   split at h
   ·rename_i he
    simp only[Option.some.injEq]at h
    subst h
    obtain⟨v,hv,hk⟩:=open_ints (w:=w) hu he hx
    match j,hj with
    |0,hj=>simp at hj; subst hj; exact⟨v,by rw[hv]; rfl,hk⟩
    |j+1,hj=>simp at hj
   simp only[Option.some.injEq]at h
   subst h
   rcases open_slice hu hx with⟨hcs,_⟩|⟨a,len',cap',m',n',D,Pl,hcs,_⟩
   ·match j,hj with
    |0,hj=>simp at hj; subst hj; exact⟨_,by rw[hcs]; rfl,none,0,0,rfl⟩
    |j+1,hj=>simp at hj
   ·match j,hj with
    |0,hj=>simp at hj; subst hj; exact⟨_,by rw[hcs]; rfl,_,_,_,rfl⟩
    |j+1,hj=>simp at hj
  ·rename_i fs hu
   obtain⟨xs,m',_,_,_,hlen,hf⟩:=DataW.trod_struct hu hx
   obtain⟨v,hv,hk⟩:=flatFields_spec (flat P n) cs (fun t L cs m x=>flat_spec n t L cs m x) fs.toList 0 L h (fun i f hi=>by
    have hi':fs[i]?=some f:=by simpa using hi
    have hil:i<xs.length:=by rw[hlen]; exact(Array.getElem?_eq_some_iff.1 hi').1
    exact⟨m',xs[i],(hf i f hi').trans (List.getElem?_eq_getElem hil)⟩) j k hj
   exact⟨v,by simpa using hv,hk⟩
  ·cases h
def FlatAt(w:World)(A:Option Addr)(n:Nat)(L:List Nat):Prop:=
 ∀k,k<n->∃b o,A=some ⟨b,o,none⟩∧b<w.heap.size∧∀j kd,L[j]?=some kd->∃v,w.cell? ⟨b,o+k*L.length+j,none⟩=some v∧okKind w kd v
theorem open_flat{r:Reach}{b0:Nat}{t e:TypeId}{v:Value}{d:DataW H}{p:List MemPlace}{n:Nat}{L:List Nat}(ht:P.underlying t=some (.slice e))(hL:flat P n e=some L)(hC:P.cellsOf e=L.length)(h0:0<L.length)
  (hv:Value.okWide P w r b0 t v) (h:DataW.Trod enc P w base spare held t v d p) :
  ∃A len cap,v=.slice A len cap∧len<=cap∧cap<=maxLen∧FlatAt w A len L:=by
 obtain⟨A,len,cap,rfl⟩:=okWide_slice ht hv
 obtain⟨fuel,hf⟩:=h
 rcases open_slice ht hf with⟨hcs,_⟩|⟨a,len',cap',m,n',D,Pl,hcs,_,hl,hm,hmm,_,hi⟩
 ·simp[Value.cells]at hcs
  obtain⟨rfl,rfl,rfl⟩:=hcs
  exact⟨_,_,_,rfl,Nat.le_refl _,Nat.zero_le _,fun k hk=>absurd hk (by omega)⟩
 ·simp[Value.cells]at hcs
  obtain⟨rfl,rfl,rfl⟩:=hcs
  refine⟨_,_,_,rfl,hl,hm,fun k hk=>?_⟩
  have hkm:k<m:=by rw[hmm]; split<;>omega
  obtain⟨cs',hc,hx⟩:=hi k hkm
  rw[hC]at hc
  obtain⟨_,hlen,hat⟩:=World.cells?_some hc
  have hspec:=flat_spec n e L cs' n' _ hL hx
  obtain⟨kd0,hk0⟩:∃kd,L[0]?=some kd:=⟨_,List.getElem?_eq_getElem h0⟩
  obtain⟨v0,hv0,_⟩:=hspec 0 kd0 hk0
  have hcell:w.cell? ((a.add (k*L.length)).add 0)=some v0:=(hat 0 h0).trans hv0
  have hblk:=World.block_lt_of_cell? _ _ hcell
  obtain⟨b,o,sp⟩:=a
  have hsp:sp=none:=by
   cases sp with
   |none=>rfl
   |some s=>
    exfalso
    obtain⟨cs1,hc1,hx1⟩:=hi 0 (by omega)
    rw[hC]at hc1
    obtain⟨_,_,hat1⟩:=World.cells?_some hc1
    obtain⟨v1,hv1,_⟩:=flat_spec n e L cs1 n' _ hL hx1 0 kd0 hk0
    have:=(hat1 0 h0).trans hv1
    simp only[Nat.zero_mul,Addr.add,if_true]at this
    unfold World.cell? at this
    split at this
    ·simp at this
    ·cases this
  subst hsp
  refine⟨b,o,rfl,by simpa[addr_add]using hblk,fun j kd hj=>?_⟩
  obtain⟨v,hv,hk⟩:=hspec j kd hj
  have hjl:=(List.getElem?_eq_some_iff.1 hj).1
  refine⟨v,?_,hk⟩
  have:=(hat j hjl).trans hv
  rwa [addr_add,addr_add]at this
theorem open_agg{r:Reach}{b0:Nat}{t:TypeId}{v:Value}{d:DataW H}{p:List MemPlace}{n:Nat}{L:List Nat}{fs:Array Field}(ht:P.underlying t=some (.struct fs))(hL:flat P n t=some L)(hC:P.cellsOf t=L.length)
  (hv:Value.okWide P w r b0 t v) (h:DataW.Trod enc P w base spare held t v d p) :
  ∃cs:Array Value,v=.agg cs∧cs.size=L.length∧∀(j k:Nat),L[j]?=some k->∃c,cs[j]?=some c∧okKind w k c:=by
 unfold Value.okWide at hv
 simp only[ht]at hv
 obtain⟨cs,rfl,hs,_⟩:=hv
 obtain⟨fuel,hf⟩:=h
 refine⟨cs,rfl,hs.trans hC,fun j k hj=>?_⟩
 obtain⟨c,hc,hk⟩:=flat_spec n t L _ fuel _ hL hf j k hj
 exact⟨c,by simpa[Value.cells]using hc,hk⟩
theorem agg_eq{cs:Array Value}{l:List Value}(hs:cs.size=l.length)(h:∀(j:Nat),j<l.length->cs[j]?=l[j]?):cs=l.toArray:=by
 apply Array.ext_getElem?
 intro i
 by_cases hi:i<l.length
 ·rw[h i hi]
  simp
 ·rw[Array.getElem?_eq_none (by omega)]
  simp
  omega
end
end Go.Proofs.YtcmpkkapkdlfhaaGreat
namespace Go.Proofs.YtcmpkkapkdlfhaaGreat
open Go.RowKit
@[simp] def pt(g o:Nat):Value:=.pointer (some ⟨g,o,none⟩)
structure Bk where
 g:Nat
 t:TypeId
 rw:Bool
 cs:List Value
structure Wn where
 g:Nat
 o:Nat
 cs:List Value
structure St where
 sl:List (Nat×Value)
 bk:List Bk
 wn:List Wn
 sz:Nat
structure MH where
 win:Bool
 i:Nat
 r:Nat
 n:Nat
def nextH:List MH->Option (Bool×Nat×Nat×List MH)
 |[]=>none
 |⟨_,_,_,0⟩::_=>none
 |⟨w,i,r,1⟩::hs=>some (w,i,r,hs)
 |⟨w,i,r,n+2⟩::hs=>some (w,i,r,⟨w,i,r+1,n+1⟩::hs)
structure MemOk(w0:World)(S:Nat->Prop)(bk:List Bk)(wn:List Wn)(sz:Nat)(w:World):Prop where
 size:w.heap.size=sz
 blk:∀b∈bk,Blk w b.g b.t b.cs
 own:∀b∈bk,b.rw=true->S b.g∨w0.heap.size<=b.g
 nd:(bk.map (·.g)).Nodup
 kept:Kept S w0 w
 win:∀x∈wn,¬S x.g∧x.g<w0.heap.size∧∀j v,x.cs[j]?=some v->w0.cell? ⟨x.g,x.o+j,none⟩=some v
structure RO(α:Type)where
 v:α
 bk:List Bk
 sz:Nat
 eqs:List ((Nat×Nat)×(Nat×Nat))
def RO.more{α:Type}(r:Option (RO α))(p q:Nat×Nat):Option (RO α):=match r with|none=>none|some r=>some { r with eqs:=(p,q)::r.eqs }
def oneCell:Value->Bool
 |.agg _=>false
 |.tuple _=>false
 |_=>true
def runS{α:Type}(P:Program)(wn:List Wn):Sem α->List MH->List Bk->Nat->Option (RO α)
 |.pure a,_,bk,sz=>some ⟨a,bk,sz,[]⟩
 |.load _ a k,hs,bk,sz=>
  match nextH hs,a.spot with
  |some (true,i,r,hs'),none=>
   match wn[i]? with
   |some x=>match x.cs[r]? with
    |some v=>RO.more (runS P wn (k v) hs' bk sz) (x.g,x.o+r) (a.block,a.off)
    |none=>none
   |none=>none
  |some (false,i,r,hs'),none=>
   match bk[i]? with
   |some b=>match b.cs[r]? with
    |some v=>RO.more (runS P wn (k v) hs' bk sz) (b.g,r) (a.block,a.off)
    |none=>none
   |none=>none
  |_,_=>none
 |.store _ a v k,hs,bk,sz=>
  match nextH hs,a.spot,oneCell v with
  |some (false,i,r,hs'),none,true=>
   match bk[i]? with
   |some b=>match b.rw,b.cs[r]? with
    |true,some _=>RO.more (runS P wn k hs' (bk.set i { b with cs:=b.cs.set r v }) sz) (b.g,r) (a.block,a.off)
    |_,_=>none
   |none=>none
  |_,_,_=>none
 |.new (.cells c t (0,0)) k,hs,bk,sz=>runS P wn (k sz) hs (bk++[⟨sz,t,true,c.toList⟩]) (sz+1)
 |.program k,hs,bk,sz=>runS P wn (k P) hs bk sz
 |.mark _ k,hs,bk,sz=>runS P wn k hs bk sz
 |_,_,_,_=>none
def Good(es:List ((Nat×Nat)×(Nat×Nat))):Prop:=∀e∈es,e.1=e.2
section
variable {w0:World}{S:Nat->Prop}{bk:List Bk}{wn:List Wn}{sz:Nat}{w:World}
theorem MemOk.lt(h:MemOk w0 S bk wn sz w){b:Bk}(hb:b∈bk):b.g<sz:=h.size▸(h.blk b hb).lt
theorem nodup_get{l:List Bk}(hn:(l.map (·.g)).Nodup){i j:Nat}{b c:Bk}(hi:l[i]?=some b)(hj:l[j]?=some c)(he:b.g=c.g):i=j:=by
 have h1:(l.map (·.g))[i]?=some b.g:=by simp[hi]
 have h2:(l.map (·.g))[j]?=some b.g:=by simp[hj,he]
 have k1:=(List.getElem?_eq_some_iff.1 h1).1
 have k2:=(List.getElem?_eq_some_iff.1 h2).1
 have hn':=List.pairwise_iff_getElem.1 hn
 rw[List.getElem?_eq_getElem k1,Option.some.injEq]at h1
 rw[List.getElem?_eq_getElem k2,Option.some.injEq]at h2
 rcases Nat.lt_trichotomy i j with h|h|h
 ·exact absurd (h1.trans h2.symm) (hn' i j k1 k2 h)
 ·exact h
 ·exact absurd (h2.trans h1.symm) (hn' j i k2 k1 h)
theorem map_set_g{l:List Bk}{i:Nat}{b:Bk}(hi:l[i]?=some b)(cs:List Value):(l.set i { b with cs:=cs }).map (·.g)=l.map (·.g):=by
 rw[List.map_set]
 apply List.ext_getElem?
 intro j
 rw[List.getElem?_set]
 split
 ·rename_i h
  subst h
  have hl:=(List.getElem?_eq_some_iff.1 hi).1
  simp[hl]
  rw[List.getElem?_eq_getElem hl]at hi
  injection hi with hi
  rw[hi]
 ·rfl
theorem MemOk.store(h:MemOk w0 S bk wn sz w){i r:Nat}{b:Bk}(hi:bk[i]?=some b)(hrw:b.rw=true)(v:Value) :
  MemOk w0 S (bk.set i { b with cs:=b.cs.set r v }) wn sz (w.setCell ⟨b.g,r,none⟩ v):=by
 have hb:b∈bk:=List.mem_of_getElem? hi
 refine⟨by simpa using h.size,fun c hc=>?_,fun c hc hr=>?_,by rw[map_set_g hi]; exact h.nd,h.kept.setCell (fun hlt=>(h.own b hb hrw).resolve_right (by simpa using hlt)) _,h.win⟩
 ·obtain⟨j,hj⟩:=List.mem_iff_getElem?.1 hc
  rw[List.getElem?_set]at hj
  split at hj
  ·split at hj
   ·simp only[Option.some.injEq]at hj
    subst hj
    exact(h.blk b hb).put r v
   ·cases hj
  ·rename_i hne
   refine(h.blk c (List.mem_of_getElem? hj)).far (p:=⟨b.g,r,none⟩) (fun he=>hne ?_) v
   exact nodup_get h.nd hi hj he
 ·obtain⟨j,hj⟩:=List.mem_iff_getElem?.1 hc
  rw[List.getElem?_set]at hj
  split at hj
  ·split at hj
   ·simp only[Option.some.injEq]at hj
    subst hj
    exact h.own b hb hrw
   ·cases hj
  ·exact h.own c (List.mem_of_getElem? hj) hr
theorem MemOk.new(h:MemOk w0 S bk wn sz w)(c:Array Value)(t:TypeId):MemOk w0 S (bk++[⟨sz,t,true,c.toList⟩]) wn (sz+1) { w with heap:=w.heap.push (.cells c t (0,0)) }:=by
 have e:({ w with heap:=w.heap.push (.cells c t (0,0)) }:World)=w.alloc (.cells c t (0,0)):=rfl
 rw[e]
 have hz:=h.size
 refine⟨by simp[hz],fun b hb=>?_,fun b hb hr=>?_,?_,h.kept.alloc _,h.win⟩
 ·rcases List.mem_append.1 hb with hb|hb
  ·exact(h.blk b hb).alloc _
  ·simp only[List.mem_singleton]at hb
   subst hb
   have:=Blk.new w t c.toList
   simpa[hz]using this
 ·rcases List.mem_append.1 hb with hb|hb
  ·exact h.own b hb hr
  ·simp only[List.mem_singleton]at hb
   subst hb
   right
   rw[<-hz]
   exact h.kept.size
 ·rw[List.map_append,List.nodup_append]
  refine⟨h.nd,by simp,fun a ha b hb=>?_⟩
  simp only[List.map_cons,List.map_nil,List.mem_singleton]at hb
  subst hb
  obtain⟨b',hb',rfl⟩:=List.mem_map.1 ha
  have:=h.lt hb'
  omega
theorem MemOk.winCell(h:MemOk w0 S bk wn sz w){x:Wn}(hx:x∈wn){j:Nat}{v:Value}(hj:x.cs[j]?=some v):w.cell? ⟨x.g,x.o+j,none⟩=some v:=by
 obtain⟨h1,h2,h3⟩:=h.win x hx
 rw[h.kept.cell (p:=⟨x.g,x.o+j,none⟩) h2 h1]
 exact h3 j v hj
theorem addr_is{a:Addr}(h:a.spot=none){g r:Nat}(e:(g,r)=(a.block,a.off)):a=⟨g,r,none⟩:=by
 cases a
 simp only[Prod.mk.injEq]at e h
 simp[h,e.1,e.2]
theorem more_some{α:Type}{r:Option (RO α)}{p q:Nat×Nat}{o:RO α}(h:RO.more r p q=some o):∃r',r=some r'∧o={ r' with eqs:=(p,q)::r'.eqs }:=by
 cases r with
 |none=>cases h
 |some r'=>exact⟨r',rfl,by simpa[RO.more]using h.symm⟩
theorem runS_sound{α:Type}(P:Program)(x:Sem α):∀(hs:List MH)(bk:List Bk)(sz:Nat)(w:World)(r:RO α),runS P wn x hs bk sz=some r->Good r.eqs->MemOk w0 S bk wn sz w ->
  ∃w',x.run P w=.ok r.v w'∧MemOk w0 S r.bk wn r.sz w':=by
 induction x with
 |pure a=>
  intro hs bk sz w r h _ hm
  simp only[runS,Option.some.injEq]at h
  subst h
  exact⟨w,rfl,hm⟩
 |load m a k ih=>
  intro hs bk sz w r h hg hm
  simp only[runS]at h
  split at h
  ·rename_i i rr hs' _ hsp
   split at h
   ·rename_i x hx
    split at h
    ·rename_i v hv
     obtain⟨r',hr,rfl⟩:=more_some h
     have e:=hg ((x.g,x.o+rr),(a.block,a.off)) (List.mem_cons_self ..)
     have hc:=hm.winCell (List.mem_of_getElem? hx) hv
     rw[<-addr_is hsp e]at hc
     obtain⟨w',h1,h2⟩:=ih v hs' bk sz w r' hr (fun e he=>hg e (List.mem_cons_of_mem _ he)) hm
     exact⟨w',by simp only[Sem.run,hc]; exact h1,h2⟩
    ·cases h
   ·cases h
  ·rename_i i rr hs' _ hsp
   split at h
   ·rename_i b hb
    split at h
    ·rename_i v hv
     obtain⟨r',hr,rfl⟩:=more_some h
     have e:=hg ((b.g,rr),(a.block,a.off)) (List.mem_cons_self ..)
     have hc:=(hm.blk b (List.mem_of_getElem? hb)).at_ hv
     rw[<-addr_is hsp e]at hc
     obtain⟨w',h1,h2⟩:=ih v hs' bk sz w r' hr (fun e he=>hg e (List.mem_cons_of_mem _ he)) hm
     exact⟨w',by simp only[Sem.run,hc]; exact h1,h2⟩
    ·cases h
   ·cases h
  ·cases h
 |store m a v k ih=>
  intro hs bk sz w r h hg hm
  simp only[runS]at h
  split at h
  ·rename_i i rr hs' _ hsp hone
   split at h
   ·rename_i b hb
    split at h
    ·rename_i u hrw hu
     obtain⟨r',hr,rfl⟩:=more_some h
     have e:=hg ((b.g,rr),(a.block,a.off)) (List.mem_cons_self ..)
     have hB:=hm.blk b (List.mem_of_getElem? hb)
     have hc:=hB.at_ hu
     have hf:=hB.frozen rr
     have hm':=hm.store (r:=rr) hb hrw v
     rw[<-addr_is hsp e]at hc hf hm'
     obtain⟨w',h1,h2⟩:=ih hs' _ sz _ r' hr (fun e he=>hg e (List.mem_cons_of_mem _ he)) hm'
     refine⟨w',?_,h2⟩
     rw[<-h1]
     cases v<;>first|(simp[oneCell]at hone; done)|(simp only[Sem.run,hc,hf]; rfl)
    ·cases h
   ·cases h
  ·cases h
 |new o k ih=>
  intro hs bk sz w r h hg hm
  cases o with
  |cells c t fz=>
   obtain⟨f1,f2⟩:=fz
   cases f1 with
   |zero=>
    cases f2 with
    |zero=>
     simp only[runS]at h
     obtain⟨w',h1,h2⟩:=ih sz hs _ _ _ r h hg (hm.new c t)
     exact⟨w',by simp only[Sem.run,hm.size]; exact h1,h2⟩
    |succ n=>simp[runS]at h
   |succ n=>simp[runS]at h
  |_=>simp[runS]at h
 |program k ih=>
  intro hs bk sz w r h hg hm
  simp only[runS]at h
  exact ih P hs bk sz w r h hg hm
 |mark m k ih=>
  intro hs bk sz w r h hg hm
  simp only[runS]at h
  exact ih hs bk sz w r h hg hm
 |_=>intros; simp[runS]at *
end
def runP{α:Type}(P:Program):Sem α->Option α
 |.pure a=>some a
 |.program k=>runP P (k P)
 |.mark _ k=>runP P k
 |_=>none
theorem runP_sound{α:Type}(P:Program)(x:Sem α):∀(v:α),runP P x=some v->∀w,x.run P w=.ok v w:=by
 induction x with
 |pure a=>intro v h w; simp only[runP,Option.some.injEq]at h; subst h; rfl
 |program k ih=>intro v h w; exact ih P v h w
 |mark m k ih=>intro v h w; exact ih v h w
 |_=>intros; simp[runP]at *
def runR{α:Type}(P:Program)(wn:List Wn)(bk:List Bk):Sem α->List MH->Option (RO α)
 |.pure a,_=>some ⟨a,[],0,[]⟩
 |.load _ a k,hs=>
  match nextH hs,a.spot with
  |some (true,i,r,hs'),none=>
   match wn[i]? with
   |some x=>match x.cs[r]? with
    |some v=>RO.more (runR P wn bk (k v) hs') (x.g,x.o+r) (a.block,a.off)
    |none=>none
   |none=>none
  |some (false,i,r,hs'),none=>
   match bk[i]? with
   |some b=>match b.cs[r]? with
    |some v=>RO.more (runR P wn bk (k v) hs') (b.g,r) (a.block,a.off)
    |none=>none
   |none=>none
  |_,_=>none
 |.program k,hs=>runR P wn bk (k P) hs
 |.mark _ k,hs=>runR P wn bk k hs
 |_,_=>none
theorem runR_sound{w0:World}{S:Nat->Prop}{bk:List Bk}{wn:List Wn}{α:Type}(P:Program)(x:Sem α):∀(hs:List MH)(r:RO α),runR P wn bk x hs=some r->Good r.eqs->∀sz w,MemOk w0 S bk wn sz w ->
  x.run P w=.ok r.v w:=by
 induction x with
 |pure a=>
  intro hs r h _ sz w hm
  simp only[runR,Option.some.injEq]at h
  subst h
  rfl
 |load m a k ih=>
  intro hs r h hg sz w hm
  simp only[runR]at h
  split at h
  ·rename_i i rr hs' _ hsp
   split at h
   ·rename_i x hx
    split at h
    ·rename_i v hv
     obtain⟨r',hr,rfl⟩:=more_some h
     have e:=hg ((x.g,x.o+rr),(a.block,a.off)) (List.mem_cons_self ..)
     have hc:=hm.winCell (List.mem_of_getElem? hx) hv
     rw[<-addr_is hsp e]at hc
     have h1:=ih v hs' r' hr (fun e he=>hg e (List.mem_cons_of_mem _ he)) sz w hm
     simp only[Sem.run,hc]
     exact h1
    ·cases h
   ·cases h
  ·rename_i i rr hs' _ hsp
   split at h
   ·rename_i b hb
    split at h
    ·rename_i v hv
     obtain⟨r',hr,rfl⟩:=more_some h
     have e:=hg ((b.g,rr),(a.block,a.off)) (List.mem_cons_self ..)
     have hc:=(hm.blk b (List.mem_of_getElem? hb)).at_ hv
     rw[<-addr_is hsp e]at hc
     have h1:=ih v hs' r' hr (fun e he=>hg e (List.mem_cons_of_mem _ he)) sz w hm
     simp only[Sem.run,hc]
     exact h1
    ·cases h
   ·cases h
  ·cases h
 |program k ih=>
  intro hs r h hg sz w hm
  simp only[runR]at h
  exact ih P hs r h hg sz w hm
 |mark m k ih=>
  intro hs r h hg sz w hm
  simp only[runR]at h
  exact ih hs r h hg sz w hm
 |_=>intros; simp[runR]at *
end Go.Proofs.YtcmpkkapkdlfhaaGreat
