import Derived.WalkKit
import Derived.Deep.Draws
import Derived.ProofKit
import Derived.Deep.Slices
import Derived.Orders
import Derived.Laws.StructEq
import Derived.Test.YtcmpkkapkdlfhaaGreatProg
import Derived.WalkSpells
import Derived.Laws.Strings2
import Derived.Laws.Strings3
import Derived.Laws.Small
import Derived.Laws.Slices
import Derived.Deep.LoopGhost
import Derived.KernelRfl
import Derived.StillTail
import Derived.Deep.Quiet
namespace Go
abbrev World.z(w:World):Nat:=w.heap.size
end Go
namespace Go.Proofs.YtcmpkkapkdlfhaaGreat
open Go.RowKit
theorem ap:type_of% @Option.some.inj:=@Option.some.inj
theorem aB:type_of% @Option.some.injEq:=@Option.some.injEq
theorem aG:type_of% @List.mem_singleton:=@List.mem_singleton
theorem az:type_of% @Nat.le_trans:=@Nat.le_trans
theorem aS:type_of% @List.mem_of_getElem?:=@List.mem_of_getElem?
theorem bH:type_of% @Nat.eq_of_beq_eq_true:=@Nat.eq_of_beq_eq_true
theorem cx:type_of% @List.getElem?_eq_getElem:=@List.getElem?_eq_getElem
theorem cF:type_of% @List.getElem?_eq_some_iff:=@List.getElem?_eq_some_iff
theorem dp:type_of% @Array.getElem?_eq_some_iff:=@Array.getElem?_eq_some_iff
theorem bE:type_of% @List.all_eq_true:=@List.all_eq_true
theorem aT:type_of% @List.mem_map:=@List.mem_map
theorem bM:type_of% @List.length_append:=@List.length_append
theorem cV:type_of% @Option.isSome_iff_exists:=@Option.isSome_iff_exists
theorem bn:type_of% @List.mem_range:=@List.mem_range
theorem A4:type_of% @List.mem_cons_self:=@List.mem_cons_self
theorem bj:type_of% @List.mem_cons:=@List.mem_cons
theorem cz:type_of% @List.mem_cons_of_mem:=@List.mem_cons_of_mem
theorem cE:type_of% @List.mem_append_left:=@List.mem_append_left
theorem bw:type_of% @Prod.mk.injEq:=@Prod.mk.injEq
theorem cD:type_of% @Nat.lt_of_lt_of_le:=@Nat.lt_of_lt_of_le
theorem ch:type_of% @Bool.and_eq_true:=@Bool.and_eq_true
theorem cJ:type_of% @Int.toNat_natCast:=@Int.toNat_natCast
theorem bC:type_of% @Nat.le_of_eq:=@Nat.le_of_eq
theorem cv:type_of% @List.not_mem_nil:=@List.not_mem_nil
theorem bG:type_of% @Nat.zero_add:=@Nat.zero_add
theorem dJ:type_of% @List.forall_mem_cons:=@List.forall_mem_cons
theorem d5:type_of% @List.mem_append_right:=@List.mem_append_right
theorem bT:type_of% @Nat.le_refl:=@Nat.le_refl
theorem fi:type_of% @Array.getElem?_eq_getElem:=@Array.getElem?_eq_getElem
theorem eX:type_of% @List.take_of_length_le:=@List.take_of_length_le
theorem ek:type_of% @List.getElem?_range:=@List.getElem?_range
theorem dG:type_of% @List.mem_append:=@List.mem_append
theorem dD:type_of% @List.append_nil:=@List.append_nil
theorem dN:type_of% @List.any_eq_true:=@List.any_eq_true
theorem dS:type_of% @Result.andThen_ok:=@Result.andThen_ok
theorem gX:type_of% @Array.getElem?_setIfInBounds_ne:=@Array.getElem?_setIfInBounds_ne
theorem cS:type_of% @Int.le_refl:=@Int.le_refl
theorem dZ:type_of% @List.length_take:=@List.length_take
theorem fZ:type_of% @Bool.eq_false_or_eq_true:=@Bool.eq_false_or_eq_true
theorem dR:type_of% @List.mem_filter:=@List.mem_filter
theorem ew:type_of% @List.getElem?_map:=@List.getElem?_map
theorem eA:type_of% @List.append_assoc:=@List.append_assoc
theorem ej:type_of% @Bool.or_eq_true:=@Bool.or_eq_true
theorem ft:type_of% @List.map_congr_left:=@List.map_congr_left
theorem ey:type_of% @List.length_map:=@List.length_map
theorem gv:type_of% @Option.map_eq_some_iff:=@Option.map_eq_some_iff
theorem ip:type_of% @List.getElem?_append_left:=@List.getElem?_append_left
theorem eY:type_of% @Int.emod_nonneg:=@Int.emod_nonneg
theorem dc:type_of% @decide_eq_true:=@decide_eq_true
theorem bZ:type_of% @decide_eq_false:=@decide_eq_false
theorem dC:type_of% @beq_iff_eq:=@beq_iff_eq
theorem cw:type_of% @beq_eq_false_iff_ne:=@beq_eq_false_iff_ne
theorem gV:type_of% @of_decide_eq_true:=@of_decide_eq_true
theorem ay:type_of% @if_neg:=@if_neg
theorem aA:type_of% @if_pos:=@if_pos
theorem iS:type_of% @beq_self_eq_true:=@beq_self_eq_true
theorem gy:type_of% @Int.emod_lt_of_pos:=@Int.emod_lt_of_pos
theorem c8:type_of% @bne_eq_false_iff_eq:=@bne_eq_false_iff_eq
theorem nD:type_of% @List.length_replicate:=@List.length_replicate
theorem jY:type_of% @List.getElem?_append_right:=@List.getElem?_append_right
def A2(w:World)(g:Nat)(t:TypeId)(cs:List Value):Prop:=w.heap[g]?=some (.cells cs.toArray t (0,0))
theorem WV {d:Type} {b:Array d} {a:Nat} {e:d} (c:b[a]?=some e):a<b.size:=by
 rcases Nat.lt_or_ge a b.size with g|f
 ·exact g
 ·rw[Array.getElem?_eq_none f]at c; cases c
section
variable {w a:World}{g:Nat}{t:TypeId}{cs:List Value}
theorem A2.lt(h:A2 w g t cs):g<w.z:=WV h
theorem A2.cell(h:A2 w g t cs)(i:Nat):w.cell? ⟨g,i,none⟩=cs[i]?:=by
 unfold A2 at h; simp[World.cell?,h]
theorem A2.at_(h:A2 w g t cs){i:Nat}{v:Value}(a:cs[i]?=some v):w.cell? ⟨g,i,none⟩=some v:=(h.cell i).trans a
theorem A2.frozen(h:A2 w g t cs)(i:Nat):w.frozen? ⟨g,i,none⟩=false:=by
 unfold A2 at h; simp[World.frozen?,h]
theorem A2.new(w:World)(t:TypeId)(cs:List Value):A2 (w.alloc (.cells cs.toArray t)) w.z t cs:=
 heap_alloc_new w _
theorem A2.alloc(h:A2 w g t cs)(o:Obj):A2 (w.alloc o) g t cs:=(Below.heap_alloc w o g h.lt).trans h
theorem A2.put(h:A2 w g t cs)(i:Nat)(u:Value):A2 (w.setCell ⟨g,i,none⟩ u) g t (cs.set i u):=by
 unfold A2 at h ⊢;simp[World.setCell,Array.getElem?_modify,h]
theorem A2.far(h:A2 w g t cs){p:Addr}(a:p.block≠g)(u:Value):A2 (w.setCell p u) g t cs:=(Below.heap_setCell w p u g (Ne.symm a)).trans h
theorem A2.inj{b:TypeId}{cs':List Value}(h:A2 w g t cs)(a:A2 w g b cs'):t=b∧cs=cs':=by
 unfold A2 at h a;rw[h]at a;injection a with a;injection a with c d;exact⟨d,by simpa using c⟩
end
structure au(S:Nat->Prop)(w w':World):Prop where
 os:w'.os=w.os
 tape:w'.tape=w.tape
 output:w'.output=w.output
 size:w.z<=w'.z
 block:∀k,k<w.z->¬S k->w'.heap[k]?=w.heap[k]?
section
variable {S S':Nat->Prop}{a b c w d:World}
theorem au.refl(S:Nat->Prop)(w:World):au S w w:=⟨rfl,rfl,rfl,bT _,λ_ _ _=>rfl⟩
theorem au.trans(h:au S a b)(e:au S' b c)(hs:∀d,d<a.z->S' d->S d):au S a c:=
 ⟨e.os.trans h.os,e.tape.trans h.tape,e.output.trans h.output,az h.size e.size,λd f g=>
  (e.block d (cD f h.size) (λi=>g (hs d f i))).trans (h.block d f g)⟩
theorem au.mono(h:au S' a b)(hs:∀c,c<a.z->S' c->S c):au S a b:=⟨h.os,h.tape,h.output,h.size,λc d f=>h.block c d (λe=>f (hs c d e))⟩
theorem au.drew(h:au S a b):au S a b.drew:=⟨h.os,h.tape,h.output,h.size,h.block⟩
theorem au.alloc(h:au S a b)(o:Obj):au S a (b.alloc o):=
 ⟨h.os,h.tape,h.output,az h.size (by simp),λc d e=>(Below.heap_alloc b o c (cD d h.size)).trans (h.block c d e)⟩
theorem au.setCell(h:au S a b){p:Addr}(f:p.block<a.z->S p.block)(u:Value):au S a (b.setCell p u):=
 ⟨h.os,h.tape,h.output,by simpa using h.size,λc d e=>(Below.heap_setCell b p u c (by rintro rfl; exact e (f d))).trans (h.block c d e)⟩
theorem au.below(h:au (λ_=>False) a b):Below a.z a b:=⟨h.os,h.tape,h.output,h.size,λc d=>h.block c d id⟩
theorem au.Xr{e:Option Nat}(h:a.grownBy b e)(hs:∀c,c<a.z->e=some c->S c):au S a b:=
 ⟨h.os,h.tape,h.output,h.size,λc d g=>h.block c d (λf=>g (hs c d f.symm))⟩
theorem A2.x2{g:Nat}{t:TypeId}{cs:List Value}(h:A2 w g t cs)(a:au S w d)(b:¬S g):A2 d g t cs:=(a.block g h.lt b).trans h
theorem au.cell(a:au S w d){p:Addr}(c:p.block<w.z)(b:¬S p.block):d.cell? p=w.cell? p:=World.cell?_of_block (a.block _ c b)
end
theorem dk{a b:Bool}(h:a=b):Ending.returned (.bool a)=.returned (.bool b):=by rw[h]
end Go.Proofs.YtcmpkkapkdlfhaaGreat
namespace Go.Proofs.YtcmpkkapkdlfhaaGreat
open Go.RowKit Go.WideShapes Go.ChangeShapes
section
variable {a:Type}{enc:TypeId×Value->a}{P:Program}
theorem BD{f:Func}{s:ChangeSpec}{x H I G:Bool}{W h:World}{args:Array Value}{v:Value}{i j:List (DataW a)}{d pa pv:List MemPlace}
  (l:DataW.Whole enc P f.params.toList s.vars x W args.toList i j d)
  (w:∀(g:Nat)(e:Nat->Bool)(B:Bool),DataW.TrodAll enc P h g e B f.resultTypes.toList (v.resultList f.resultTypes.size) (s.fn a (i++j)).results [])
  (y:∀e:Nat->Bool,(∀b∈d,e b.block=true)->DataW.TrodAll enc P h 0 e true f.params.toList args.toList (s.fn a (i++j)).args pa)
  (z:∀e:Nat->Bool,(∀b∈d,e b.block=true)->DataW.TrodVars enc P h e s.vars (s.fn a (i++j)).vars pv)
  (k:d=pa++pv) (C:au (λ_=>False) W h)
  (F:∀(m:Nat)(t:TypeId)(r:Value),f.resultTypes[m]?=some t->(v.resultList f.resultTypes.size)[m]?=some r->Value.okWide P h .any 0 t r) :
  s.post enc P f x H I G W args v h:=by
 have n:=C.below;have p:∀b∈d,b.block<W.z:=λb c=>l.lt b c;have u:∀b∈d,(λg=>decide (g<W.z)) b.block=true:=λb c=>by simpa using p b c
 refine⟨i,j,d,[],pa,pv,l,w _ _ _,y _ u,z _ u,World.keptBut_mono (λb c=>⟨c,?_⟩) (n.frame (·∈d)),λ_=>?_⟩
 ·rw[k,dG]at c;exact Or.inr c
 ·obtain⟨_,_,_,_,_,E,D⟩:=l;refine⟨F,_,_,([]++pa)++pv,⟨[]++pa,pv,trodAll_append (y _ (λ_ _=>rfl)) (w _ _ _),z _ (λ_ _=>rfl),rfl,?_,?_⟩,?_⟩
  ·intro g q c;have o:MemPlace.cell g q∈d:=by rw[k]; simpa using c
   rw[n.frozen (p _ o)];exact E g q o
  ·intro A;have:=D A;rw[k]at this;simpa using this
  ·intro b c _;rw[k];simpa using c
theorem yd{W m:World}(o:laidOutB P=true)(n:au (λ_=>False) W m):∀(g:List TypeId)(k:List Value)(i:List (DataW a))(f:List MemPlace)(j:Nat->Bool),
  (∀h∈g,P.readableRec h=true∧h<P.types.size)->DataW.TrodAll enc P W 0 (λ_=>true) true g k i f->(∀e∈f,e.block<W.z)->(∀e∈f,j e.block=true)->DataW.TrodAll enc P m 0 j true g k i f
 |[],[],[],_,_,_,b,_,_=>b
 |[],_::_,_,_,_,_,b,_,_=>(b:False).elim
 |[],[],_::_,_,_,_,b,_,_=>(b:False).elim
 |_::_,[],_,_,_,_,b,_,_=>(b:False).elim
 |_::_,_::_,[],_,_,_,b,_,_=>(b:False).elim
 |h::g,x::k,w::i,f,j,q,b,r,p=>by
  obtain⟨e,l,t,u,rfl⟩:=b
  refine⟨e,l,?_,yd o n g k i l j (λs v=>q s (cz _ v)) u (λc d=>r c (d5 _ d)) (λc d=>p c (d5 _ d)),rfl⟩
  have:=q h (A4 ..)
  exact WideElems.Trod_stays o this.1 this.2 t (λc d=>n.below.same (r c (cE _ d))) (λc d=>p c (cE _ d))
theorem Nd{f:Func}{s:ChangeSpec}{p:Bool}{W l:World}{args:Array Value}{b d:List (DataW a)}{C:List MemPlace}{tb:TypeId}
  (v:laidOutB P=true) (w:∀k∈f.params.toList,P.readableRec k=true∧k<P.types.size) (n:f.resultTypes=#[tb]) (hu:P.underlying tb=some .bool)
  (o:s.vars=[]) (t:s.fn a b={ results:=[.lit (.bool true)],args:=b })
  (g:DataW.Whole enc P f.params.toList s.vars p W args.toList b d C) (m:au (λ_=>False) W l) :
  s.post enc P f p true false false W args (.bool true) l:=by
 have y:=g;obtain⟨j,q,r,e,rfl,_,_⟩:=y;rw[o]at e;have u:d=[]∧q=[]:=by
  cases d with
  |nil=>exact⟨rfl,e⟩
  |cons E D=>exact(e:False).elim
 obtain⟨rfl,rfl⟩:=u;have i:s.fn a (b++[])={ results:=[.lit (.bool true)],args:=b }:=by rw[dD]; exact t
 have z:∀c∈j,c.block<W.z:=λc h=>g.lt c (cE _ h);have B:(s.fn a (b++[])).vars=[]:=by rw[i]
 refine BD (pa:=j) (pv:=[]) g (λ_ _ _=>?_) (λx A=>?_) (λ_ _=>?_) rfl m ?_
 ·rw[i,n];exact trodAll_mk1 (shut_bool hu true)
 ·rw[i];exact yd v m _ _ _ _ x w r z (λc h=>A c (cE _ h))
 ·rw[B,o];rfl
 ·exact ok_one n rfl (okWide_bool_mk hu true)
end
end Go.Proofs.YtcmpkkapkdlfhaaGreat
namespace Go.Proofs.YtcmpkkapkdlfhaaGreat
open Go.RowKit Go.WideShapes Go.ChangeShapes Go.Deep
def qZ(w:World):Nat->Value->Prop
 |0,a=>∃b,a=.int .i64 b∧(Lit.int .i64 b).wf=true
 |1,a=>∃c,a=.bool c
 |2,a=>∃i:ByteArray,a=.string i∧i.size<=maxLen
 |4,a=>∃d e f,a=.slice d e f∧∀g,g<e->∃c h b,d=some ⟨c,h,none⟩∧c<w.z∧w.cell? ⟨c,h+g,none⟩=some (.int .i64 b)∧(Lit.int .i64 b).wf=true
 |_,a=>∃d e f,a=.slice d e f
def jH(P:Program)(g:TypeId->Option (List Nat)):List Field->Nat->Option (List Nat)
 |[],_=>some []
 |a::e,c=>
  match g a.type,jH P g e (c+P.cellsOf a.type)with
  |some b,some d=>if a.offset=c∧P.cellsOf a.type=b.length then some (b++d)else none
  |_,_=>none
def yR(P:Program):Nat->TypeId->Option (List Nat)
 |0,_=>none
 |b+1,c=>
  match P.underlying c with
  |some (.int .i64)=>some [0]
  |some .bool=>some [1]
  |some .string=>some [2]
  |some (.slice a)=>match P.underlying a with
   |some (.int .i64)=>some [4]
   |_=>some [3]
  |some (.struct d)=>jH P (yR P b) d.toList 0
  |_=>none
section
variable {a:Type}{enc:TypeId×Value->a}{P:Program}{w:World}{v8:Nat}{f:Nat->Bool}{c:Bool}
theorem kN(b o i:Nat):(⟨b,o,none⟩:Addr).add i=⟨b,o+i,none⟩:=by
 unfold Addr.add;split
 ·rename_i a; subst a; rfl
 ·rfl
theorem Lk{t e:TypeId}{cs:List Value}{m:Nat}{x:DataW a×List MemPlace}(z:P.underlying t=some (.slice e))(he:P.underlying e=some (.int .i64))(A:DataW.trod enc P w v8 f c m t cs=some x):∃l,cs=[l]∧qZ w 4 l:=by
 rcases open_slice z A with⟨j,_⟩|⟨p,J,S,C,Q,K,M,j,_,N,O,E,_,y⟩
 ·exact⟨_,j,none,0,0,rfl,λb h=>absurd h (by omega)⟩
 ·refine⟨_,j,_,_,_,rfl,λb h=>?_⟩;have r:∀b,b<J->∃d,P.cellsOf e=1∧w.cell? ((p.add (b*1)).add 0)=some (.int .i64 d)∧(Lit.int .i64 d).wf=true:=λb h=>by
   have D:b<C:=by rw[E]; split<;>omega
   obtain⟨R,v,B⟩:=y b D;obtain⟨d,H,_,i⟩:=DataW.trod_int he B;subst H;obtain⟨_,I,q⟩:=World.cells?_some v;have n:P.cellsOf e=1:=I.symm;rw[n]at q;exact⟨d,n,q 0 (by omega),i⟩
  obtain⟨d,_,k,i⟩:=r b h;have G:=World.block_lt_of_cell? _ _ k;obtain⟨s,u,o⟩:=p;have F:o=none:=by
   cases o with
   |none=>rfl
   |some L=>
    exfalso;obtain⟨_,_,g,_⟩:=r 0 (by omega);simp only[Nat.zero_mul,Addr.add,if_true]at g;unfold World.cell? at g;split at g
    ·simp at g
    ·cases g
  subst F;rw[kN,kN]at k;refine⟨s,u,d,rfl,by simpa[kN]using G,by simpa using k,i⟩
theorem mc(g:TypeId->Option (List Nat))(cs:List Value)
  (u:∀(t:TypeId)(i:List Nat)(cs:List Value)(l:Nat)(n:DataW a×List MemPlace),g t=some i->DataW.trod enc P w v8 f c l t cs=some n->∀(d e:Nat),i[d]?=some e->∃h,cs[d]?=some h∧qZ w e h) :
  ∀(s:List Field)(m:Nat)(i:List Nat),jH P g s m=some i ->
   (∀(p:Nat)(k:Field),s[p]?=some k->∃l n,DataW.trod enc P w v8 f c l k.type ((cs.drop k.offset).take (P.cellsOf k.type))=some n) ->
   ∀(d e:Nat),i[d]?=some e->∃h,cs[m+d]?=some h∧qZ w e h
 |[],m,i,b,_,d,e,j=>by
  simp only[jH,aB]at b
  subst b
  simp at j
 |k::x,m,i,b,v,d,e,j=>by
  simp only[jH]at b
  split at b
  ·rename_i r l A B
   split at b
   ·rename_i z
    obtain⟨D,H⟩:=z
    simp only[aB]at b
    subst b
    by_cases F:d<r.length
    ·obtain⟨G,n,C⟩:=v 0 k rfl
     rw[ip F]at j
     obtain⟨h,o,q⟩:=u _ _ _ _ _ A C d e j
     refine⟨h,?_,q⟩
     rw[List.getElem?_take,aA (by omega),List.getElem?_drop,D]at o
     exact o
    ·rw[jY (by omega)]at j
     obtain⟨h,o,q⟩:=mc g cs u x _ _ B (λp y E=>v (p+1) y E) (d-r.length) e j
     exact⟨h,by rw[<-o]; congr 1; omega,q⟩
   ·cases b
  ·cases b
theorem nM:∀(p:Nat)(l:TypeId)(h:List Nat)(j:List Value)(o:Nat)(q:DataW a×List MemPlace),yR P p l=some h->DataW.trod enc P w v8 f c o l j=some q ->
  ∀(e n:Nat),h[e]?=some n->∃i,j[e]?=some i∧qZ w n i
 |0,_,_,_,_,_,d,_,_,_,_=>by cases d
 |p+1,l,h,j,o,q,d,k,e,n,b=>by
  simp only[yR]at d
  split at d
  ·rename_i g
   simp only[aB]at d
   subst d
   obtain⟨y,rfl,_,H⟩:=DataW.trod_int g k
   match e,b with
   |0,b=>simp at b; subst b; exact⟨_,rfl,y,rfl,H⟩
   |e+1,b=>simp at b
  ·rename_i g
   simp only[aB]at d
   subst d
   obtain⟨B,rfl,_⟩:=DataW.trod_bool g k
   match e,b with
   |0,b=>simp at b; subst b; exact⟨_,rfl,B,rfl⟩
   |e+1,b=>simp at b
  ·rename_i g
   simp only[aB]at d
   subst d
   obtain⟨C,rfl,_,G⟩:=DataW.trod_string g k
   match e,b with
   |0,b=>simp at b; subst b; exact⟨_,rfl,C,rfl,G⟩
   |e+1,b=>simp at b
  ·rename_i L g
   split at d
   ·rename_i D
    simp only[aB]at d
    subst d
    obtain⟨i,s,r⟩:=Lk (w:=w) g D k
    match e,b with
    |0,b=>simp at b; subst b; exact⟨i,by rw[s]; rfl,r⟩
    |e+1,b=>simp at b
   simp only[aB]at d
   subst d
   rcases open_slice g k with⟨t,_⟩|⟨y,Q,O,v,N,K,M,t,_⟩
   ·match e,b with
    |0,b=>simp at b; subst b; exact⟨_,by rw[t]; rfl,none,0,0,rfl⟩
    |e+1,b=>simp at b
   ·match e,b with
    |0,b=>simp at b; subst b; exact⟨_,by rw[t]; rfl,_,_,_,rfl⟩
    |e+1,b=>simp at b
  ·rename_i u g
   obtain⟨x,v,_,_,_,J,E⟩:=DataW.trod_struct g k
   obtain⟨i,s,r⟩:=mc (yR P p) j (λl h j o q=>nM p l h j o q) u.toList 0 h d (λm z F=>by
    have A:u[m]?=some z:=by simpa using F
    have I:m<x.length:=by rw[J]; exact(dp.1 A).1
    exact⟨v,x[m],(E m z A).trans (cx I)⟩) e n b
   exact⟨i,by simpa using s,r⟩
  ·cases d
def Fb(w:World)(A:Option Addr)(n:Nat)(L:List Nat):Prop:=
 ∀c,c<n->∃a d,A=some ⟨a,d,none⟩∧a<w.z∧∀b f,L[b]?=some f->∃e,w.cell? ⟨a,d+c*L.length+b,none⟩=some e∧qZ w f e
theorem xE{r:Reach}{N:Nat}{t e:TypeId}{v:Value}{d:DataW a}{p:List MemPlace}{n:Nat}{L:List Nat}(A:P.underlying t=some (.slice e))(u:yR P n e=some L)(s:P.cellsOf e=L.length)(h0:0<L.length)
  (m:Value.okWide P w r N t v) (h:DataW.Trod enc P w v8 f c t v d p) :
  ∃l k j,v=.slice l k j∧k<=j∧j<=maxLen∧Fb w l k L:=by
 obtain⟨l,k,j,rfl⟩:=okWide_slice A m;obtain⟨a4,O⟩:=h;rcases open_slice A O with⟨b,_⟩|⟨D,a6,a3,K,B,aV,a1,b,_,Q,R,Y,_,y⟩
 ·simp[Value.cells]at b;obtain⟨rfl,rfl,rfl⟩:=b;exact⟨_,_,_,rfl,bT _,Nat.zero_le _,λg i=>absurd i (by omega)⟩
 ·simp[Value.cells]at b;obtain⟨rfl,rfl,rfl⟩:=b;refine⟨_,_,_,rfl,Q,R,λg i=>?_⟩;have X:g<K:=by rw[Y]; split<;>omega
  obtain⟨U,x,S⟩:=y g X;rw[s]at x;obtain⟨_,a5,E⟩:=World.cells?_some x;have I:=nM n e L U B _ u S;obtain⟨H,G⟩:∃o,L[0]?=some o:=⟨_,cx h0⟩;obtain⟨T,ac,_⟩:=I 0 H G;have aR:w.cell? ((D.add (g*L.length)).add 0)=some T:=(E 0 h0).trans ac;have aq:=World.block_lt_of_cell? _ _ aR;obtain⟨J,M,C⟩:=D;have Z:C=none:=by
   cases C with
   |none=>rfl
   |some a0=>
    exfalso;obtain⟨V,F,ak⟩:=y 0 (by omega);rw[s]at F;obtain⟨_,_,an⟩:=World.cells?_some F;obtain⟨a2,ad,_⟩:=nM n e L V B _ u ak 0 H G;have:=(an 0 h0).trans ad;simp only[Nat.zero_mul,Addr.add,if_true]at this;unfold World.cell? at this;split at this
    ·simp at this
    ·cases this
  subst Z;refine⟨J,M,rfl,by simpa[kN]using aq,λq o z=>?_⟩;obtain⟨v,m,i⟩:=I q o z;have W:=(cF.1 z).1;refine⟨v,?_,i⟩;have:=(E q W).trans m;rwa [kN,kN]at this
theorem Nc{r:Reach}{k:Nat}{t:TypeId}{v:Value}{d:DataW a}{p:List MemPlace}{n:Nat}{L:List Nat}{l:Array Field}(z:P.underlying t=some (.struct l))(o:yR P n t=some L)(m:P.cellsOf t=L.length)
  (j:Value.okWide P w r k t v) (h:DataW.Trod enc P w v8 f c t v d p) :
  ∃b:Array Value,v=.agg b∧b.size=L.length∧∀(e g:Nat),L[e]?=some g->∃i,b[e]?=some i∧qZ w g i:=by
 unfold Value.okWide at j;simp only[z]at j;obtain⟨b,rfl,y,_⟩:=j;obtain⟨A,s⟩:=h;refine⟨b,rfl,y.trans m,λe g u=>?_⟩;obtain⟨i,q,x⟩:=nM n t L _ A _ o s e g u;exact⟨i,by simpa[Value.cells]using q,x⟩
theorem TN{cs:Array Value}{l:List Value}(hs:cs.size=l.length)(h:∀(a:Nat),a<l.length->cs[a]?=l[a]?):cs=l.toArray:=by
 apply Array.ext_getElem?;intro b;by_cases c:b<l.length
 ·rw[h b c];simp
 ·rw[Array.getElem?_eq_none (by omega)];simp;omega
end
end Go.Proofs.YtcmpkkapkdlfhaaGreat
namespace Go.Proofs.YtcmpkkapkdlfhaaGreat
open Go.RowKit Tryz
set_option maxHeartbeats 4000000
set_option maxRecDepth 100000
abbrev aC(f:FuncId)(a:Array Value)(w:World)(R:Ending->World->Prop):Prop:=Calls Tryz.prog f a w R
abbrev aE(l:List Value):Value:=.agg l.toArray
abbrev av:=List Value
abbrev aY:=Option Addr
abbrev aH:=List Nat
abbrev bi:=Option Nat
abbrev bB:=List Int
abbrev cj:=Array Bool
abbrev ct:=List ByteArray
abbrev aI:=World->Prop
abbrev br:=Nat->Prop
abbrev bu:=List (Nat×Value)
abbrev aO:=Option Addr×Nat
@[simp] abbrev pt(g o:Nat):Value:=.pointer (some ⟨g,o,none⟩)
theorem v7.{u}{α:Sort u}{a b:α}(h:a=b:=by kernel_rfl):a=b:=h
abbrev ae(g:Nat):aY:=some ⟨g,0,none⟩
theorem yq{p:Prop}(h:p:=by first|omega|(dsimp only[Go.World.z]at*;omega)):p:=h
theorem z1{p:Prop}(h:p:=by simp):p:=h
abbrev z8.{u}{α:Sort u}(_:α):Prop:=False
abbrev z7:Value:=.slice none 0 0
abbrev yt(a:Option Addr)(n c:Nat):Value:=.slice a n c
abbrev bO_(b:Bool):Value:=.bool b
def ka:List Value:=[.bool false,.int .i64 0,.int .i64 0,.int .i64 0,.string ⟨#[]⟩,.bool false,.int .i64 0,.int .i64 0,.int .i64 0,.string ⟨#[]⟩]
abbrev Jx:Ending:=.returned (.tuple #[])
abbrev MA(n:Nat):List Prop:=List.replicate n (false=false)
structure Bk where
 g:Nat
 t:TypeId
 rw:Bool
 cs:av
abbrev ax:=List Bk
structure Wn where
 g:Nat
 o:Nat
 cs:av
structure St where
 sl:bu
 bk:ax
 wn:List Wn
 sz:Nat
structure MH where
 Ww:Bool
 i:Nat
 r:Nat
 n:Nat
def Nf:List MH->Option (Bool×Nat×Nat×List MH)
 |[]=>none
 |⟨_,_,_,0⟩::_=>none
 |⟨c,a,b,1⟩::d=>some (c,a,b,d)
 |⟨c,a,b,e+2⟩::d=>some (c,a,b,⟨c,a,b+1,e+1⟩::d)
structure ab(w0:World)(S:br)(bk:ax)(wn:List Wn)(sz:Nat)(w:World):Prop where
 size:w.z=sz
 zq:∀b∈bk,A2 w b.g b.t b.cs
 own:∀b∈bk,b.rw=true->S b.g∨w0.z<=b.g
 nd:(bk.map (·.g)).Nodup
 x2:au S w0 w
 Ww:∀x∈wn,¬S x.g∧x.g<w0.z∧∀j v,x.cs[j]?=some v->w0.cell? ⟨x.g,x.o+j,none⟩=some v
structure RO(α:Type)where
 v:α
 bk:ax
 sz:Nat
 eqs:List ((Nat×Nat)×(Nat×Nat))
def RO.more{α:Type}(r:Option (RO α))(p q:Nat×Nat):Option (RO α):=match r with|none=>none|some r=>some { r with eqs:=(p,q)::r.eqs }
def Ik:Value->Bool
 |.agg _=>false
 |.tuple _=>false
 |_=>true
def lr{α:Type}(P:Program)(wn:List Wn):Sem α->List MH->ax->Nat->Option (RO α)
 |.pure c,_,a,b=>some ⟨c,a,b,[]⟩
 |.load _ c d,f,a,b=>
  match Nf f,c.spot with
  |some (true,h,e,j),none=>
   match wn[h]? with
   |some k=>match k.cs[e]? with
    |some i=>RO.more (lr P wn (d i) j a b) (k.g,k.o+e) (c.block,c.off)
    |none=>none
   |none=>none
  |some (false,h,e,j),none=>
   match a[h]? with
   |some g=>match g.cs[e]? with
    |some i=>RO.more (lr P wn (d i) j a b) (g.g,e) (c.block,c.off)
    |none=>none
   |none=>none
  |_,_=>none
 |.store _ c i d,f,a,b=>
  match Nf f,c.spot,Ik i with
  |some (false,h,e,j),none,true=>
   match a[h]? with
   |some g=>match g.rw,g.cs[e]? with
    |true,some _=>RO.more (lr P wn d j (a.set h { g with cs:=g.cs.set e i }) b) (g.g,e) (c.block,c.off)
    |_,_=>none
   |none=>none
  |_,_,_=>none
 |.new (.cells l m (0,0)) d,f,a,b=>lr P wn (d b) f (a++[⟨b,m,true,l.toList⟩]) (b+1)
 |.program d,f,a,b=>lr P wn (d P) f a b
 |.mark _ d,f,a,b=>lr P wn d f a b
 |_,_,_,_=>none
def kF(es:List ((Nat×Nat)×(Nat×Nat))):Prop:=∀a∈es,a.1=a.2
section
variable {w0:World}{S:br}{bk:ax}{wn:List Wn}{d:Nat}{w:World}
theorem ab.lt(h:ab w0 S bk wn d w){b:Bk}(a:b∈bk):b.g<d:=h.size▸(h.zq b a).lt
theorem xF{l:ax}(n:(l.map (·.g)).Nodup){i j:Nat}{b c:Bk}(k:l[i]?=some b)(m:l[j]?=some c)(he:b.g=c.g):i=j:=by
 have d:(l.map (·.g))[i]?=some b.g:=by simp[k]
 have e:(l.map (·.g))[j]?=some b.g:=by simp[m,he]
 have f:=(cF.1 d).1;have g:=(cF.1 e).1;have h:=List.pairwise_iff_getElem.1 n;rw[cx f,aB]at d;rw[cx g,aB]at e;rcases Nat.lt_trichotomy i j with a|a|a
 ·exact absurd (d.trans e.symm) (h i j f g a)
 ·exact a
 ·exact absurd (e.trans d.symm) (h j i g f a)
theorem xG{l:ax}{i:Nat}{b:Bk}(a:l[i]?=some b)(cs:av):(l.set i { b with cs:=cs }).map (·.g)=l.map (·.g):=by
 rw[List.map_set];apply List.ext_getElem?;intro e;rw[List.getElem?_set];split
 ·rename_i d;subst d;have c:=(cF.1 a).1;simp[c];rw[cx c]at a;injection a with a;rw[a]
 ·rfl
theorem ab.store(h:ab w0 S bk wn d w){i r:Nat}{b:Bk}(g:bk[i]?=some b)(j:b.rw=true)(v:Value) :
  ab w0 S (bk.set i { b with cs:=b.cs.set r v }) wn d (w.setCell ⟨b.g,r,none⟩ v):=by
 have e:b∈bk:=aS g;refine⟨by simpa using h.size,λc f=>?_,λc f m=>?_,by rw[xG g]; exact h.nd,h.x2.setCell (λn=>(h.own b e j).resolve_right (by simpa using n)) _,h.Ww⟩
 ·obtain⟨k,a⟩:=List.mem_iff_getElem?.1 f;rw[List.getElem?_set]at a;split at a
  ·split at a
   ·simp only[aB]at a;subst a;exact(h.zq b e).put r v
   ·cases a
  ·rename_i o;refine(h.zq c (aS a)).far (p:=⟨b.g,r,none⟩) (λl=>o ?_) v;exact xF h.nd g a l
 ·obtain⟨k,a⟩:=List.mem_iff_getElem?.1 f;rw[List.getElem?_set]at a;split at a
  ·split at a
   ·simp only[aB]at a;subst a;exact h.own b e j
   ·cases a
  ·exact h.own c (aS a) m
theorem ab.new(h:ab w0 S bk wn d w)(c:Array Value)(t:TypeId):ab w0 S (bk++[⟨d,t,true,c.toList⟩]) wn (d+1) { w with heap:=w.heap.push (.cells c t (0,0)) }:=by
 have f:({ w with heap:=w.heap.push (.cells c t (0,0)) }:World)=w.alloc (.cells c t (0,0)):=rfl;rw[f];have e:=h.size;refine⟨by simp[e],λb a=>?_,λb a i=>?_,?_,h.x2.alloc _,h.Ww⟩
 ·rcases dG.1 a with a|a
  ·exact(h.zq b a).alloc _
  ·simp only[aG]at a;subst a;have:=A2.new w t c.toList;simpa[e]using this
 ·rcases dG.1 a with a|a
  ·exact h.own b a i
  ·simp only[aG]at a;subst a;right;rw[<-e];exact h.x2.size
 ·rw[List.map_append,List.nodup_append];refine⟨h.nd,by simp,λk g b a=>?_⟩;simp only[List.map_cons,List.map_nil,aG]at a;subst a;obtain⟨l,j,rfl⟩:=aT.1 g;have:=h.lt j;omega
theorem ab.WK(h:ab w0 S bk wn d w){x:Wn}(f:x∈wn){j:Nat}{v:Value}(e:x.cs[j]?=some v):w.cell? ⟨x.g,x.o+j,none⟩=some v:=by
 obtain⟨a,b,c⟩:=h.Ww x f;rw[h.x2.cell (p:=⟨x.g,x.o+j,none⟩) b a];exact c j v e
theorem pG{a:Addr}(h:a.spot=none){g r:Nat}(e:(g,r)=(a.block,a.off)):a=⟨g,r,none⟩:=by
 cases a
 simp only[bw]at e h;simp[h,e.1,e.2]
theorem kG{α:Type}{r:Option (RO α)}{p q:Nat×Nat}{o:RO α}(h:RO.more r p q=some o):∃a,r=some a∧o={ a with eqs:=(p,q)::a.eqs }:=by
 cases r with
 |none=>cases h
 |some a=>exact⟨a,rfl,by simpa[RO.more]using h.symm⟩
theorem iH{α:Type}(P:Program)(x:Sem α):∀(f:List MH)(bk:ax)(d:Nat)(w:World)(r:RO α),lr P wn x f bk d=some r->kF r.eqs->ab w0 S bk wn d w ->
  ∃h,x.run P w=.ok r.v h∧ab w0 S r.bk wn r.sz h:=by
 induction x with
 |pure i=>
  intro f bk d w r a _ b;simp only[lr,aB]at a;subst a;exact⟨w,rfl,b⟩
 |load B i v g=>
  intro f bk d w r a c b;simp only[lr]at a;split at a
  ·rename_i A m t _ u;split at a
   ·rename_i x N;split at a
    ·rename_i n z;obtain⟨s,q,rfl⟩:=kG a;have e:=c ((x.g,x.o+m),(i.block,i.off)) (A4 ..);have j:=b.WK (aS N) z;rw[<-pG u e]at j;obtain⟨h,k,l⟩:=g n t bk d w s q (λe p=>c e (cz _ p)) b;exact⟨h,by simp only[Sem.run,j]; exact k,l⟩
    ·cases a
   ·cases a
  ·rename_i A m t _ u;split at a
   ·rename_i o y;split at a
    ·rename_i n z;obtain⟨s,q,rfl⟩:=kG a;have e:=c ((o.g,m),(i.block,i.off)) (A4 ..);have j:=(b.zq o (aS y)).at_ z;rw[<-pG u e]at j;obtain⟨h,k,l⟩:=g n t bk d w s q (λe p=>c e (cz _ p)) b;exact⟨h,by simp only[Sem.run,j]; exact k,l⟩
    ·cases a
   ·cases a
  ·cases a
 |store B i n v g=>
  intro f bk d w r a c b;simp only[lr]at a;split at a
  ·rename_i A m t _ u Q;split at a
   ·rename_i o y;split at a
    ·rename_i R O M;obtain⟨s,q,rfl⟩:=kG a;have e:=c ((o.g,m),(i.block,i.off)) (A4 ..);have C:=b.zq o (aS y);have j:=C.at_ M;have D:=C.frozen m;have E:=b.store (r:=m) y O n;rw[<-pG u e]at j D E;obtain⟨h,k,l⟩:=g t _ d _ s q (λe p=>c e (cz _ p)) E;refine⟨h,?_,l⟩;rw[<-k];cases n<;>first|(simp[Ik]at Q; done)|(simp only[Sem.run,j,D]; rfl)
    ·cases a
   ·cases a
  ·cases a
 |new H v g=>
  intro f bk d w r a c b
  cases H with
  |cells F I L=>
   obtain⟨J,K⟩:=L
   cases J with
   |zero=>
    cases K with
    |zero=>
     simp only[lr]at a;obtain⟨h,k,l⟩:=g d f _ _ _ r a c (b.new F I);exact⟨h,by simp only[Sem.run,b.size]; exact k,l⟩
    |succ G=>simp[lr]at a
   |succ G=>simp[lr]at a
  |_=>simp[lr]at a
 |program v g=>
  intro f bk d w r a c b;simp only[lr]at a;exact g P f bk d w r a c b
 |mark B v g=>
  intro f bk d w r a c b;simp only[lr]at a;exact g f bk d w r a c b
 |_=>intros; simp[lr]at *
end
def CX{α:Type}(P:Program):Sem α->Option α
 |.pure b=>some b
 |.program a=>CX P (a P)
 |.mark _ a=>CX P a
 |_=>none
theorem lu{α:Type}(P:Program)(x:Sem α):∀(a:α),CX P x=some a->∀b,x.run P b=.ok a b:=by
 induction x with
 |pure f=>intro a c b; simp only[CX,aB]at c; subst c; rfl
 |program e d=>intro a c b; exact d P a c b
 |mark g e d=>intro a c b; exact d a c b
 |_=>intros; simp[CX]at *
def sB{α:Type}(P:Program)(wn:List Wn)(bk:ax):Sem α->List MH->Option (RO α)
 |.pure a,_=>some ⟨a,[],0,[]⟩
 |.load _ a b,d=>
  match Nf d,a.spot with
  |some (true,e,c,h),none=>
   match wn[e]? with
   |some g=>match g.cs[c]? with
    |some f=>RO.more (sB P wn bk (b f) h) (g.g,g.o+c) (a.block,a.off)
    |none=>none
   |none=>none
  |some (false,e,c,h),none=>
   match bk[e]? with
   |some i=>match i.cs[c]? with
    |some f=>RO.more (sB P wn bk (b f) h) (i.g,c) (a.block,a.off)
    |none=>none
   |none=>none
  |_,_=>none
 |.program b,d=>sB P wn bk (b P) d
 |.mark _ b,d=>sB P wn bk b d
 |_,_=>none
theorem oG{w0:World}{S:br}{bk:ax}{wn:List Wn}{α:Type}(P:Program)(x:Sem α):∀(h:List MH)(c:RO α),sB P wn bk x h=some c->kF c.eqs->∀e b,ab w0 S bk wn e b ->
  x.run P b=.ok c.v b:=by
 induction x with
 |pure j=>
  intro h c a _ e b d;simp only[sB,aB]at a;subst a;rfl
 |load y j v i=>
  intro h c a f e b d;simp only[sB]at a;split at a
  ·rename_i w r s _ t;split at a
   ·rename_i x A;split at a
    ·rename_i l p;obtain⟨q,o,rfl⟩:=kG a;have g:=f ((x.g,x.o+r),(j.block,j.off)) (A4 ..);have k:=d.WK (aS A) p;rw[<-pG t g]at k;have m:=i l s q o (λg n=>f g (cz _ n)) e b d;simp only[Sem.run,k];exact m
    ·cases a
   ·cases a
  ·rename_i w r s _ t;split at a
   ·rename_i u z;split at a
    ·rename_i l p;obtain⟨q,o,rfl⟩:=kG a;have g:=f ((u.g,r),(j.block,j.off)) (A4 ..);have k:=(d.zq u (aS z)).at_ p;rw[<-pG t g]at k;have m:=i l s q o (λg n=>f g (cz _ n)) e b d;simp only[Sem.run,k];exact m
    ·cases a
   ·cases a
  ·cases a
 |program v i=>
  intro h c a f e b d;simp only[sB]at a;exact i P h c a f e b d
 |mark y v i=>
  intro h c a f e b d;simp only[sB]at a;exact i h c a f e b d
 |_=>intros; simp[sB]at *
def gh:bu->Nat->Option Value
 |[],_=>none
 |(b,d)::c,a=>match Nat.beq b a with
  |true=>some d
  |false=>gh c a
structure dy(D:List Deferred)(n:Nat)(sl:bu)(a:Act):Prop where
 size:a.tmps.size=n
 df:a.defers=D
 val:∀i v,gh sl i=some v->a.tmps[i]?=some v
def opd(e:bu):Operand->Option Value
 |.tmp c=>gh e c
 |.const d=>some d
 |.global b=>some (.pointer (some ⟨b,0,none⟩))
 |.func a=>some (.func (.func a) #[] #[])
def RS(a:bu)(x:Operand):Value:=(opd a x).getD undef
def iw(b:bu)(o:Oper):Bool:=
 o.op.operands.toList.all (λa=>(opd b a).isSome)&&match o.op with|.select ..=>false|.defer _=>false|_=>true
section
variable {D:List Deferred}{n:Nat}{b:bu}{a:Act}
theorem dy.eval(h:dy D n b a){x:Operand}{v:Value}(c:opd b x=some v):a.eval x=v:=by
 cases x with
 |tmp d=>
  have:=h.val d v c;simp[Act.eval,this]
 |const g=>simpa[opd,Act.eval]using c
 |global f=>simpa[opd,Act.eval]using c
 |func e=>simpa[opd,Act.eval]using c
theorem dy.RS(h:dy D n b a){o:Oper}(c:iw b o=true):execOp a.eval o=execOp (RS b) o:=by
 simp only[iw,ch,bE]at c;refine execOp_congr o (λj k f=>?_) λe g=>?_
 ·have:=c.2;simp[f]at this
 ·obtain⟨i,d⟩:=cV.1 (c.1 e (by simpa using g));rw[h.eval d,Go.Proofs.YtcmpkkapkdlfhaaGreat.RS,d];rfl
theorem n4{o:Oper}(a:iw b o=true)(c:Call):o.op≠.defer c:=by
 intro d;simp only[iw,ch]at a;have:=a.2;simp[d]at this
def gw(n:Nat)(b:bu)(d:bi)(v:Value):Option (bu):=
 match d with
 |none=>some b
 |some d=>match Nat.blt d n with
  |true=>some ((d,v)::b)
  |false=>none
theorem dy.put(h:dy D n b a){d:bi}{v:Value}{V9:bu}(c:gw n b d v=some V9):dy D n V9 (a.put d v):=by
 cases d with
 |none=>simp only[gw,aB]at c; subst c; exact h
 |some d=>
  simp only[gw]at c;split at c
  ·rename_i l;have m:d<n:=by simpa[Nat.blt_eq]using l
   simp only[aB]at c;subst c;refine⟨by simp[Act.put,h.size],h.df,λf j e=>?_⟩;simp only[gh]at e;simp only[Act.put];split at e
   ·rename_i g;have i:d=f:=bH g;subst i;simp only[aB]at e;subst e;have k:=h.size;simp[k,m]
   ·rename_i g;have i:d≠f:=Nat.ne_of_beq_eq_false g;rw[gX i];exact h.val f j e
  ·cases c
end
def T0(k:IntKind)(n:Int):Prop:=k.min<=n∧n<=k.max
theorem jp{k:IntKind}{n:Int}(h:T0 k n):k.wrap n=n:=by
 unfold T0 at h;cases k
 ·exact IntWalk.i8_in n (by simpa[IntKind.min,IntKind.max,IntKind.signed,IntKind.bits]using h)
 ·exact IntWalk.i16_in n (by simpa[IntKind.min,IntKind.max,IntKind.signed,IntKind.bits]using h)
 ·exact IntWalk.i32_in n (by simpa[IntKind.min,IntKind.max,IntKind.signed,IntKind.bits]using h)
 ·exact IntWalk.i64_in n (by simpa[IntKind.min,IntKind.max,IntKind.signed,IntKind.bits]using h)
 ·exact IntWalk.u8_in n (by simpa[IntKind.min,IntKind.max,IntKind.signed,IntKind.bits]using h)
 ·exact IntWalk.u16_in n (by simpa[IntKind.min,IntKind.max,IntKind.signed,IntKind.bits]using h)
 ·exact IntWalk.u32_in n (by simpa[IntKind.min,IntKind.max,IntKind.signed,IntKind.bits]using h)
 ·exact IntWalk.u64_in n (by simpa[IntKind.min,IntKind.max,IntKind.signed,IntKind.bits]using h)
theorem i0{n:Int}(h:-9223372036854775808<=n∧n<=9223372036854775807):T0 .i64 n:=by
 simpa[T0,IntKind.min,IntKind.max,IntKind.signed,IntKind.bits]using h
theorem VT{n:Int}(h:0<=n∧n<=255):T0 .u8 n:=by
 simpa[T0,IntKind.min,IntKind.max,IntKind.signed,IntKind.bits]using h
theorem aW(k:Nat):((k+1:Nat):Int)=(k:Int)+1:=by omega
theorem xH(a:ByteArray):(a==a)=true:=by rw[beq_toListBytes]; simp
def ee(s:ByteArray)(i:Nat):Int:=((s.data[i]?.getD 0).toNat:Int)
def Il(P:Program)(t:TypeId)(cs:Array Value)(off:Nat):Option Value:=
 match P.underlying t,P.info? t with
 |some (.struct _),some a=>some (.agg (cs.extract off (off+a.size)))
 |some (.array _ _),some a=>some (.agg (cs.extract off (off+a.size)))
 |some (.int _),some _=>cs[off]?
 |some .bool,some _=>cs[off]?
 |some .string,some _=>cs[off]?
 |_,_=>none
def yS(P:Program)(e:TypeId->Value->Value->Option Bool)(xs b:Array Value):List Field->Option Bool
 |[]=>some true
 |a::c=>
  if a.name ≠ "_" then
   match Il P a.type xs a.offset,Il P a.type b a.offset with
   |some d,some f=>match e a.type d f,yS P e xs b c with
    |some h,some g=>some (h&&g)
    |_,_=>none
   |_,_=>none
  else yS P e xs b c
def eqV(P:Program):Nat->TypeId->Value->Value->Option Bool
 |0,_,_,_=>none
 |d+1,c,f,g=>
  match P.underlying c,f,g with
  |some (.int _),.int e a,.int i b=>if e=i then some (a==b)else none
  |some .bool,.bool a,.bool b=>some (a==b)
  |some .string,.string a,.string b=>some (a==b)
  |some (.struct h),.agg j,.agg k=>if P.stoodInHeld c=false then yS P (eqV P d) j k h.toList else none
  |_,_,_=>none
def TO(a b:Int):Int:=((a.toNat &&& b.toNat:Nat):Int)
def Xk(a b:Int):Int:=((a.toNat ||| b.toNat:Nat):Int)
def jo(a b:Int):Int:=((a.toNat^^^b.toNat:Nat):Int)
def yT(op:BinOp)(k:IntKind)(a b:Int):Option (Value×Prop):=
 match op with
 |.add=>some (.int k (a+b),T0 k (a+b))
 |.sub=>some (.int k (a-b),T0 k (a-b))
 |.mul=>some (.int k (a*b),T0 k (a*b))
 |.rem=>some (.int k (a%b),0<=a∧0<b)
 |.quo=>some (.int k (a/b),0<=a∧0<b∧a<=k.max)
 |.and=>some (.int k (TO a b),0<=a∧0<=b∧a<=k.max∧b<=k.max)
 |.or=>some (.int k (Xk a b),0<=a∧0<=b∧a<=k.max∧b<=k.max)
 |.xor=>some (.int k (jo a b),0<=a∧0<=b∧a<=k.max∧b<=k.max)
 |_=>none
def Ng(op:BinOp)(k:IntKind)(a:Int)(c:IntKind)(b:Int):Option (Value×Prop):=
 match op with
 |.shl=>some (.int k (a*((2^b.toNat:Nat):Int)),T0 k (a*((2^b.toNat:Nat):Int))∧0<=b∧b<=(k.bits:Int))
 |.shr=>some (.int k (a/((2^b.toNat:Nat):Int)),0<=b∧b<=(k.bits:Int))
 |_=>if k=c then yT op k a b else none
def Nh(n:Nat)(op:BinOp)(k:IntKind)(a:Int)(c:IntKind)(b:Int):Option (Value×Prop):=
 match n,op with
 |1,.rem=>if k=c then some (.int k (a.tmod b),b≠0)else none
 |_,_=>Ng op k a c b
def TP(P:Program)(t:TypeId):bi:=(P.info? t).map (·.size)
def yU(P:Program)(t:TypeId)(x f:Value):Option (Value×Prop):=
 match P.underlying t,x,f with
 |some (.slice b),.slice (some ⟨c,d,none⟩) len _,.int _ a=>
  match TP P b with
  |some e=>some (.pointer (some ⟨c,d+a.toNat*e,none⟩),0<=a∧a<len)
  |none=>none
 |some (.array len b),.pointer (some ⟨c,d,none⟩),.int _ a=>
  match TP P b with
  |some e=>some (.pointer (some ⟨c,d+a.toNat*e,none⟩),0<=a∧a<len)
  |none=>none
 |_,_,_=>none
def TQ(P:Program)(t:TypeId)(x c:Value):Option (Value×Prop):=
 match P.underlying t,x,c with
 |some .string,.string b,.int _ a=>some (.int .u8 (ee b a.toNat),0<=a∧a<b.size)
 |_,_,_=>none
def CY(P:Program)(t:TypeId)(x:Value)(lo d:Option Value):Option (Value×Prop):=
 match P.underlying t,x,lo,d with
 |some .string,.string a,some (.int _ b),some (.int _ c)=>some (.string (a.extract b.toNat c.toNat),0<=b∧b<=c∧c<=a.size)
 |some .string,.string a,some (.int _ b),none=>some (.string (a.extract b.toNat a.size),0<=b∧b<=a.size)
 |some .string,.string a,none,some (.int _ c)=>some (.string (a.extract 0 c.toNat),0<=c∧c<=a.size)
 |_,_,_,_=>none
def slO(k c i o z:Nat):Nat:=match k with
 |0=>o+i*z
 |_=>bif Nat.beq c i then o else o+i*z
def Yp(k i c:Nat):Prop:=match k with
 |0=>i<c
 |_=>True
def TR(P:Program)(k:Nat)(t:TypeId)(x:Value)(lo j l:Option Value):Option (Value×Prop):=
 match x with
 |.slice (some ⟨e,f,none⟩) h c=>match P.underlying t with
  |some (.slice i)=>match TP P i with
   |some g=>match lo,j,l with
    |some (.int _ a),none,none=>some (.slice (some ⟨e,slO k c a.toNat f g,none⟩) (h-a.toNat) (c-a.toNat),(0<=a∧a<=h)∧Yp k a.toNat c)
    |none,some (.int _ b),none=>some (.slice (some ⟨e,f,none⟩) b.toNat c,0<=b∧b<=c)
    |some (.int _ a),some (.int _ b),none=>some (.slice (some ⟨e,slO k c a.toNat f g,none⟩) (b.toNat-a.toNat) (c-a.toNat),(0<=a∧a<=b∧b<=c)∧Yp k a.toNat c)
    |some (.int _ a),some (.int _ b),some (.int _ d)=>some (.slice (some ⟨e,slO k d.toNat a.toNat f g,none⟩) (b.toNat-a.toNat) (d.toNat-a.toNat),(0<=a∧a<=b∧b<=d∧d<=c)∧Yp k a.toNat d.toNat)
    |_,_,_=>none
   |none=>none
  |_=>none
 |_=>none
def jC(a b:Int):Int:=if b<a then b else a
def mv(a b:Int):Int:=if b>a then b else a
def Ni(a:Operand->Value)(c:Call):Option (Value×Prop):=
 match c.callee with
 |.builtin .min=>match c.args.toList with
  |[f,g]=>match a f,a g with
   |.int e b,.int _ d=>some (.int e (jC b d),True)
   |_,_=>none
  |_=>none
 |.builtin .max=>match c.args.toList with
  |[f,g]=>match a f,a g with
   |.int e b,.int _ d=>some (.int e (mv b d),True)
   |_,_=>none
  |_=>none
 |_=>none
def Nj(P:Program)(k:Nat)(c dst:TypeId)(x:Value):Option (Value×Prop):=
 match k,P.underlying c,P.underlying dst,x with
 |0,some _,some (.int b),.int _ a=>some (.int b a,T0 b a)
 |1,some _,some (.int .u8),.int _ a=>some (.int .u8 (a%256),True)
 |_,_,_,_=>none
def ov(P:Program)(a:Operand->Value)(k:Nat):Op->Option (Value×Prop)
 |.pick c e f=>match k,a c with
  |0,.bool c=>match a e,a f with
   |.bool b,.bool h=>some (.bool (bif c then b else h),True)
   |_,_=>none
  |1,.bool c=>some (a e,c=true)
  |2,.bool c=>some (a f,c=false)
  |_,_=>none
 |.binOp op d b h _=>match a b,a h with
  |.int o e,.int p f=>Nh k op o e p f
  |.agg q,.agg r=>
   if P.eqGuardType P.depth d=false then
    match op,eqV P 40 d (.agg q) (.agg r)with
    |.eql,some g=>some (.bool g,True)
    |.neq,some g=>some (.bool (!g),True)
    |_,_=>none
   else none
  |.string e,.string f=>match op with
   |.add=>some (.string (e++f),((e.size+f.size:Nat):Int)<=9223372036854775807)
   |_=>none
  |_,_=>none
 |.indexAddr d b i=>yU P d (a b) (a i)
 |.index d b i=>TQ P d (a b) (a i)
 |.slice d b m l n=>match TR P k d (a b) (m.map a) (l.map a) (n.map a)with
  |some g=>some g
  |none=>match n with
   |none=>CY P d (a b) (m.map a) (l.map a)
   |some _=>none
 |.convert src dst b=>Nj P k src dst (a b)
 |.call c=>Ni a c
 |.unOp op _ b=>match op,a b with
  |.neg,.int k j=>some (.int k (0-j),T0 k (0-j))
  |_,_=>none
 |_=>none
section
variable {P:Program}
theorem CZ{t:TypeId}{cs:Array Value}{d:Nat}{v:Value}(h:Il P t cs d=some v)(w:World):(part t cs d).run P w=.ok v w:=by
 unfold Il at h;split at h
 ·rename_i i c a b;simp only[aB]at h;subst h;simp[part,isAgg,run_underlying a,sizeOf,typeInfo,b]
 ·rename_i g e c a b;simp only[aB]at h;subst h;simp[part,isAgg,run_underlying a,sizeOf,typeInfo,b]
 ·rename_i f c a b;simp[part,isAgg,run_underlying a,h]
 ·rename_i c a b;simp[part,isAgg,run_underlying a,h]
 ·rename_i c a b;simp[part,isAgg,run_underlying a,h]
 ·cases h
theorem Nk{e:TypeId->Value->Value->Option Bool}{d:Nat}(he:∀i g j c,e i g j=some c->∀b,(Op.equalIn d i g j).run P b=.ok c b){xs l:Array Value} :
  ∀(f:List Field)(c:Bool),yS P e xs l f=some c->∀b,(Op.eqFields d xs l f).run P b=.ok c b:=by
 intro f
 induction f with
 |nil=>
  intro c a b;simp only[yS,aB]at a;subst a;rfl
 |cons u f k=>
  intro c a b;simp only[yS]at a;simp only[Op.eqFields];split at a
  ·rename_i h;rw[aA h];split at a
   ·rename_i s t o p;split at a
    ·rename_i g v r q;simp only[aB]at a;subst a;have m:=he _ _ _ _ r b;have n:=k _ q b;simp only[Sem.run_bind,CZ o,CZ p,dS,m,Sem.run_ite];cases g<;>simp[n]
    ·cases a
   ·cases a
  ·rename_i h;rw[ay h];exact k _ a b
theorem Im:∀(b:Nat)(c:TypeId)(i j:Value)(h:Bool),eqV P b c i j=some h->∀d,(Op.equalIn b c i j).run P d=.ok h d:=by
 intro b
 induction b with
 |zero=>intro c i j h a; cases a
 |succ b p=>
  intro c i j h a d;simp only[eqV]at a;split at a
  ·rename_i q l f t g e;split at a
   ·rename_i n;subst n;simp only[aB]at a;subst a;exact run_equalIn_int d b c l q f g e
   ·cases a
  ·rename_i f g e;simp only[aB]at a;subst a;exact run_equalIn_bool d b c f g e
  ·rename_i f g e;simp only[aB]at a;subst a;rw[run_equalIn_string d b c f g e,<-beq_toListBytes]
  ·rename_i m r s e;split at a
   ·rename_i o;have k:P.fieldsOf c=m:=by simp[Program.fieldsOf,e]
    rw[run_equalIn_struct d b c r s (by rw[k]; exact e) o,k];exact Nk p _ _ a d
   ·cases a
  ·cases a
theorem C0:∀(d c:Nat)(f:TypeId)(g h:Value)(b:Bool),d<=c->eqV P d f g h=some b->eqV P c f g h=some b:=by
 intro d
 induction d with
 |zero=>intro c f g h b _ a; cases a
 |succ d o=>
  intro c f g h b x a
  cases c with
  |zero=>omega
  |succ c=>
   have p:∀(i j:Array Value)(e:List Field)(b:Bool),yS P (eqV P d) i j e=some b->yS P (eqV P c) i j e=some b:=by
    intro i j e
    induction e with
    |nil=>intro b a; exact a
    |cons s e m=>
     intro b a;simp only[yS]at a ⊢;split at a
     ·rename_i k;rw[aA k];split at a
      ·rename_i q r v w;split at a
       ·rename_i t u l n;simp only[o c _ _ _ _ yq l,m _ n];exact a
       ·cases a
      ·cases a
     ·rename_i k;rw[ay k];exact m _ a
   simp only[eqV]at a ⊢;split at a
   ·exact a
   ·exact a
   ·exact a
   ·rename_i e i j y;split at a
    ·rename_i l;simp only[l,if_true];exact p _ _ _ _ a
    ·cases a
   ·cases a
theorem bY(g o n:Nat):(⟨g,o,none⟩:Addr).add n=⟨g,o+n,none⟩:=by
 unfold Addr.add;split
 ·rename_i a; subst a; rfl
 ·rfl
def td(k:IntKind):Nat:=if k.signed then k.bits-1 else k.bits
theorem Io(k:IntKind):k.max=((2^td k:Nat):Int)-1:=by cases k<;>decide
theorem uJ{k:IntKind}{a:Int}(c:0<=a)(b:a<=k.max):a.toNat<2^td k:=by
 rw[Io]at b;omega
theorem TS(k:IntKind):td k<=k.bits:=by cases k<;>decide
theorem uK{k:IntKind}{n:Nat}(h:n<2^td k):k.wrap (n:Int)=(n:Int):=by
 refine jp ⟨?_,?_⟩
 ·have:k.min<=0:=by cases k<;>decide
  omega
 ·rw[Io];omega
theorem KP{k:IntKind}{n:Nat}{a:Int}(h:n<=a.toNat)(b:a<=k.max):k.wrap (n:Int)=(n:Int):=by
 refine jp ⟨?_,?_⟩
 ·have:k.min<=0:=by cases k<;>decide
  omega
 ·have:0<=k.max:=by cases k<;>decide
  omega
theorem fA{k:IntKind}{a:Int}(b:0<=a)(d:a<=k.max):(BitVec.ofInt k.bits a).toNat=a.toNat:=by
 have e:=cD (uJ b d) (Nat.pow_le_pow_right (by decide) (TS k));rw[BitVec.toNat_ofInt];have c:a%((2^k.bits:Nat):Int)=a:=Int.emod_eq_of_lt b yq;rw[c]
theorem wZ{op:BinOp}{k:IntKind}{a b:Int}{v:Value}{p:Prop}(h:yT op k a b=some (v,p))(g:p)(t:TypeId)(w:World) :
  (binOp op t (.int k a) (.int k b)).run P w=.ok v w:=by
 cases op<;>simp only[yT,aB,bw,reduceCtorEq]at h
 all_goals obtain⟨rfl,rfl⟩:=h
 ·simp[binOp,Op.intArith,jp g]
 ·simp[binOp,Op.intArith,jp g]
 ·simp[binOp,Op.intArith,jp g]
 ·obtain⟨c,d,e⟩:=g;have j:b≠0:=by omega
  have i:a.tdiv b=a/b:=Int.tdiv_eq_ediv_of_nonneg c;have f:0<=a/b:=Int.ediv_nonneg c yq;have m:a/b<=a:=Int.ediv_le_self b c;have n:k.min<=0:=by cases k<;>decide
  have l:k.wrap (a/b)=a/b:=jp ⟨yq,yq⟩;simp[binOp,Op.intDiv,j,i,l]
 ·obtain⟨c,d⟩:=g;have j:b≠0:=by omega
  have i:a.tmod b=a%b:=Int.tmod_eq_emod_of_nonneg c;simp[binOp,Op.intDiv,j,i]
 ·obtain⟨c,d,e,f⟩:=g;rw[show binOp .and t (.int k a) (.int k b)=Op.intBits .and k a b by simp[binOp]];simp only[Op.intBits,BitVec.toNat_and,fA c e,fA d f];rw[KP (az Nat.and_le_left yq) e];rfl
 ·obtain⟨c,d,e,f⟩:=g;rw[show binOp .or t (.int k a) (.int k b)=Op.intBits .or k a b by simp[binOp]];simp only[Op.intBits,BitVec.toNat_or,fA c e,fA d f];rw[uK (Nat.or_lt_two_pow (uJ c e) (uJ d f))];rfl
 ·obtain⟨c,d,e,f⟩:=g;rw[show binOp .xor t (.int k a) (.int k b)=Op.intBits .xor k a b by simp[binOp]];simp only[Op.intBits,BitVec.toNat_xor,fA c e,fA d f];rw[uK (Nat.xor_lt_two_pow (uJ c e) (uJ d f))];rfl
theorem C1{op:BinOp}{k g:IntKind}{a b:Int}{v:Value}{p:Prop}(h:Ng op k a g b=some (v,p))(f:p)(t:TypeId)(w:World) :
  (binOp op t (.int k a) (.int g b)).run P w=.ok v w:=by
 unfold Ng at h;split at h
 ·simp only[aB,bw]at h;obtain⟨rfl,rfl⟩:=h;obtain⟨i,j,l⟩:=f;have e:min b.toNat k.bits=b.toNat:=by omega
  have c:a*2^b.toNat=a*((2^b.toNat:Nat):Int):=by rw[Int.natCast_pow]; rfl
  have d:¬b<0:=by omega
  simp only[binOp,Op.shift,ay d,e,c,jp i];rfl
 ·simp only[aB,bw]at h;obtain⟨rfl,rfl⟩:=h;obtain⟨j,l⟩:=f;have e:min b.toNat k.bits=b.toNat:=by omega
  have c:a.fdiv (2^b.toNat)=a/((2^b.toNat:Nat):Int):=by
   rw[Int.natCast_pow];exact Int.fdiv_eq_ediv_of_nonneg _ (Int.pow_nonneg (by decide))
  have d:¬b<0:=by omega
  simp only[binOp,Op.shift,ay d,e,c];rfl
 ·split at h
  ·rename_i m;subst m;exact wZ h f t w
  ·cases h
theorem w5{t:TypeId}{x l v:Value}{p:Prop}(h:yU P t x l=some (v,p))(k:p)(w:World):(Instr.indexAt t x l).run P w=.ok v w:=by
 unfold yU at h;split at h
 ·rename_i c n o i m e d a;split at h
  ·rename_i q g;simp only[aB,bw]at h;obtain⟨rfl,rfl⟩:=h;have b:P.elem t=c:=by simp[Program.elem,a]
   obtain⟨r,f,rfl⟩:=gv.1 g;rw[run_indexAt_slice w t _ i m e d (by rw[b]; exact a),aA k,b];simp[sizeOf,typeInfo,f,bY]
  ·cases h
 ·rename_i i c n o e d a;split at h
  ·rename_i q g;simp only[aB,bw]at h;obtain⟨rfl,rfl⟩:=h;have b:P.elem t=c:=by simp[Program.elem,a]
   have j:P.arrayLen t=i:=by simp[Program.arrayLen,a]
   obtain⟨r,f,rfl⟩:=gv.1 g;rw[run_indexAt_array w t _ e d (by rw[b,j]; exact a),j,aA k,b];simp[sizeOf,typeInfo,f,bY]
  ·cases h
 ·cases h
theorem Fc{t:TypeId}{x c v:Value}{p:Prop}(h:TQ P t x c=some (v,p))(f:p)(w:World):(Instr.index t x c).run P w=.ok v w:=by
 unfold TQ at h;split at h
 ·rename_i b d a g;simp only[aB,bw]at h;obtain⟨rfl,rfl⟩:=h;rw[run_index_string w t b d a g,dif_pos f];have i:a.toNat<b.data.size:=by
    have e:a.toNat<b.size:=by omega
    exact e
  simp only[ee,fi i,Option.getD_some];rfl
 ·cases h
theorem C2{t:TypeId}{x v:Value}{lo g:Option Value}{p:Prop}(h:CY P t x lo g=some (v,p))(c:p)(w:World):(Instr.slice t x lo g none).run P w=.ok v w:=by
 unfold CY at h;split at h
 ·rename_i b a e i f d;simp only[aB,bw]at h;obtain⟨rfl,rfl⟩:=h;exact run_slice_string w t b a i e f d c.1 c.2.1 c.2.2
 ·rename_i b a e d;simp only[aB,bw]at h;obtain⟨rfl,rfl⟩:=h;rw[run_slice_string_from_if w t b a e d,aA c]
 ·rename_i b a f d;simp only[aB,bw]at h;obtain⟨rfl,rfl⟩:=h;rw[run_slice_string_to_if w t b a f d,aA c]
 ·cases h
theorem uL{k c i o z g:Nat}(h:Yp k i c):(if c=i then some ⟨g,o,none⟩else(some (⟨g,o,none⟩:Addr)).map (·.add (i*z)))=some (⟨g,slO k c i o z,none⟩:Addr):=by
 cases k with
 |zero=>
  have e:i<c:=h;rw[ay yq];simp[slO,bY]
 |succ k=>
  by_cases a:c=i
  ·simp[slO,a]
  ·rw[ay a];have b:Nat.beq c i=false:=by
    cases d:Nat.beq c i with
    |false=>rfl
    |true=>exact absurd (bH d) a
   simp[slO,b,bY]
theorem Fd{k:Nat}{t:TypeId}{x v:Value}{lo m o:Option Value}{p:Prop}(h:TR P k t x lo m o=some (v,p))(a:p)(w:World):(Instr.sliceAt t x lo m o).run P w=.ok v w:=by
 unfold TR at h;split at h
 ·rename_i C D g c;split at h
  ·rename_i q n;have l:P.elem t=q:=by simp[Program.elem,n]
   have f:P.underlying t=some (.slice (P.elem t)):=by rw[l]; exact n
   split at h
   ·rename_i s y;obtain⟨E,z,A⟩:=gv.1 y;have i:∀w,(sizeOf (P.elem t)).run P w=.ok s w:=λw=>by simp[sizeOf,typeInfo,l,z,A]
    rw[run_sliceAt_slice w t _ _ _ _ f];split at h
    ·rename_i b d;simp only[aB,bw]at h;obtain⟨rfl,rfl⟩:=h;rw[run_slice_l w t _ g c f b d a.1.1 a.1.2];simp only[i,dS,sliced];rw[uL a.2]
    ·rename_i b e;simp only[aB,bw]at h;obtain⟨rfl,rfl⟩:=h;rw[run_slice_h w t _ g c f b e a.1 a.2];simp only[i,dS,sliced];by_cases u:c=0<;>simp[u,bY]
    ·rename_i b d j e;simp only[aB,bw]at h;obtain⟨rfl,rfl⟩:=h;rw[run_slice_lh w t _ g c f b j d e a.1.1 a.1.2.1 a.1.2.2];simp only[i,dS,sliced];rw[uL a.2]
    ·rename_i b d j e B r;simp only[aB,bw]at h;obtain⟨rfl,rfl⟩:=h;rw[run_slice_lhm w t _ g c f b j B d e r a.1.1 a.1.2.1 a.1.2.2.1 a.1.2.2.2];simp only[i,dS,sliced];rw[uL a.2]
    ·cases h
   ·cases h
  ·cases h
 ·cases h
theorem sC{t:TypeId}{x v:Value}{lo a:Option Value}{p:Prop}(h:CY P t x lo a=some (v,p)):P.underlying t=some .string:=by
 unfold CY at h;split at h<;>first|assumption|cases h
theorem C3{n:Nat}{op:BinOp}{k d:IntKind}{a b:Int}{v:Value}{p:Prop}(h:Nh n op k a d b=some (v,p))(c:p)(t:TypeId)(w:World) :
  (binOp op t (.int k a) (.int d b)).run P w=.ok v w:=by
 unfold Nh at h;split at h
 ·split at h
  ·rename_i e;subst e;simp only[aB,bw]at h;obtain⟨rfl,rfl⟩:=h;simp[binOp,Op.intDiv,c]
  ·cases h
 ·exact C1 h c t w
theorem mB{D:Operand->Value}{k:Nat}{o:Oper}{v:Value}{p:Prop}(h:ov P D k o.op=some (v,p))(e:p)(w:World):(execOp D o).run P w=.ok (.value v) w:=by
 obtain⟨s,op,S,V,W,X⟩:=o;simp only at h;unfold ov at h;split at h
 ·rename_i C j l;split at h
  ·rename_i y m;split at h
   ·rename_i c g b d;simp only[aB,bw]at h;obtain⟨rfl,rfl⟩:=h;simp only[execOp,m,b,d];cases y<;>simp[asBool]
   ·cases h
  ·rename_i y m;simp only[aB,bw]at h;obtain⟨rfl,rfl⟩:=h;simp[execOp,m,asBool,e]
  ·rename_i y m;simp only[aB,bw]at h;obtain⟨rfl,rfl⟩:=h;simp[execOp,m,asBool,e]
  ·cases h
 ·rename_i op f c g T;split at h
  ·rename_i O j F l b d;have a:=C3 (P:=P) h e f w;simp only[execOp,b,d];simp[eqGuard,a]
  ·rename_i xs u b d;split at h
   ·rename_i E;split at h
    ·rename_i t r;simp only[aB,bw]at h;obtain⟨rfl,rfl⟩:=h;have a:=Im 10000 f (.agg xs) (.agg u) t (C0 40 10000 _ _ _ _ yq r) w;simp only[execOp,b,d];simp[run_eqGuard_agg w _ f c g xs u E,run_eql_struct,a]
    ·rename_i t r;simp only[aB,bw]at h;obtain⟨rfl,rfl⟩:=h;have a:=Im 10000 f (.agg xs) (.agg u) t (C0 40 10000 _ _ _ _ yq r) w;simp only[execOp,b,d];simp[run_eqGuard_agg w _ f c g xs u E,run_neq_struct,a]
    ·cases h
   ·cases h
  ·rename_i j l b d;split at h
   ·simp only[aB,bw]at h;obtain⟨rfl,rfl⟩:=h;have J:¬((j.size+l.size:Nat):Int)>IntKind.i64.max:=by
     have:IntKind.i64.max=9223372036854775807:=by decide
     omega
    simp only[execOp,b,d];simp only[eqGuard,binOp,Op.stringOp,ay J];simp
   ·cases h
  ·cases h
 ·rename_i f c M;have a:=w5 h e w;simp[execOp,a]
 ·rename_i f c M;have a:=Fc h e w;simp[execOp,a]
 ·rename_i f c Q N R;split at h
  ·rename_i t r;simp only[aB]at h;subst h;have a:=Fd r e w;simp[execOp,a]
  ·split at h
   ·have K:=sC h;have a:=C2 h e w;simp[execOp,Instr.sliceAt,run_underlying K,a]
   ·cases h
 ·rename_i G s c;unfold Nj at h;split at h
  ·rename_i I H k i A n b;simp only[aB,bw]at h;obtain⟨rfl,rfl⟩:=h;have q:P.intKind s=H:=by simp[Program.intKind,n]
   have a:=run_convert_int w G s k i (by rw[A]; rfl) (by rw[q]; exact n);rw[q,jp e]at a;simp[execOp,b,a]
  ·rename_i I k i A n b;simp only[aB,bw]at h;obtain⟨rfl,rfl⟩:=h;have q:P.intKind s=.u8:=by simp[Program.intKind,n]
   have a:=run_convert_int w G s k i (by rw[A]; rfl) (by rw[q]; exact n);rw[q,show IntKind.wrap .u8 i=i%256 from by simp[IntKind.wrap,IntKind.bits,IntKind.signed]]at a;simp[execOp,b,a]
  ·cases h
 ·rename_i C;obtain⟨Y,x,U⟩:=C;unfold Ni at h;simp only at h;split at h
  ·split at h
   ·rename_i c g B;split at h
    ·rename_i k j F l b d;simp only[aB,bw]at h;obtain⟨rfl,rfl⟩:=h;have z:x=#[c,g]:=by rw[<-Array.toArray_toList (xs:=x),B]
     subst z;simp[execOp,resolve,invoke,builtin,b,d,run_min_int2,jC]
    ·cases h
   ·cases h
  ·split at h
   ·rename_i c g B;split at h
    ·rename_i k j F l b d;simp only[aB,bw]at h;obtain⟨rfl,rfl⟩:=h;have z:x=#[c,g]:=by rw[<-Array.toArray_toList (xs:=x),B]
     subst z;simp[execOp,resolve,invoke,builtin,b,d,run_max_int2,mv]
    ·cases h
   ·cases h
  ·cases h
 ·rename_i op _ c;split at h
  ·rename_i k i b;simp only[aB,bw]at h;obtain⟨rfl,rfl⟩:=h;have L:=jp e;simp only[execOp,b,Op.unary,Op.intArith,L];rfl
  ·cases h
 ·cases h
end
structure OH where
 dec:Bool
 ov:Nat
 hs:List MH
def y2:OH:=⟨false,0,[]⟩
def FN:OH:=⟨true,0,[]⟩
def HA:OH:=⟨false,1,[]⟩
def WG:OH:=⟨false,2,[]⟩
structure Out where
 ob:List Prop
 eqs:List ((Nat×Nat)×(Nat×Nat))
 st:St
def qM(P:Program)(n:Nat)(o:Oper)(st:St)(h:OH):Option Out:=
 match iw st.sl o with
 |true=>match h.ov with
  |0=>match lr P st.wn (execOp (RS st.sl) o) h.hs st.bk st.sz with
   |some ⟨.value b,c,e,d⟩=>match gw n st.sl o.dst b with
    |some a=>some ⟨[],d,⟨a,c,st.wn,e⟩⟩
    |none=>none
   |some ⟨.skip,c,e,d⟩=>match gw n st.sl o.dst undef with
    |some a=>some ⟨[],d,⟨a,c,st.wn,e⟩⟩
    |none=>none
   |_=>none
  |f+1=>match ov P (RS st.sl) f o.op with
   |some (b,g)=>match gw n st.sl o.dst b with
    |some a=>some ⟨[g],[],{ st with sl:=a }⟩
    |none=>none
   |none=>none
 |false=>none
def lw(n:Nat)(o:Oper)(st:St):Option Out:=
 match gw n st.sl o.dst undef with
 |some a=>some ⟨[],[],{ st with sl:=a }⟩
 |none=>none
def Out.ask(p:Prop):Option Out->Option Out
 |some a=>some { a with ob:=p::a.ob }
 |none=>none
def jd(P:Program)(n:Nat)(ops:Array Oper)(st:St)(i:Nat)(h:OH):Option Out:=
 match ops[i]? with
 |none=>none
 |some a=>match a.guard with
  |none=>qM P n a st h
  |some (c,want)=>match (ops[c]?).bind (·.dst)with
   |none=>none
   |some d=>match gh st.sl d with
    |some (.bool b)=>match (h.dec==want)with
     |true=>Out.ask (b=h.dec) (qM P n a st h)
     |false=>Out.ask (b=h.dec) (lw n a st)
    |some (.tuple _)=>lw n a st
    |_=>none
def J4:List Prop->Prop
 |[]=>True
 |a::b=>a∧J4 b
theorem iI{l r:List Prop}(h:J4 (l++r)):J4 l∧J4 r:=by
 induction l with
 |nil=>exact⟨trivial,h⟩
 |cons b l a=>
  have:=a h.2;exact⟨⟨h.1,this.1⟩,this.2⟩
section
variable {D:List Deferred}{P:Program}{n:Nat}{w0:World}{S:br}{a:Act}{w:World}
theorem pH{o:Oper}{st:St}{h:OH}{r:Out}(b:qM P n o st h=some r)(v:J4 r.ob)(m:kF r.eqs)(e:dy D n st.sl a)(hm:ab w0 S st.bk st.wn st.sz w)
  {K:Act->aI} {Q:Exit->Act->aI} (j:∀l f,dy D n r.st.sl l->ab w0 S r.st.bk r.st.wn r.st.sz f->K l f):o.wp P a w K Q:=by
 unfold qM at b;split at b
 ·rename_i u;have g:=e.RS u;split at b
  ·split at b
   ·rename_i q s x t k;split at b
    ·rename_i p d;simp only[aB]at b;subst b;obtain⟨f,c,i⟩:=iH P _ _ _ _ w _ k m hm;simp only[Oper.wp,g,c,Oper.upon_value];exact j _ _ (e.put d) i
    ·cases b
   ·rename_i s x t k;split at b
    ·rename_i p d;simp only[aB]at b;subst b;obtain⟨f,c,i⟩:=iH P _ _ _ _ w _ k m hm;simp only[Oper.wp,g,c,Oper.upon_skip];exact j _ _ (e.put d) i
    ·cases b
   ·cases b
  ·split at b
   ·rename_i q z y;split at b
    ·rename_i p d;simp only[aB]at b;subst b;have c:=mB y v.1 w;simp only[Oper.wp,g,c,Oper.upon_value];exact j _ _ (e.put d) hm
    ·cases b
   ·cases b
 ·cases b
theorem iy{o:Oper}{st:St}{r:Out}(b:lw n o st=some r)(c:dy D n st.sl a):dy D n r.st.sl (a.put o.dst undef)∧r.st.bk=st.bk∧r.st.wn=st.wn∧r.st.sz=st.sz:=by
 unfold lw at b;split at b
 ·rename_i e d;simp only[aB]at b;subst b;exact⟨c.put d,rfl,rfl,rfl⟩
 ·cases b
theorem i2{p:Prop}{x:Option Out}{r:Out}(h:Out.ask p x=some r):∃a,x=some a∧r={ a with ob:=p::a.ob }:=by
 cases x with
 |none=>cases h
 |some a=>exact⟨a,rfl,by simpa[Out.ask]using h.symm⟩
theorem lx{ops:Array Oper}{i:Nat}{st:St}{h:OH}{r:Out}(b:jd P n ops st i h=some r)(j:J4 r.ob)(B:kF r.eqs)(d:dy D n st.sl a)(hm:ab w0 S st.bk st.wn st.sz w)
  {K:Act->aI} {Q:Exit->Act->aI} (g:∀A E,dy D n r.st.sl A->ab w0 S r.st.bk r.st.wn r.st.sz E->K A E):wpOp P ops Q i K a w:=by
 unfold jd at b;split at b
 ·cases b
 ·rename_i f H;simp only[wpOp,H];split at b
  ·rename_i e;have c:Region.wanted f (yielded ops a.tmps)=true:=by simp[Region.wanted,e]
   rw[aA c];exact .inl (pH b j B d hm g)
  ·rename_i y F e;split at b
   ·cases b
   ·rename_i z C;split at b
    ·rename_i l u;have k:yielded ops a.tmps y=some l:=by
      have:=d.val z _ u;simp[yielded,C,this]
     split at b
     ·rename_i v;obtain⟨G,x,rfl⟩:=i2 b;have c:Region.wanted f (yielded ops a.tmps)=true:=by
       have s:l=h.dec:=j.1;have t:h.dec=F:=by simpa using v
       simp[Region.wanted,e,k,s,t]
      rw[aA c];exact .inl (pH x j.2 B d hm g)
     ·rename_i v;obtain⟨G,x,rfl⟩:=i2 b;have c:¬Region.wanted f (yielded ops a.tmps)=true:=by
       have s:l=h.dec:=j.1;have t:¬h.dec=F:=by simpa using v
       simp[Region.wanted,e,k,s,t]
      rw[ay c];obtain⟨m,o,p,q⟩:=iy x d;exact g _ _ m (by simp only[o,p,q]; exact hm)
    ·rename_i I u;have k:yielded ops a.tmps y=none:=by
      have:=d.val z _ u;simp[yielded,C,this]
     have c:¬Region.wanted f (yielded ops a.tmps)=true:=by simp[Region.wanted,e,k]
     rw[ay c];obtain⟨m,o,p,q⟩:=iy b d;exact g _ _ m (by rw[o,p,q]; exact hm)
    ·cases b
end
inductive KI where
 |code (p:aH)
 |ops (p:aH) (l:aH)
 |any (p:aH) (f:Nat) (ls:cj)
 |zq (id:Nat)
 |inv (J:Act->aI)
def Vi:Nat->Nat->List Nat->List Nat
 |0,_,a=>a
 |c+1,b,a=>match Nat.ble b 1 with
  |true=>a
  |false=>Vi c (b/2) ((b%2)::a)
abbrev Ac(n:Nat):List Nat:=Vi 99 n []
abbrev y6(n:Nat):KI:=.code (Ac n)
def aa:Code->aH->Code
 |e,[]=>e
 |.seq b c,d::a=>match d with
  |0=>aa b a
  |_=>aa c a
 |.cond _ b c,d::a=>match d with
  |0=>aa b a
  |_=>aa c a
 |.block _ b,_::a=>aa b a
 |.loop b,_::a=>aa b a
 |.scope b,_::a=>aa b a
 |.rangeFunc _ _ b c,d::a=>match d with
  |0=>aa b a
  |_=>aa c a
 | _,_=>.refuse ""
def aj:Code->Array Oper
 |.region _ ops _=>ops
 |_=>#[]
def sem(P:Program)(body:Code)(Q:Exit->Act->aI):List KI->Exit->Act->aI
 |[],i,a,b=>Q i a b
 |.code d::c,.normal,a,b=>(aa body d).wp P (sem P body Q c) a b
 |.ops d f::c,.normal,a,b=>wpOps P (aj (aa body d)) (sem P body Q c) f a b
 |.any d j l::c,.normal,a,b=>wpAny P .any (aj (aa body d)) (sem P body Q c) j l a b
 |.zq _::c,.normal,a,b=>sem P body Q c .normal a b
 |.inv g::_,.normal,a,b=>g a b
 |.zq k::c,.exit e,a,b=>if e=k then sem P body Q c .normal a b else sem P body Q c (.exit e) a b
 |_::c,.exit e,a,b=>sem P body Q c (.exit e) a b
 |_::c,.goto f,a,b=>sem P body Q c (.goto f) a b
 |_::c,.ret,a,b=>sem P body Q c .ret a b
 |_::c,.panic h,a,b=>sem P body Q c (.panic h) a b
 |_::c,.outgrown,a,b=>sem P body Q c .outgrown a b
def iT(id:Nat):List KI->Option (List KI)
 |[]=>none
 |.zq b::a=>match Nat.beq id b with
  |true=>some a
  |false=>iT id a
 |.inv _::a=>iT id a
 |.code _::a=>iT id a
 |.ops _ _::a=>iT id a
 |.any _ _ _::a=>iT id a
def aF(D:List Deferred)(P:Program)(body:Code)(n:Nat)(w0:World)(S:br)(Q:Exit->Act->aI)(k:List KI)(st:St):Prop:=
 ∀a b,dy D n st.sl a->ab w0 S st.bk st.wn st.sz b->sem P body Q k .normal a b
structure Res where
 ob:List Prop
 eqs:List ((Nat×Nat)×(Nat×Nat))
 k:List KI
 st:St
def Res.ask(p:Prop):Option Res->Option Res
 |some a=>some { a with ob:=p::a.ob }
 |none=>none
def Res.more(o:Out):Option Res->Option Res
 |some a=>some { a with ob:=o.ob++a.ob,eqs:=o.eqs++a.eqs }
 |none=>none
def gz(P:Program)(body:Code)(n:Nat):Nat->List OH->List KI->St->Option Res
 |0,_,b,a=>some ⟨[],[],b,a⟩
 |_+1,_,[],a=>some ⟨[],[],[],a⟩
 |d+1,e,.code c::b,a=>
  match aa body c with
  |.skip=>gz P body n d e b a
  |.seq _ _=>gz P body n d e (.code (c++[0])::.code (c++[1])::b) a
  |.region _ ops false=>gz P body n d e (.ops c (List.range ops.size)::b) a
  |.cond l _ _=>match e with
   |[]=>some ⟨[],[],.code c::b,a⟩
   |g::f=>match opd a.sl l with
    |some (.bool i)=>match g.dec with
     |true=>Res.ask (i=true) (gz P body n d f (.code (c++[0])::b) a)
     |false=>Res.ask (i=false) (gz P body n d f (.code (c++[1])::b) a)
    |_=>none
  |.block h _=>gz P body n d e (.code (c++[0])::.zq h::b) a
  |.exit h=>match iT h b with
   |some o=>gz P body n d e o a
   |none=>none
  |_=>some ⟨[],[],.code c::b,a⟩
 |d+1,e,.zq _::b,a=>gz P body n d e b a
 |d+1,e,.ops c j::b,a=>
  match j with
  |[]=>gz P body n d e b a
  |m::p=>match e with
   |[]=>some ⟨[],[],.ops c j::b,a⟩
   |g::f=>match jd P n (aj (aa body c)) a m g with
    |some k=>Res.more k (gz P body n d f (.ops c p::b) k.st)
    |none=>none
 |_+1,_,b,a=>some ⟨[],[],b,a⟩
section
variable {D:List Deferred}{P:Program}{body:Code}{n:Nat}{w0:World}{S:br}{Q:Exit->Act->aI}
theorem Nl{p:aH}{k:List KI}(e:Exit)(a:Act)(w:World)(h:sem P body Q (.code p::k) e a w):Exit.then ((aa body p).wp P (sem P body Q k)) (sem P body Q k) e a w:=by
 cases e<;>exact h
theorem RB{b:Nat}{k:List KI}(e:Exit)(a:Act)(w:World)(h:sem P body Q (.zq b::k) e a w):Exit.inBlock b (sem P body Q k) e a w:=by
 cases e<;>exact h
theorem Fe{h:Nat}:∀(f b:List KI),iT h f=some b->∀c d,sem P body Q b .normal c d->sem P body Q f (.exit h) c d:=by
 intro f
 induction f with
 |nil=>intro b a; cases a
 |cons m f g=>
  intro b a c d e
  cases m with
  |zq l=>
   simp only[iT]at a;split at a
   ·rename_i i;have j:h=l:=bH i;simp only[aB]at a;subst a j;simpa[sem]using e
   ·rename_i i;have j:h≠l:=Nat.ne_of_beq_eq_false i;simp only[sem,ay j];exact g b a c d e
  |inv n=>exact g b a c d e
  |code k=>exact g b a c d e
  |ops k p=>exact g b a c d e
  |any k o q=>exact g b a c d e
theorem cg:∀(b:Code)(d a:aH),aa b (d++a)=aa (aa b d) a:=by
 intro b d
 induction d generalizing b with
 |nil=>intro a; cases b<;>simp[aa]
 |cons e d c=>
  intro a;have f:∀ a,aa (.refuse "") a = .refuse "":=by intro a; cases a <;> rfl
  cases b<;>simp only[List.cons_append,aa,f]
  ·cases e<;>exact c _ a
  ·cases e<;>exact c _ a
  ·exact c _ a
  ·exact c _ a
  ·cases e<;>exact c _ a
  ·exact c _ a
theorem tf{p:Prop}{x:Option Res}{r:Res}(h:Res.ask p x=some r):∃a,x=some a∧r={ a with ob:=p::a.ob }:=by
 cases x with
 |none=>cases h
 |some a=>exact⟨a,rfl,by simpa[Res.ask]using h.symm⟩
theorem C4{o:Out}{x:Option Res}{r:Res}(h:Res.more o x=some r):∃a,x=some a∧r={ a with ob:=o.ob++a.ob,eqs:=o.eqs++a.eqs }:=by
 cases x with
 |none=>cases h
 |some a=>exact⟨a,rfl,by simpa[Res.more]using h.symm⟩
theorem Ff:∀(t:Nat)(o:List OH)(m:List KI)(j:St)(i:Res),gz P body n t o m j=some i->J4 i.ob->kF i.eqs->aF D P body n w0 S Q i.k i.st->aF D P body n w0 S Q m j:=by
 intro t
 induction t with
 |zero=>
  intro o m j i a _ _ h;simp only[gz,aB]at a;subst a;exact h
 |succ t p=>
  intro o m j i a k l h
  cases m with
  |nil=>
   simp only[gz,aB]at a;subst a;exact h
  |cons G m=>
   cases G with
   |inv U=>
    simp only[gz,aB]at a;subst a;exact h
   |any A V ac=>
    simp only[gz,aB]at a;subst a;exact h
   |zq x=>
    simp only[gz]at a;intro b c d e;exact p o m j i a k l h b c d e
   |ops A X=>
    simp only[gz]at a;split at a
    ·intro b c d e;exact p o m j i a k l h b c d e
    ·rename_i W Z;split at a
     ·simp only[aB]at a;subst a;exact h
     ·rename_i K u;split at a
      ·rename_i Y T;obtain⟨r,s,rfl⟩:=C4 a;intro b c d e;have E:=iI k;have f:=p u _ _ r s E.2 (λq w=>l q (d5 _ w)) h;simp only[sem];rw[wpOps_cons];exact lx T E.1 (λq w=>l q (cE _ w)) d e (λH N O R=>f H N O R)
      ·cases a
   |code A=>
    simp only[gz]at a;split at a
    ·rename_i g;intro b c d e;simp only[sem,g];exact wp_skip (p o m j i a k l h b c d e)
    ·rename_i I J g;intro b c d e;have f:=p o _ j i a k l h b c d e;simp only[sem,cg,g,aa]at f;simp only[sem,g];refine wp_seq (wp_mono f λq b c v=>?_);have L:=Nl q b c v;simpa only[cg,g,aa]using L
    ·rename_i x ops g;intro b c d e;have f:=p o _ j i a k l h b c d e;simp only[sem,g,aj]at f;simp only[sem,g];exact wp_region f
    ·rename_i F I J g;split at a
     ·simp only[aB]at a;subst a;exact h
     ·rename_i K u;split at a
      ·rename_i z B;split at a
       ·obtain⟨r,s,rfl⟩:=tf a;intro b c d e;have f:=p u _ j r s k.2 l h b c d e;simp only[sem,cg,g,aa]at f;simp only[sem,g];have y:z=true:=k.1;subst y;exact wp_cond_true (d.eval B) f
       ·obtain⟨r,s,rfl⟩:=tf a;intro b c d e;have f:=p u _ j r s k.2 l h b c d e;simp only[sem,cg,g,aa]at f;simp only[sem,g];have y:z=false:=k.1;subst y;exact wp_cond_false (d.eval B) f
      ·cases a
    ·rename_i x F g;intro b c d e;have f:=p o _ j i a k l h b c d e;simp only[sem,cg,g,aa]at f;simp only[sem,g];exact wp_block (wp_mono f λq b c v=>RB q b c v)
    ·rename_i x g;split at a
     ·rename_i C M;intro b c d e;have f:=p o C j i a k l h b c d e;simp only[sem,g];exact wp_exit (Fe m C M b c f)
     ·cases a
    ·simp only[aB]at a;subst a;exact h
end
abbrev i6(x:Int):Value:=.int .i64 x
abbrev u6(x:Int):Value:=.int .u8 x
abbrev sT(x:ByteArray):Value:=.string x
abbrev oA(a b c:Nat):OH:=⟨false,0,[⟨false,a,b,c⟩]⟩
abbrev rp(n:Nat)(v:Value):av:=List.replicate n v
theorem tI:True:=trivial
def bA(n k:Nat):cj:=((List.range n).map (λa=>k.testBit a)).toArray
def j1(a:bu):aH->bu
 |[]=>[]
 |b::c=>match gh a b with
  |some d=>(b,d)::j1 a c
  |none=>j1 a c
def C5{α:Type}:List Bool->List α->List α
 |_,[]=>[]
 |[],a=>a
 |true::b,c::a=>c::C5 b a
 |false::b,_::a=>C5 b a
def Nm(a:aH)(b:List Bool)(st:St):St:=⟨j1 st.sl a,C5 b st.bk,st.wn,st.sz⟩
def TT(g r:Nat):Nat->List ((Nat×Nat)×(Nat×Nat))
 |0=>[]
 |a+1=>((g,r),(g,r))::TT g (r+1) a
def aX:List (Nat×Nat×Nat)->List ((Nat×Nat)×(Nat×Nat))
 |[]=>[]
 |(a,d,c)::b=>TT a d c++aX b
theorem xI(g:Nat):∀(b c:Nat),kF (TT g c b)
 |0,_,_,a=>by cases a
 |b+1,c,d,a=>by
  rcases bj.1 a with rfl|a
  ·rfl
  ·exact xI g b (c+1) d a
theorem dX:∀(b:List (Nat×Nat×Nat)),kF (aX b)
 |[],_,a=>by cases a
 |(d,f,e)::b,c,a=>by
  rcases dG.1 a with a|a
  ·exact xI d e f c a
  ·exact dX b c a
theorem nH{α:Type}:∀(b:List Bool)(a:List α),(C5 b a).Sublist a
 |_,[]=>by simp[C5]
 |[],_::_=>List.Sublist.refl _
 |true::b,_::a=>(nH b a).cons_cons _
 |false::b,_::a=>(nH b a).cons _
theorem dU{e:bu}:∀(d:aH)(b:Nat)(c:Value),gh (j1 e d) b=some c->gh e b=some c
 |[],_,_,a=>by cases a
 |f::d,b,c,a=>by
  simp only[j1]at a
  split at a
  ·rename_i j h
   simp only[gh]at a
   split at a
   ·rename_i g
    have i:f=b:=bH g
    subst i
    rw[h]
    exact a
   ·exact dU d b c a
  ·exact dU d b c a
section
variable {D:List Deferred}{P:Program}{body:Code}{n:Nat}{w0:World}{S:br}{Q:Exit->Act->aI}
theorem ab.sub{bk Ex:ax}{wn:List Wn}{c:Nat}{w:World}(h:ab w0 S bk wn c w)(hs:Ex.Sublist bk):ab w0 S Ex wn c w:=
 ⟨h.size,λa b=>h.zq a (hs.subset b),λa b=>h.own a (hs.subset b),h.nd.sublist (hs.map _),h.x2,h.Ww⟩
theorem fM{k:List KI}{st:St}(d:aH)(e:List Bool)(h:aF D P body n w0 S Q k (Nm d e st)):aF D P body n w0 S Q k st:=
 λf g a j=>h f g ⟨a.size,a.df,λb c i=>a.val b c (dU d b c i)⟩ (j.sub (nH e st.bk))
def Res.prune(b:aH)(c:List Bool):Option Res->Option Res
 |some a=>some { a with st:=Go.Proofs.YtcmpkkapkdlfhaaGreat.Nm b c a.st }
 |none=>none
theorem di{f:Nat}{hs:List OH}{k:List KI}{st:St}(c:aH)(d:List Bool){ob:List Prop}{rs:List (Nat×Nat×Nat)}{b:List KI}{e:St}
  (h:Res.prune c d (gz P body n f hs k st)=some ⟨ob,aX rs,b,e⟩) (p:J4 ob) (o:aF D P body n w0 S Q b e):aF D P body n w0 S Q k st:=by
 cases a:gz P body n f hs k st with
 |none=>rw[a]at h; cases h
 |some g=>
  rw[a]at h;simp only[Res.prune,aB,Res.mk.injEq]at h;obtain⟨i,j,l,m⟩:=h;refine Ff f hs k st g a (by rw[i]; exact p) (by rw[j]; exact dX rs) ?_;rw[l];refine fM c d ?_;rw[m];exact o
def al(fn:Func):Code:=fn.body.getD .skip
structure Ev where
 p:Prop
 h:p
abbrev eD{p:Prop}(h:p):Ev:=⟨p,h⟩
abbrev tT:Ev:=⟨true=true,rfl⟩
abbrev fF:Ev:=⟨false=false,rfl⟩
abbrev vV:Ev:=⟨True,trivial⟩
abbrev dF(p:Prop)[Decidable p](h:¬p:=by omega):Ev:=⟨decide p=false,bZ h⟩
abbrev dT(p:Prop)[Decidable p](h:p:=by omega):Ev:=⟨decide p=true,dc h⟩
abbrev oE(p:Prop)(h:p:=by omega):Ev:=⟨p,h⟩
abbrev JL(x:Int)(h:-9223372036854775808<=x∧x<=9223372036854775807:=by omega):Ev:=⟨T0 .i64 x,i0 h⟩
abbrev n8(x:Int)(h:0<=x∧x<=255:=by omega):Ev:=⟨T0 .u8 x,VT h⟩
theorem nT{x:Bool}(h:x=false):(!x)=true:=by rw[h]; rfl
theorem nF{x:Bool}(h:x=true):(!x)=false:=by rw[h]; rfl
def XU:List Ev->List Prop
 |[]=>[]
 |a::b=>a.p::XU b
theorem KQ:∀a:List Ev,J4 (XU a)
 |[]=>trivial
 |b::a=>⟨b.h,KQ a⟩
theorem Aq(f:Nat)(hs:List OH){k:List KI}{st:St}(b:aH)(es:List Ev)(rs:List (Nat×Nat×Nat))(a:List KI)(c:St)(d:aF D P body n w0 S Q a c)
  (h:Res.prune b [] (gz P body n f hs k st)=some ⟨XU es,aX rs,a,c⟩:=by kernel_rfl):aF D P body n w0 S Q k st:=di b [] h (KQ es) d
theorem lh{a:Func}(h:a.body.isSome=true):a.body=some (al a):=by
 obtain⟨c,b⟩:=cV.1 h;simp[al,b]
def rX:Nat->av->bu
 |_,[]=>[]
 |a,c::b=>(a,c)::rX (a+1) b
theorem ly:∀(d:av)(a b:Nat)(e:Value),gh (rX a d) b=some e->a<=b∧d[b-a]?=some e
 |[],_,_,_,c=>by cases c
 |k::d,a,b,e,c=>by
  simp only[rX,gh]at c
  split at c
  ·rename_i f
   have h:a=b:=bH f
   subst h
   simpa using c
  ·rename_i f
   have h:a≠b:=Nat.ne_of_beq_eq_false f
   obtain⟨l,i⟩:=ly d (a+1) b e c
   refine⟨by omega,?_⟩
   obtain⟨g,j⟩:∃g,b-a=g+1:=⟨b-a-1,by omega⟩
   rw[j,List.getElem?_cons_succ,<-i]
   congr 1
   omega
theorem mC{d:FuncId}{a:Func}{l:av}{w:World}{R:Ending->aI}{bk:ax}{wn:List Wn}
  (i:P.funcs[d]?=some a) (g:a.body=some body) (r:a.ntmps=n) (q:l.length<=n) (hm:ab w S bk wn w.z w)
  (h:aF [] P body n w S (bodyPost P a R) [.code []] ⟨rX 0 l,bk,wn,w.z⟩):Calls P d l.toArray w R:=by
 refine calls_of_wp i g ?_;have j:aa body []=body:=by cases body<;>rfl
 have c:=h { tmps:=l.toArray++Array.replicate (a.ntmps-l.toArray.size) undef,defers:=[] } w
  ⟨by simp; omega,rfl,λe f k=>by
   obtain⟨_,b⟩:=ly l 0 e f k;simp only[Nat.sub_zero]at b;have m:=(cF.1 b).1;rw[Array.getElem?_append_left (by simpa using m)];simpa using b⟩ hm
 simp only[sem,j]at c;exact wp_mono c λp o w b=>b
def pI(P:Program)(wn:List Wn)(bk:ax)(a:bu):List ResultVar->List (List MH)->Option (List Value×List ((Nat×Nat)×(Nat×Nat)))
 |[],_=>some ([],[])
 |.tmp i::b,d=>match gh a i with
  |some j=>match pI P wn bk a b d with
   |some (e,c)=>some (j::e,c)
   |none=>none
  |none=>none
 |.cell g l::b,h::d=>match gh a g with
  |some (.pointer (some k))=>match sB P wn bk (loadVar l k) h with
   |some f=>match pI P wn bk a b d with
    |some (e,c)=>some (f.v::e,f.eqs++c)
    |none=>none
   |none=>none
  |_=>none
 |.cell _ _::_,[]=>none
def Nn(tmps:Array Value):ResultVar->Sem Value
 |.tmp a=>pure (tmps.getD a undef)
 |.cell b a=>do loadVar a (<-asAddr (tmps.getD b undef))
theorem yV(fn:Func)(tmps:Array Value):results fn tmps=(fn.results.mapM (Nn tmps) >>= λc=>pure (if f:c.size=1 then c[0]else .tuple c)):=by
 have e:(λb=>match b with
   |ResultVar.tmp a=>(pure (tmps.getD a undef):Sem Value)
   |ResultVar.cell d a=>do loadVar a (<-asAddr (tmps.getD d undef)))=Nn tmps:=by
  funext b;cases b<;>rfl
 rw[<-e];rfl
def kH:av->Value
 |[b]=>b
 |a=>.tuple a.toArray
theorem uM{bk:ax}{wn:List Wn}{y:Nat}{x:bu}{a:Act}{w:World}(g:dy D n x a)(hm:ab w0 S bk wn y w) :
  ∀(l:List ResultVar)(e:List (List MH))(d:av)(c:List ((Nat×Nat)×(Nat×Nat))),pI P wn bk x l e=some (d,c)->kF c ->
  (l.mapM (Nn a.tmps)).run P w=.ok d w
 |[],_,d,c,b,_=>by
  simp only[pI,aB,bw]at b
  obtain⟨rfl,rfl⟩:=b
  rfl
 |.tmp u::f,e,d,c,b,h=>by
  simp only[pI]at b
  split at b
  ·rename_i v r
   split at b
   ·rename_i t s q
    simp only[aB,bw]at b
    obtain⟨rfl,rfl⟩:=b
    have m:=uM g hm f e t s q h
    have o:a.tmps.getD u undef=v:=by
     have:=g.val u v r;simp[this]
    rw[List.mapM_cons];simp only[Sem.run_bind,Nn,Sem.run_pure,m,o,dS]
   ·cases b
  ·cases b
 |.cell i C::f,[],d,c,b,_=>by simp[pI]at b
 |.cell i C::f,F::e,d,c,b,h=>by
  simp only[pI]at b;split at b
  ·rename_i k r;split at b
   ·rename_i E B;split at b
    ·rename_i t s q;simp only[aB,bw]at b;obtain⟨rfl,rfl⟩:=b;have m:=uM g hm f e t s q (λj p=>h j (d5 _ p));have o:a.tmps.getD i undef=.pointer (some k):=by
      have:=g.val i _ r;simp[this]
     have z:=oG P _ _ _ B (λj p=>h j (cE _ p)) y w hm;rw[List.mapM_cons];have A:(asAddr (.pointer (some k))).run P w=.ok k w:=rfl;simp only[Sem.run_bind,Nn,Sem.run_pure,m,o,A,z,dS]
    ·cases b
   ·cases b
  ·cases b
theorem jE{b:Func}{bk:ax}{wn:List Wn}{j:Nat}{d:bu}{a:Act}{w:World}(i:dy D n d a)(hm:ab w0 S bk wn j w)
  {hs:List (List MH)} {vs:av} {rs:List (Nat×Nat×Nat)} (h:pI P wn bk d b.results.toList hs=some (vs,aX rs)):(results b a.tmps).run P w=.ok (kH vs) w:=by
 have f:=uM i hm _ hs vs _ h (dX rs);have g:∀(c:ResultVar->Sem Value),b.results.mapM c=Functor.map List.toArray (b.results.toList.mapM c):=by
  intro c;rw[Array.mapM_eq_mapM_toList]
 rw[yV,g,<-bind_pure_comp,Sem.run_bind,Sem.run_bind,f];simp only[dS,Sem.run_pure]
 match vs with
 |[]=>rfl
 |[e]=>rfl
 |e::l::k=>simp[kH]
theorem KR{b:Func}{R:Ending->aI}{p:aH}{k:List KI}{st:St}{vs:av}{rs:List (Nat×Nat×Nat)}(hs:List (List MH))
  (l:aa body p=.ret) (h:pI P st.wn st.bk st.sl b.results.toList hs=some (vs,aX rs)) (i:∀a,ab w0 S st.bk st.wn st.sz a->R (.returned (kH vs)) a):aF [] P body n w0 S (bodyPost P b R) (.code p::k) st:=by
 intro c a d e;simp only[sem,l];refine wp_ret ?_;have g:∀(k:List KI),bodyPost P b R .ret c a->sem P body (bodyPost P b R) k .ret c a:=by
  intro k j
  induction k with
  |nil=>exact j
  |cons f k m=>cases f<;>exact m
 exact g k ⟨d.df,_,jE d e h,i a e⟩
theorem B1{b:Func}{R:Ending->aI}{p:aH}{k:List KI}{st:St}(hs:List (List MH))(vs:av)(rs:List (Nat×Nat×Nat))(c:∀a,ab w0 S st.bk st.wn st.sz a->R (.returned (kH vs)) a)
  (d:aa body p=.ret:=by kernel_rfl) (h:pI P st.wn st.bk st.sl b.results.toList hs=some (vs,aX rs):=by kernel_rfl):aF [] P body n w0 S (bodyPost P b R) (.code p::k) st:=KR hs d h c
theorem bN{b:Func}{R:Ending->aI}{st:St}{vs:av}{rs:List (Nat×Nat×Nat)}(hs:List (List MH))
  (h:pI P st.wn st.bk st.sl b.results.toList hs=some (vs,aX rs)) (e:∀a,ab w0 S st.bk st.wn st.sz a->R (.returned (kH vs)) a):aF [] P body n w0 S (bodyPost P b R) [] st:=by
 intro f a c d;exact⟨c.df,_,jE c d h,e a d⟩
def gg(P:Program)(ops:Array Oper)(b:bu)(i:Nat):Option (FuncId×List Value×Option Nat×List Prop):=
 match ops[i]? with
 |none=>none
 |some a=>match iw b a with
  |false=>none
  |true=>match CX P (execOp (RS b) a)with
   |some (.enter c args)=>match a.guard with
    |none=>some (c,args.toList,a.dst,[])
    |some (e,want)=>match (ops[e]?).bind (·.dst)with
     |none=>none
     |some f=>match gh b f with
      |some (.bool d)=>some (c,args.toList,a.dst,[d=want])
      |_=>none
   |_=>none
theorem ij{ops:Array Oper}{r:bu}{i:Nat}{f:FuncId}{args:av}{dst:bi}{ob:List Prop}{a:Act}{w:World}{K:Act->aI}{Q':Exit->Act->aI}
  (h:gg P ops r i=some (f,args,dst,ob)) (C:J4 ob) (q:dy D n r a) (z:Calls P f args.toArray w (λo s=>∃g,o=.returned g∧K (a.put dst g) s)):wpOp P ops Q' i K a w:=by
 unfold gg at h;split at h
 ·cases h
 ·rename_i e J;split at h
  ·cases h
  ·rename_i B;split at h
   ·rename_i p l E;have L:∀w,(execOp a.eval e).run P w=.ok (.enter p l) w:=by
     rw[q.RS B];exact lu P _ _ E
    have t:∀(_:p=f)(_:l.toList=args)(_:e.dst=dst)(_:Region.wanted e (yielded ops a.tmps)=true),wpOp P ops Q' i K a w:=by
     intro b c d G;have j:l=args.toArray:=by rw[<-c]
     simp only[wpOp,J,aA G];refine .inl ?_;simp only[Oper.wp,L,Oper.upon_enter];rw[b,j];refine z.mono λo s A=>?_;obtain⟨g,rfl,y⟩:=A;rw[d];exact y
    split at h
    ·rename_i k;simp only[aB,bw]at h;obtain⟨b,c,d,_⟩:=h;exact t b c d (by simp[Region.wanted,k])
    ·rename_i u M k;split at h
     ·cases h
     ·rename_i v F;split at h
      ·rename_i m I;simp only[aB,bw]at h;obtain⟨b,c,d,j⟩:=h;subst j;have x:m=M:=C.1;have H:yielded ops a.tmps u=some m:=by
        have:=q.val v _ I;simp[yielded,F,this]
       exact t b c d (by simp[Region.wanted,k,H,x])
      ·cases h
   ·cases h
theorem uN{p:aH}{i:Nat}{l:aH}{k:List KI}{st:St}{f:FuncId}{args:av}{dst:bi}{ob:List Prop}
  (h:gg P (aj (aa body p)) st.sl i=some (f,args,dst,ob)) (w:J4 ob)
  (t:∀b,ab w0 S st.bk st.wn st.sz b->Calls P f args.toArray b (λj o=>∃a d c g e,j=.returned a∧gw n st.sl dst a=some d∧ab w0 S c g e o∧aF D P body n w0 S Q (.ops p l::k) ⟨d,c,g,e⟩)) :
  aF D P body n w0 S Q (.ops p (i::l)::k) st:=by
 intro x b m v;simp only[sem];rw[wpOps_cons];refine ij h w m ((t b v).mono λj o u=>?_);obtain⟨a,d,c,g,e,rfl,q,r,s⟩:=u;exact⟨a,rfl,s _ _ (m.put q) r⟩
theorem C6{p:aH}{i:Nat}{l:aH}{k:List KI}{st:St}{f:FuncId}{args:av}{dst:bi}{ob:List Prop}(v:Value)(bk:ax){c:bu}
  (h:gg P (aj (aa body p)) st.sl i=some (f,args,dst,ob)) (t:J4 ob) (u:gw n st.sl dst v=some c)
  (o:∀b,ab w0 S st.bk st.wn st.sz b->Calls P f args.toArray b (λd a=>d=.returned v∧st.sz<=a.z∧ab w0 S bk st.wn a.z a))
  (r:∀e,st.sz<=e->aF D P body n w0 S Q (.ops p l::k) ⟨c,bk,st.wn,e⟩) :
  aF D P body n w0 S Q (.ops p (i::l)::k) st:=
 uN h t λb s=>(o b s).mono λd a q=>by
  obtain⟨g,j,m⟩:=q
  exact⟨v,c,bk,st.wn,a.z,g,u,m,r _ j⟩
def bf(v:Value)(w:World)(e:Ending)(a:World):Prop:=e=.returned v∧au z8 w a
theorem rZ{p:aH}{i:Nat}{l:aH}{k:List KI}{st:St}{f:FuncId}{args:av}{dst:bi}{ob:List Prop}(v:Value){e:bu}
  (h:gg P (aj (aa body p)) st.sl i=some (f,args,dst,ob)) (w:J4 ob) (x:gw n st.sl dst v=some e)
  (s:∀b,ab w0 S st.bk st.wn st.sz b->Calls P f args.toArray b (bf v b))
  (u:∀j,st.sz<=j->aF D P body n w0 S Q (.ops p l::k) ⟨e,st.bk,st.wn,j⟩) :
  aF D P body n w0 S Q (.ops p (i::l)::k) st:=
 uN h w λb a=>(s b a).mono λy c t=>by
  obtain⟨q,d⟩:=t
  have g:st.sz<=c.z∧ab w0 S st.bk st.wn c.z c:=
   ⟨a.size▸d.size,rfl,λm r=>(a.zq m r).x2 d id,a.own,a.nd,a.x2.trans d (λ_ _ o=>o.elim),a.Ww⟩
  exact⟨v,e,st.bk,st.wn,c.z,q,x,g.2,u _ g.1⟩
theorem W3{p:aH}{i:Nat}{l:aH}{k:List KI}{st:St}(v:Value)(f:FuncId)(args:av)(dst:bi)(ob:List Prop){b:bu}(g:J4 ob)(j:gw n st.sl dst v=some b)
  (d:∀a,ab w0 S st.bk st.wn st.sz a->Calls P f args.toArray a (bf v a))
  (e:∀c,st.sz<=c->aF D P body n w0 S Q (.ops p l::k) ⟨b,st.bk,st.wn,c⟩) (h:gg P (aj (aa body p)) st.sl i=some (f,args,dst,ob):=by kernel_rfl) :
  aF D P body n w0 S Q (.ops p (i::l)::k) st:=rZ v h g j d e
def No:Code->Bool
 |.loop _=>true
 |_=>false
theorem ge{p:aH}{k:List KI}{st:St}(d:Nat->St->Prop)(q:Nat)(o:No (aa body p)=true)(h0:d q st)
  (round:∀b a,d b a->∀h:Act->aI,(∀c g,c<b->d c g->aF D P body n w0 S Q (.inv h::k) g)->aF D P body n w0 S Q (.code (p++[0])::.inv h::k) a) :
  aF D P body n w0 S Q (.code p::k) st:=by
 obtain⟨i,m⟩:∃i,aa body p=.loop i:=by
  cases t:aa body p<;>rw[t]at o<;>first|exact⟨_,rfl⟩|cases o
 intro e f w x;simp only[sem,m];refine wp_loop_ghost (λb e f=>∃a,d b a∧dy D n a.sl e∧ab w0 S a.bk a.wn a.sz f) q ⟨st,h0,w,x⟩ ?_;rintro b e f ⟨a,v,z,B⟩;have l:=round b a v (λj r=>∃c,c<b∧∃a,d c a∧dy D n a.sl j∧ab w0 S a.bk a.wn a.sz r) (λc g A y j r C E=>⟨c,A,g,y,C,E⟩) e f z B;simp only[sem,cg,m,aa]at l;refine wp_mono l λs e f u=>?_;cases s<;>exact u
theorem aD{k:List KI}{st:St}(wn:List Wn)(hw:ab w0 S st.bk st.wn st.sz=ab w0 S st.bk st.wn st.sz->∀a∈wn,¬S a.g∧a.g<w0.z∧∀c d,a.cs[c]?=some d->w0.cell? ⟨a.g,a.o+c,none⟩=some d)
  (h:aF D P body n w0 S Q k ⟨st.sl,st.bk,wn,st.sz⟩):aF D P body n w0 S Q k st:=
 λe f g b=>h e f g ⟨b.size,b.zq,b.own,b.nd,b.x2,hw rfl⟩
theorem ab.start{bk:ax}{wn:List Wn}{w:World}{S:br}(g:∀a∈bk,A2 w a.g a.t a.cs)(i:∀a∈bk,a.rw=true->S a.g)(h:(bk.map (·.g)).Nodup)
  (hw:∀b∈wn,¬S b.g∧b.g<w.z∧∀c d,b.cs[c]?=some d->w.cell? ⟨b.g,b.o+c,none⟩=some d):ab w S bk wn w.z w:=
 ⟨rfl,g,λa e f=>.inl (i a e f),h,au.refl _ _,hw⟩
theorem ab.none(w:World)(S:br):ab w S [] [] w.z w:=
 ab.start (λ_ a=>by cases a) (λ_ a=>by cases a) z1 (λ_ a=>by cases a)
theorem Iq{w:World}:∀(d:ax),J4 (d.map λa=>A2 w a.g a.t a.cs)->∀a∈d,A2 w a.g a.t a.cs
 |[],_,_,b=>by cases b
 |f::e,b,a,c=>by
  rcases bj.1 c with rfl|c
  ·exact b.1
  ·exact Iq e b.2 a c
theorem ab.at_{bk:ax}{wn:List Wn}{c:Nat}{w:World}(h:ab w0 S bk wn c w)(i:Nat){b:Bk}(a:bk[i]?=some b):A2 w b.g b.t b.cs:=h.zq b (aS a)
theorem ab.same{bk:ax}{wn:List Wn}{c:Nat}{w a:World}(h:ab w0 S bk wn c w)(b:au z8 w a):c<=a.z∧ab w0 S bk wn a.z a:=
 ⟨h.size▸b.size,rfl,λd f=>(h.zq d f).x2 b id,h.own,h.nd,h.x2.trans b (λ_ _ e=>e.elim),h.Ww⟩
theorem ab.add{bk:ax}{wn:List Wn}{g:Nat}{w d:World}(h:ab w0 S bk wn g w)(n:au z8 w d)(c:ax)(m:J4 (c.map λa=>A2 d a.g a.t a.cs))(i:∀a∈c,g<=a.g)(o:(c.map (·.g)).Nodup) :
  g<=d.z∧ab w0 S (bk++c) wn d.z d:=by
 have f:=h.same n;refine⟨f.1,rfl,λa e=>?_,λa e p=>?_,?_,f.2.x2,h.Ww⟩
 ·rcases dG.1 e with b|b
  ·exact f.2.zq a b
  ·exact Iq c m a b
 ·rcases dG.1 e with b|b
  ·exact h.own a b p
  ·right;have k:=i a b;have u:=h.x2.size;have v:=h.size;omega
 ·rw[List.map_append,List.nodup_append];refine⟨h.nd,o,λs l a e=>?_⟩;obtain⟨t,q,rfl⟩:=aT.1 l;obtain⟨j,r,rfl⟩:=aT.1 e;have b:=h.lt q;have k:=i j r;omega
theorem ab.PA{bk:ax}{wn:List Wn}{l:Nat}{w c:World}(h:ab w0 S bk wn l w)(i:Nat){b:Bk}{cs:av}(f:bk[i]?=some b)(k:b.rw=true)(g:au (λj=>j=b.g) w c)(p:A2 c b.g b.t cs) :
  l<=c.z∧ab w0 S (bk.set i { b with cs:=cs }) wn c.z c:=by
 have m:b∈bk:=aS f;refine⟨h.size▸g.size,rfl,λd e=>?_,λd e s=>?_,by rw[xG f]; exact h.nd,h.x2.trans g (λj t n=>?_),h.Ww⟩
 ·obtain⟨o,a⟩:=List.mem_iff_getElem?.1 e;rw[List.getElem?_set]at a;split at a
  ·split at a
   ·simp only[aB]at a;subst a;exact p
   ·cases a
  ·rename_i r;exact(h.zq d (aS a)).x2 g (λq=>r (xF h.nd f a q.symm))
 ·obtain⟨o,a⟩:=List.mem_iff_getElem?.1 e;rw[List.getElem?_set]at a;split at a
  ·split at a
   ·simp only[aB]at a;subst a;exact h.own b m k
   ·cases a
  ·exact h.own d (aS a) s
 ·subst n;exact(h.own b m k).resolve_right yq
end
variable {P:Program}{n:Nat}{S:br}
theorem DV{D:List Deferred}{body:Code}{w0:World}{Q:Exit->Act->aI}{p:aH}{i:Nat}{l:aH}{k:List KI}{b:bu}{bk:ax}{wn:List Wn}{z:Nat}(v:Value)(f:FuncId)(args:av)(dst:bi)(ob:List Prop){V9:bu}(g:J4 ob)(j:gw n b dst v=some V9)(d:∀a,ab w0 S bk wn z a->Calls P f args.toArray a (bf v a))(e:∀c,z<=c->aF D P body n w0 S Q (.ops p l::k) ⟨V9,bk,wn,c⟩)(h:gg P (aj (aa body p)) b i=some (f,args,dst,ob):=by kernel_rfl):aF D P body n w0 S Q (.ops p (i::l)::k) ⟨b,bk,wn,z⟩:=W3 v f args dst ob g j d e h
def rE(n:Nat)(e:Ev):List Ev:=List.replicate n e
theorem cH{b:FuncId}{a:Func}{l:av}{w:World}{R:Ending->aI}{bk:ax}{wn:List Wn}(d:P.funcs[b]?=some a)(hm:ab w S bk wn w.z w)(h:aF [] P (al a) n w S (bodyPost P a R) [.code []] ⟨rX 0 l,bk,wn,w.z⟩)(c:a.body.isSome=true:=by kernel_rfl)(f:a.ntmps=n:=by kernel_rfl)(e:l.length<=n:=by simp):Calls P b l.toArray w R:=mC d (lh c) f e hm h
def dz:Nat->Nat->List OH
 |0,_=>[]
 |n+1,a=>match a%16 with
  |0=>⟨false,0,[]⟩::dz n (a/16)
  |1=>⟨true,0,[]⟩::dz n (a/16)
  |2=>⟨false,1,[]⟩::dz n (a/16)
  |3=>⟨false,2,[]⟩::dz n (a/16)
  |4=>⟨false,3,[]⟩::dz n (a/16)
  |5=>⟨true,1,[]⟩::dz n (a/16)
  |6=>⟨true,2,[]⟩::dz n (a/16)
  |7=>⟨true,3,[]⟩::dz n (a/16)
  |b=>⟨b==9,0,[⟨false,a/16%16,a/256%256,a/65536%256⟩]⟩::dz n (a/16777216)
def YU(P:Program)(body:Code)(n f:Nat)(hs:List OH)(k:List KI)(st:St)(b:aH):bu:=match Res.prune b [] (gz P body n f hs k st)with
 |some a=>a.st.sl
 |none=>[]
theorem z6{D:List Deferred}{body:Code}{w0:World}{Q:Exit->Act->aI}(f:Nat)(hs:List OH){k:List KI}{st:St}(a:aH)(es:List Ev)(rs:List (Nat×Nat×Nat))(b:List KI)(bk:ax)(wn:List Wn)(c:Nat)(d:aF D P body n w0 S Q b ⟨YU P body n f hs k st a,bk,wn,c⟩)(h:Res.prune a [] (gz P body n f hs k st)=some ⟨XU es,aX rs,b,⟨YU P body n f hs k st a,bk,wn,c⟩⟩:=by kernel_rfl):aF D P body n w0 S Q k st:=di a [] h (KQ es) d
section
variable {P:Program}{ops:Array Oper}{md:Region.Mode}{C:aI}
def C7(P:Program)(md:Region.Mode)(ops:Array Oper)(C:aI)(n:Nat)(L:cj->Act->Prop):Nat->cj->Act->Prop
 |0,a,b=>L a b
 |d+1,a,b=>Region.ready md ops a≠[]∧∀c∈Region.ready md ops a,c<n∧qOp P ops C c (C7 P md ops C n L d (a.setIfInBounds c true)) b
theorem mD{n g:Nat}{L:cj->Act->Prop}{Q':Exit->Act->aI}(h:∀c a b,C b->L c a->wpAny P md ops Q' g c a b) :
  ∀(d:Nat)(c:cj)(a:Act)(b:World),C b->C7 P md ops C n L d c a->wpAny P md ops Q' (d+g) c a b
 |0,c,a,b,f,e=>by rw[bG]; exact h _ _ _ f e
 |d+1,c,a,b,f,e=>by
  rw[show d+1+g=(d+g)+1 by omega]
  exact⟨λl=>absurd l e.1,λi m=>wpOp_of_qOp f (λj o p k=>mD h d _ j o p k) (e.2 i m).2⟩
theorem Fg{n:Nat}{d:cj}(hs:Region.sinkB md ops n=true)(A:n<ops.size)(inv:HeadInv md ops n d) :
  ∀(e b:Nat),n-b=e->b<n->d.getD b true=false->n ∉ Region.ready md ops d:=by
 intro e
 induction e using Nat.strongRecOn with
 |_ e t=>
  intro b z r p j;obtain⟨_,u,x,y⟩:=mem_ready.1 j;have q:=bE.1 hs b (bn.2 r);obtain⟨a,s,l⟩:=dN.1 q;simp only[ch,decide_eq_true_eq]at l;obtain⟨k,m,f,h,g,o⟩:=Region.waitsFor_spec l.2;have B:a<=n:=by have:=bn.1 s; omega
  by_cases w:a=n
  ·subst w;have:k=u:=ap (m.symm.trans x);subst this;have c:=y f h g;rw[o,getD_both p]at c;cases c
  ·cases i:d.getD a false with
   |true=>
    have c:=inv.closed a k m i f h g;rw[o,getD_both p]at c;cases c
   |false=>
    have v:a<d.size:=by rw[inv.size]; omega
    exact t (n-a) yq a rfl yq (getD_in v i) j
def Ir(md:Region.Mode)(ops:Array Oper)(n:Nat):Bool:=
 (List.range ops.size).all λa=>decide (a<=n)||(List.range a).any λb=>decide (n<=b)&&Region.waitsFor md ops a b
theorem r8{n:Nat}{d:cj}(hs:Region.sinkB md ops n=true)(l:Ir md ops n=true)(q:n<ops.size)(inv:HeadInv md ops n d){i:Nat}(o:i<n)(w:d.getD i true=false) :
  ∀a,n<=a->a ∉ Region.ready md ops d:=by
 intro a A g;by_cases v:a=n
 ·subst v;exact Fg hs q inv _ i rfl o w g
 ·obtain⟨_,s,h,x⟩:=mem_ready.1 g;have z:a<ops.size:=(dp.1 h).1;have b:=bE.1 l a (bn.2 z);simp only[ej,decide_eq_true_eq]at b;rcases b with b|b
  ·omega
  ·obtain⟨e,p,c⟩:=dN.1 b;simp only[ch,decide_eq_true_eq]at c;obtain⟨r,t,j,m,k,u⟩:=Region.waitsFor_spec c.2;have:r=s:=ap (t.symm.trans h);subst this;have f:=x j m k;have y:e<ops.size:=by have:=bn.1 p; omega
   rw[u,getD_both (inv.tail e c.1 y)]at f;cases f
theorem C8{n i:Nat}{m:Oper}{v:Value}{L:cj->Act->Prop}(x:ops[i]?=some m)(H:∀(a:Nat)(z:Oper) r p,ops[a]?=some z->z.op≠.select r p)
  (hs:Region.sinkB md ops n=true) (B:Ir md ops n=true) (D:n<ops.size) (E:i<n)
  (W:∀b g,L b g->∀a∈Region.ready md ops b,n<=a) :
  ∀(q:Nat)(b:cj)(g:Act),HeadInv md ops n b ->
   (∀a j,ops[a]?=some j->a≠i->b.getD a true=false->(∀d∈j.after,Region.binds md d=true->d.on≠i)->m.apart ops j=true) ->
   i∈Region.ready md ops b->YieldsIn P ops C m v g ->
   C7 P md ops C n L q (b.setIfInBounds i true) (g.put m.dst v)->C7 P md ops C n L (q+1) b g:=by
 intro q
 induction q with
 |zero=>
  intro b g inv _ e u o;have k:=(mem_ready.1 e).1;refine⟨λc=>(by rw[c]at e; cases e),λa h=>?_⟩;have w:a<n:=by
   rcases Nat.lt_or_ge a n with c|c
   ·exact c
   ·exact absurd h (r8 hs B D inv E k a c)
  refine⟨w,?_⟩;by_cases f:a=i
  ·subst f; exact u.qOp x o
  ·have:=W _ _ o a (ready_mono h f);omega
 |succ q Q=>
  intro b g inv I e u o;have k:=(mem_ready.1 e).1;refine⟨λc=>(by rw[c]at e; cases e),λa h=>?_⟩;have w:a<n:=by
   rcases Nat.lt_or_ge a n with c|c
   ·exact c
   ·exact absurd h (r8 hs B D inv E k a c)
  refine⟨w,?_⟩;by_cases f:a=i
  ·subst f; exact u.qOp x o
  ·have t:=(o.2 a (ready_mono h f)).2;obtain⟨G,j,y,U⟩:=mem_ready.1 h;have V:∀d∈j.after,Region.binds md d=true->d.on≠i:=λd N M R=>by
    have t:=U d N M;rw[R,getD_both k]at t;cases t
   have K:=qOp_put y (I a j y f G V) (λr p=>H i m r p x) (λr p=>H a j r p y) u t;have X:∀l s,ops[l]?=some s->l≠i->(b.setIfInBounds a true).getD l true=false ->
     (∀d∈s.after,Region.binds md d=true->d.on≠i)->m.apart ops s=true:=λl s O S k T=>by
    refine I l s O S ?_ T;by_cases F:a=l
    ·subst F; exact G
    ·rw[getD_set_ne true F]at k; exact k
   refine qOp_mono (λJ A=>Q (b.setIfInBounds a true) J (inv.set h w) X (ready_mono e (Ne.symm f)) A.1 ?_) K;rw[Array.setIfInBounds_comm _ _ f];exact A.2
def C9(md:Region.Mode)(ops:Array Oper):Nat->Nat->cj->Option (cj)
 |0,_,a=>some a
 |c+1,b,a=>match ((Region.ready md ops a).contains b&&Region.free md ops a b)with
  |true=>C9 md ops c (b+1) (a.setIfInBounds b true)
  |false=>none
theorem xJ{n:Nat}{i:Act->Prop}{ls:cj}(t:Region.noSelect ops=true)(hs:Region.sinkB md ops n=true)(m:Ir md ops n=true)(p:n<ops.size)(q:∀c∈Region.ready md ops ls,n<=c) :
  ∀(b:List Oper)(a:Nat)(e:cj)(f:Act),(∀c,c<b.length->b[c]?=ops[a+c]?)->a+b.length=n->HeadInv md ops n e ->
  C9 md ops b.length a e=some ls->wpQuiet P ops C i b f ->
  C7 P md ops C n (λu l=>u=ls∧i l) b.length e f
 |[],a,e,f,_,j,_,d,h=>by
  simp only[List.length_nil,C9,aB]at d
  exact⟨d,h⟩
 |v::b,a,e,f,o,j,inv,d,h=>by
  have g:ops[a]?=some v:=by simpa using(o 0 (by simp)).symm
  simp only[List.length_cons,C9]at d
  split at d
  ·rename_i k
   simp only[ch]at k
   have r:a<n:=by simp only[List.length_cons]at j; omega
   have s:a∈Region.ready md ops e:=by simpa using k.1
   have z:qOp P ops C a (wpQuiet P ops C i b) f:=by unfold qOp; simp only[g]; exact h
   obtain⟨A,y,w⟩:=yieldsIn_of_qOp g z
   exact C8 g (Region.noSelect_spec t) hs m p r (λu l x=>by rw[x.1]; exact q) b.length e f inv (Region.free_spec g k.2) s y
    (xJ t hs m p q b (a+1) _ _ (λc B=>by have:=o (c+1) (by simp; omega); simpa[Nat.add_assoc,Nat.add_comm 1 c]using this) (by simp only[List.length_cons]at j; omega) (inv.set s r) d w)
  ·cases d
def TU(ops:Array Oper)(n:Nat):Option (cj):=
 match (Region.noSelect ops&&Region.sinkB .any ops n&&Ir .any ops n&&decide (n<ops.size))with
 |true=>match C9 .any ops n 0 (Array.replicate ops.size false)with
  |some a=>match (Region.ready .any ops a).all (λb=>decide (n<=b))with
   |true=>some a
   |false=>none
  |none=>none
 |false=>none
theorem xa{y n:Nat}{Q:Exit->Act->aI}{a:Act}{w:World}{ls:cj}(hm:P.follows .mixedOrders=true)(b:TU ops n=some ls)(q:C { w with drawn:=w.drawn+1 })
  (h:wpQuiet P ops C (λo=>∀l,C l->wpAny P .any ops Q (ops.size-n) ls o l) (ops.toList.take n) a):(Code.region y ops true).wp P Q a w:=by
 unfold TU at b;split at b
 ·rename_i j;simp only[ch,decide_eq_true_eq]at j;obtain⟨⟨⟨B,u⟩,r⟩,s⟩:=j;split at b
  ·rename_i m z;split at b
   ·rename_i A;simp only[aB]at b;subst b;have t:∀c∈Region.ready .any ops m,n<=c:=λc d=>by simpa using bE.1 A c d
    have e:(ops.toList.take n).length=n:=by simp; omega
    have D:HeadInv .any ops n (Array.replicate ops.size false):=
     ⟨z1,λc F _ k=>(by rw[getD_replicate_false]at k; cases k),λE _ v=>getD_in (by simpa using v) (getD_replicate_false _ _)⟩
    refine wp_region_any hm ?_;have p:=xJ (md:=.any) (n:=n) (ls:=m) B u r s t (ops.toList.take n) 0 _ a (λc d=>by
     rw[e]at d;rw[List.getElem?_take,aA d];simp) (by rw[e]; omega) D (by rw[e]; exact z) h
    have f:=mD (g:=ops.size-n) (Q':=Q) (λG a w x i=>by rw[i.1]; exact i.2 w x) _ _ a _ q p;rw[e,show n+(ops.size-n)=ops.size by omega]at f;exact f
   ·cases b
  ·cases b
 ·cases b
end
inductive QH where
 |op (h:OH)
 |call (v:Value)
def fU(w0:World)(S:br)(bk:ax)(wn:List Wn)(a:Nat)(w:World):Prop:=a<=w.z∧ab w0 S bk wn w.z w
def n5(P:Program)(n:Nat)(w0:World)(S:br)(o:Oper)(st:St):QH->Option Out
 |.op d=>match iw st.sl o with
  |false=>none
  |true=>match d.ov with
   |0=>match sB P st.wn st.bk (execOp (RS st.sl) o) d.hs with
    |some ⟨.value a,_,_,h⟩=>match gw n st.sl o.dst a with
     |some b=>some ⟨[],h,{ st with sl:=b }⟩
     |none=>none
    |_=>none
   |f+1=>match ov P (RS st.sl) f o.op with
    |some (a,g)=>match gw n st.sl o.dst a with
     |some b=>some ⟨[g],[],{ st with sl:=b }⟩
     |none=>none
    |none=>none
 |.call a=>match iw st.sl o with
  |false=>none
  |true=>match CX P (execOp (RS st.sl) o)with
   |some (.enter e args)=>match gw n st.sl o.dst a with
    |some b=>some ⟨[∀c,fU w0 S st.bk st.wn st.sz c->Calls P e args c (bf a c)],[],{ st with sl:=b }⟩
    |none=>none
   |_=>none
def fp(P:Program)(n:Nat)(w0:World)(S:br):List Oper->St->List QH->Option Out
 |[],c,_=>some ⟨[],[],c⟩
 |_::_,_,[]=>none
 |d::f,c,e::g=>match d.guard with
  |some _=>none
  |none=>match n5 P n w0 S d c e with
   |none=>none
   |some a=>match fp P n w0 S f a.st g with
    |none=>none
    |some b=>some ⟨a.ob++b.ob,a.eqs++b.eqs,b.st⟩
section
variable {D:List Deferred}{P:Program}{n:Nat}{w0:World}{S:br}{ops:Array Oper}
theorem pJ{o:Oper}{st:St}{h:QH}{r:Out}(a:n5 P n w0 S o st h=some r):r.st.bk=st.bk∧r.st.wn=st.wn∧r.st.sz=st.sz:=by
 unfold n5 at a;split at a
 ·split at a
  ·cases a
  ·split at a
   ·split at a
    ·split at a
     ·simp only[aB]at a; subst a; exact⟨rfl,rfl,rfl⟩
     ·cases a
    ·cases a
   ·split at a
    ·split at a
     ·simp only[aB]at a; subst a; exact⟨rfl,rfl,rfl⟩
     ·cases a
    ·cases a
 ·split at a
  ·cases a
  ·split at a
   ·split at a
    ·simp only[aB]at a; subst a; exact⟨rfl,rfl,rfl⟩
    ·cases a
   ·cases a
theorem r9{o:Oper}{st:St}{h:QH}{r:Out}(b:n5 P n w0 S o st h=some r)(q:J4 r.ob)(t:kF r.eqs){a:Act}(g:dy D n st.sl a){K:Act->Prop}
  (k:∀p,dy D n r.st.sl p->K p):o.quiet P a (fU w0 S st.bk st.wn st.sz) K:=by
 unfold n5 at b;split at b
 ·rename_i z;split at b
  ·cases b
  ·rename_i l;have j:=g.RS l;split at b
   ·split at b
    ·rename_i e x A y m;split at b
     ·rename_i s i;simp only[aB]at b;subst b;refine⟨e,λc d=>?_,k _ (g.put i)⟩;have f:=oG P _ _ _ m t _ c d.2;simp only[Oper.quietAt,j,f,Oper.quietUpon];exact⟨trivial,trivial⟩
     ·cases b
    ·cases b
   ·split at b
    ·rename_i e w u;split at b
     ·rename_i s i;simp only[aB]at b;subst b;refine⟨e,λc d=>?_,k _ (g.put i)⟩;have f:=mB u q.1 c;simp only[Oper.quietAt,j,f,Oper.quietUpon];exact⟨trivial,trivial⟩
     ·cases b
    ·cases b
 ·rename_i e;split at b
  ·cases b
  ·rename_i l;have j:=g.RS l;split at b
   ·rename_i v B m;split at b
    ·rename_i s i;simp only[aB]at b;subst b;refine⟨e,λc d=>?_,k _ (g.put i)⟩;have f:=lu P _ _ m c;simp only[Oper.quietAt,j,f,Oper.quietUpon];exact⟨trivial,(q.1 c d).mono λ_ _ b=>⟨b.1,az d.1 b.2.size,(d.2.same b.2).2⟩⟩
    ·cases b
   ·cases b
theorem mE:∀(e:List Oper)(a:St)(h:List QH)(c:Out),fp P n w0 S e a h=some c->J4 c.ob->kF c.eqs->∀(g:Act),dy D n a.sl g->∀(K:Act->Prop),
  (∀d,dy D n c.st.sl d->K d)->wpQuiet P ops (fU w0 S a.bk a.wn a.sz) K e g∧c.st.bk=a.bk∧c.st.wn=a.wn∧c.st.sz=a.sz
 |[],a,h,c,b,_,_,g,k,K,j=>by
  simp only[fp,aB]at b
  subst b
  exact⟨j g k,rfl,rfl,rfl⟩
 |l::e,a,[],c,b,_,_,_,_,_,_=>by cases b
 |l::e,a,H::h,c,b,y,p,g,k,K,j=>by
  simp only[fp]at b
  split at b
  ·cases b
  ·rename_i F
   split at b
   ·cases b
   ·rename_i r m
    split at b
    ·cases b
    ·rename_i f w
     simp only[aB]at b
     subst b
     obtain⟨A,B⟩:=iI y
     obtain⟨t,u,v⟩:=pJ m
     have z:Region.wanted l (yielded ops g.tmps)=true:=by simp[Region.wanted,F]
     have G:∀d,dy D n r.st.sl d->wpQuiet P ops (fU w0 S a.bk a.wn a.sz) K e d∧f.st.bk=a.bk∧f.st.wn=a.wn∧f.st.sz=a.sz:=λd E=>by
      have o:=mE e r.st h f w B (λi b=>p i (d5 _ b)) d E K j
      rw[t,u,v]at o
      exact o
     have x:=r9 m A (λi b=>p i (cE _ b)) k (K:=λd=>wpQuiet P ops (fU w0 S a.bk a.wn a.sz) K e d∧f.st.bk=a.bk∧f.st.wn=a.wn∧f.st.sz=a.sz) G
     obtain⟨s,C,q⟩:=x
     refine⟨?_,q.2⟩
     simp only[wpQuiet,aA z]
     exact⟨s,C,q.1⟩
variable {body:Code}{Q:Exit->Act->aI}
def jf:Code->Bool
 |.region _ _ true=>true
 |_=>false
theorem iU{c:Code}(h:jf c=true):∃a,c=.region a (aj c) true:=by
 cases c<;>simp only[jf,Bool.false_eq_true]at h
 rename_i a ops b;cases b
 ·cases h
 ·exact⟨a,rfl⟩
def Out.prune(b:aH):Option Out->Option Out
 |some a=>some ⟨a.ob,a.eqs,Go.Proofs.YtcmpkkapkdlfhaaGreat.Nm b [] a.st⟩
 |none=>none
theorem kI{b:aH}{x:Option Out}{o:Out}(h:Out.prune b x=some o):∃a,x=some a∧a.ob=o.ob∧a.eqs=o.eqs∧Go.Proofs.YtcmpkkapkdlfhaaGreat.Nm b [] a.st=o.st:=by
 cases x with
 |none=>cases h
 |some a=>
  simp only[Out.prune,aB]at h;subst h;exact⟨a,rfl,rfl,rfl,rfl⟩
theorem eT{p:aH}{k:List KI}{st s:St}{f:Nat}{ls:cj}{ob:List Prop}{rs:List (Nat×Nat×Nat)}(m:Nat)(hs:List QH)(l:aH)
  (b:jf (aa body p)=true) (hm:P.follows .mixedOrders=true) (x:TU (aj (aa body p)) m=some ls) (F:(aj (aa body p)).size-m=f)
  (h:Out.prune l (fp P n w0 S ((aj (aa body p)).toList.take m) st hs)=some ⟨ob,aX rs,s⟩) (B:J4 ob)
  (z:∀o,st.sz<=o->aF D P body n w0 S Q (.any p f ls::k) ⟨s.sl,st.bk,st.wn,o⟩):aF D P body n w0 S Q (.code p::k) st:=by
 intro t G y a;obtain⟨H,b⟩:=iU b;generalize aj (aa body p)=ops at *;subst F;obtain⟨u,E,g,i,j⟩:=kI h;dsimp only at g i j;simp only[sem,b];refine xa (C:=fU w0 S st.bk st.wn st.sz) hm x ⟨bC a.size.symm,?_⟩ ?_
 ·exact⟨rfl,a.zq,a.own,a.nd,a.x2.drew,a.Ww⟩
 ·refine(mE _ st hs u E (by rw[g]; exact B) (by rw[i]; exact dX rs) t y _ λv c q r=>?_).1;have w:=z q.z r.1 v q ?_ r.2
  ·simpa only[sem,b,aj]using w
  ·rw[<-j];exact⟨c.size,c.df,λd e A=>c.val d e (dU l d e A)⟩
theorem C'{p:aH}{k:List KI}{st q:St}{ob:List Prop}{rs:List (Nat×Nat×Nat)}(hs:List QH)(j:aH)
  (b:jf (aa body p)=true) (hm:P.follows .mixedOrders=true) (u:Region.lexB .any (aj (aa body p))=true)
  (h:Out.prune j (fp P n w0 S (aj (aa body p)).toList st hs)=some ⟨ob,aX rs,q⟩) (y:J4 ob)
  (w:∀l,st.sz<=l->aF D P body n w0 S Q k ⟨q.sl,st.bk,st.wn,l⟩):aF D P body n w0 S Q (.code p::k) st:=by
 intro r A v a;obtain⟨B,b⟩:=iU b;generalize aj (aa body p)=ops at *;obtain⟨s,z,f,g,i⟩:=kI h;dsimp only at f g i;simp only[sem,b];refine wp_region_quiet (C:=fU w0 S st.bk st.wn st.sz) hm u ⟨bC a.size.symm,?_⟩ ?_
 ·exact⟨rfl,a.zq,a.own,a.nd,a.x2.drew,a.Ww⟩
 ·refine(mE _ st hs s z (by rw[f]; exact y) (by rw[g]; exact dX rs) r v _ λt c m o=>?_).1;refine w m.z o.1 t m ?_ o.2;rw[<-i];exact⟨c.size,c.df,λd e x=>c.val d e (dU j d e x)⟩
def nI(Q:Exit->Act->aI):Prop:=∀b (a c:Act) w,a.defers=c.defers->Q (.panic b) a w->Q (.panic b) c w
theorem cW{c:Func}{R:Ending->aI}:nI (bodyPost P c R):=λ_ _ _ _ b a=>⟨b▸a.1,a.2⟩
theorem sa(h:nI Q):∀(a:List KI),nI (sem P body Q a)
 |[]=>h
 |e::a=>λc b f d g i=>by
  have j:=sa h a c b f d g
  cases e<;>exact j i
def Np(P:Program)(n:Nat)(ops:Array Oper)(ls:cj)(st:St)(i:Nat):Option (bu):=
 match ops[i]? with
 |none=>none
 |some a=>match (Region.noSelect ops&&(Region.ready .any ops ls).contains i&&Region.free .any ops ls i&&a.guard.isNone&&iw st.sl a)with
  |false=>none
  |true=>match CX P (execOp (RS st.sl) a)with
   |some (.value b)=>gw n st.sl a.dst b
   |_=>none
theorem oH(a:Act)(d:bi)(v:Value):(a.put d v).defers=a.defers:=by cases d<;>rfl
theorem Fh{p:aH}{k:List KI}{st:St}{f i:Nat}{ls:cj}{l:bu}(u:nI Q)
  (h:Np P n (aj (aa body p)) ls st i=some l) (w:aF D P body n w0 S Q (.any p f (ls.setIfInBounds i true)::k) ⟨l,st.bk,st.wn,st.sz⟩) :
  aF D P body n w0 S Q (.any p (f+1) ls::k) st:=by
 intro b a g x;unfold Np at h;split at h
 ·cases h
 ·rename_i c j;split at h
  ·cases h
  ·rename_i e;simp only[ch]at e;obtain⟨⟨⟨⟨o,q⟩,r⟩,s⟩,t⟩:=e;split at h
   ·rename_i d z;have B:=lu P _ _ z;have v:c.guard=none:=by simpa using s
    have A:Yields P (aj (aa body p)) c d b:=.inl ⟨by simp[Region.wanted,v],λa=>by rw[g.RS t]; exact B a⟩;simp only[sem];refine wpAny_first j (Region.noSelect_spec o) (λm b a y=>sa u k m _ _ a (oH b c.dst d) y) f ls b a (Region.free_spec j r) (by simpa using q) A ?_;exact w _ a (g.put h) x
   ·cases h
def fY(P:Program)(n:Nat)(ops:Array Oper):Nat->cj->St->List (Nat×Bool×OH)->Option (Out×Nat×cj)
 |d,b,a,[]=>some (⟨[],[],a⟩,d,b)
 |0,_,_,_::_=>none
 |d+1,b,a,(c,true,_)::f=>match Np P n ops b a c with
  |some k=>fY P n ops d (b.setIfInBounds c true) ⟨k,a.bk,a.wn,a.sz⟩ f
  |none=>none
 |d+1,b,a,(c,false,h)::f=>match Region.ready .any ops b with
  |[i]=>match Nat.beq c i with
   |true=>match jd P n ops a c h with
    |some e=>match fY P n ops d (b.setIfInBounds c true) e.st f with
     |some (g,j,l)=>some (⟨e.ob++g.ob,e.eqs++g.eqs,g.st⟩,j,l)
     |none=>none
    |none=>none
   |false=>none
  |_=>none
theorem mF{p:aH}{k:List KI}(o:nI Q):∀(f:List (Nat×Bool×OH))(c:Nat)(h:cj)(i:St)(b:Out)(d:Nat)(e:cj),fY P n (aj (aa body p)) c h i f=some (b,d,e)->J4 b.ob->kF b.eqs ->
  aF D P body n w0 S Q (.any p d e::k) b.st->aF D P body n w0 S Q (.any p c h::k) i
 |[],c,h,i,b,d,e,a,_,_,g=>by
  cases c<;>(simp only[fY,aB,bw]at a; obtain⟨rfl,rfl,rfl⟩:=a; exact g)
 |(j,true,_)::f,0,h,i,b,d,e,a,_,_,g=>by cases a
 |(j,true,_)::f,c+1,h,i,b,d,e,a,r,l,g=>by
  simp only[fY]at a
  split at a
  ·rename_i U K
   exact Fh o K (mF o f c _ _ b d e a r l g)
  ·cases a
 |(j,false,_)::f,0,h,i,b,d,e,a,_,_,g=>by cases a
 |(j,false,R)::f,c+1,h,i,b,d,e,a,r,l,g=>by
  simp only[fY]at a
  split at a
  ·rename_i s u
   split at a
   ·rename_i I
    have M:j=s:=bH I
    subst M
    split at a
    ·rename_i T x
     split at a
     ·rename_i C w L y
      simp only[aB,bw]at a
      obtain⟨rfl,rfl,rfl⟩:=a
      obtain⟨E,F⟩:=iI r
      have z:=mF (k:=k) o f c _ _ C w L y F (λm q=>l m (d5 _ q)) g
      intro N O A B
      simp only[sem]
      refine⟨λa=>by rw[u]at a; (cases a),λs t=>?_⟩
      rw[u,aG]at t
      subst t
      exact lx x E (λm q=>l m (cE _ q)) A B (λv G H J=>z v G H J)
     ·cases a
    ·cases a
   ·cases a
  ·cases a
def iC(c:aH):Option (Out×Nat×cj)->Option (Out×Nat×cj)
 |some (a,b,d)=>some (⟨a.ob,a.eqs,Nm c [] a.st⟩,b,d)
 |none=>none
theorem dI{p:aH}{k:List KI}{st d:St}{f b:Nat}{ls ls':cj}{ob:List Prop}{rs:List (Nat×Nat×Nat)}(s:nI Q)(r:List (Nat×Bool×OH))(c:aH)
  (h:iC c (fY P n (aj (aa body p)) f ls st r)=some (⟨ob,aX rs,d⟩,b,ls')) (u:J4 ob)
  (t:aF D P body n w0 S Q (.any p b ls'::k) d):aF D P body n w0 S Q (.any p f ls::k) st:=by
 cases a:fY P n (aj (aa body p)) f ls st r with
 |none=>rw[a]at h; cases h
 |some g=>
  obtain⟨e,i,v⟩:=g;rw[a]at h;simp only[iC,aB,bw,Out.mk.injEq]at h;obtain⟨⟨j,l,m⟩,o,q⟩:=h;subst o q;refine mF s r f ls st e i v a (by rw[j]; exact u) (by rw[l]; exact dX rs) ?_;refine fM c [] ?_;rw[m];exact t
theorem cd{p:aH}{k:List KI}{st:St}{f:Nat}{ls:cj}(h:Region.ready .any (aj (aa body p)) ls=[])(d:aF D P body n w0 S Q k st):aF D P body n w0 S Q (.any p f ls::k) st:=by
 intro a b c g;simp only[sem]
 cases f with
 |zero=>exact⟨h,d a b c g⟩
 |succ f=>exact⟨λ_=>d a b c g,λi e=>by rw[h]at e; (cases e)⟩
end
def Is(a:bu)(d:bi)(v:Value):bu:=
 match d with
 |none=>a
 |some d=>(d,v)::a
def jm:List Oper->av->bu->bu
 |c::b,d::e,a=>jm b e (Is a c.dst d)
 |_,_,a=>a
def TV(P:Program)(C:aI)(x:Sem Next)(v:Value):Prop:=
 ∀a,C a->x.run P a=.ok (.value v) a∨∃b c,x.run P a=.ok (.enter b c) a∧Calls P b c a (bf v a)
section
variable {D:List Deferred}{P:Program}{n:Nat}{w0:World}{S:br}{ops:Array Oper}
theorem Fi{o:Oper}{st:St}{h:QH}{r:Out}(a:n5 P n w0 S o st h=some r)(i:J4 r.ob)(l:kF r.eqs) :
  ∃b,iw st.sl o=true∧TV P (fU w0 S st.bk st.wn st.sz) (execOp (RS st.sl) o) b∧gw n st.sl o.dst b=some r.st.sl:=by
 unfold n5 at a;split at a
 ·split at a
  ·cases a
  ·rename_i e;split at a
   ·split at a
    ·rename_i b s u t f;split at a
     ·rename_i j d;simp only[aB]at a;subst a;exact⟨b,e,λc g=>.inl (oG P _ _ _ f l _ c g.2),d⟩
     ·cases a
    ·cases a
   ·split at a
    ·rename_i b q m;split at a
     ·rename_i j d;simp only[aB]at a;subst a;exact⟨b,e,λc _=>.inl (mB m i.1 c),d⟩
     ·cases a
    ·cases a
 ·rename_i b;split at a
  ·cases a
  ·rename_i e;split at a
   ·rename_i k p f;split at a
    ·rename_i j d;simp only[aB]at a;subst a;exact⟨b,e,λc g=>.inr ⟨k,p,lu P _ _ f c,i.1 c g⟩,d⟩
    ·cases a
   ·cases a
theorem KT{c V9:bu}{d:bi}{v:Value}(h:gw n c d v=some V9):V9=Is c d v∧∀a,d=some a->a<n:=by
 cases d with
 |none=>
  simp only[gw,aB]at h;exact⟨h.symm,λa b=>by cases b⟩
 |some d=>
  simp only[gw]at h;split at h
  ·rename_i e;simp only[aB]at h;exact⟨h.symm,λa b=>by cases b; simpa[Nat.blt_eq]using e⟩
  ·cases h
theorem uO:∀(c:List Oper)(st:St)(i:List QH)(f:Out),fp P n w0 S c st i=some f->J4 f.ob->kF f.eqs ->
  ∃vs,vs.length=c.length∧f.st.sl=jm c vs st.sl∧∀b e,c[b]?=some e->e.guard=none∧(∀d,e.dst=some d->d<n)∧iw (jm (c.take b) (vs.take b) st.sl) e=true ∧
   ∃g,vs[b]?=some g∧TV P (fU w0 S st.bk st.wn st.sz) (execOp (RS (jm (c.take b) (vs.take b) st.sl)) e) g
 |[],st,i,f,a,_,_=>by
  simp only[fp,aB]at a
  subst a
  exact⟨[],rfl,rfl,λb e l=>by simp at l⟩
 |e::c,st,[],f,a,_,_=>by cases a
 |e::c,st,l::i,f,a,v,o=>by
  simp only[fp]at a
  split at a
  ·cases a
  ·rename_i K
   split at a
   ·cases a
   ·rename_i I m
    split at a
    ·cases a
    ·rename_i J u
     simp only[aB]at a
     subst a
     obtain⟨E,F⟩:=iI v
     obtain⟨r,s,t⟩:=pJ m
     obtain⟨g,w,x,y⟩:=Fi m E (λj a=>o j (cE _ a))
     obtain⟨k,z⟩:=KT y
     obtain⟨vs,A,B,C⟩:=uO c I.st i J u F (λj a=>o j (d5 _ a))
     refine⟨g::vs,by simp[A],by rw[B,k]; rfl,λb D h=>?_⟩
     cases b with
     |zero=>
      simp only[List.getElem?_cons_zero,aB]at h
      subst h
      exact⟨K,z,w,g,rfl,x⟩
     |succ b=>
      simp only[List.getElem?_cons_succ]at h
      obtain⟨G,H,p,q⟩:=C b D h
      rw[r,s,t,k]at q
      rw[k]at p
      exact⟨G,H,p,q⟩
theorem oI:∀(f:List Oper)(vs:av)(k:bu)(t:Nat)(g:Value),vs.length=f.length->gh (jm f vs k) t=some g ->
  (∃(a:Nat)(b:Oper),f[a]?=some b∧b.dst=some t∧vs[a]?=some g)∨((∀(a:Nat)(b:Oper),f[a]?=some b->b.dst≠some t)∧gh k t=some g)
 |[],vs,k,t,g,_,h=>.inr ⟨λa b e=>by simp at e,by cases vs<;>exact h⟩
 |b::f,[],k,t,g,n,h=>by simp at n
 |b::f,q::vs,k,t,g,n,h=>by
  simp only[jm]at h
  rcases oI f vs _ t g (by simpa using n) h with⟨a,j,l,c,p⟩|⟨l,c⟩
  ·exact .inl ⟨a+1,j,by simpa using l,c,by simpa using p⟩
  ·cases i:b.dst with
   |none=>
    rw[i]at c
    simp only[Is]at c
    refine .inr ⟨λa j e=>?_,c⟩
    cases a with
    |zero=>simp only[List.getElem?_cons_zero,aB]at e; subst e; rw[i]; simp
    |succ a=>exact l a j (by simpa using e)
   |some d=>
    rw[i]at c
    simp only[Is,gh]at c
    split at c
    ·rename_i m
     have o:d=t:=bH m
     subst o
     exact .inl ⟨0,b,rfl,i,by simpa using c⟩
    ·rename_i m
     have o:d≠t:=Nat.ne_of_beq_eq_false m
     refine .inr ⟨λa j e=>?_,c⟩
     cases a with
     |zero=>simp only[List.getElem?_cons_zero,aB]at e; subst e; rw[i]; simpa using o
     |succ a=>exact l a j (by simpa using e)
def qN(ops:Array Oper):Nat->Nat->Nat->Bool
 |0,_,_=>false
 |c+1,t,b=>match ops[t]? with
  |none=>false
  |some d=>d.after.toList.any λa=>Region.binds .any a&&(Nat.beq a.on b||qN ops c a.on b)
def Nq(ops:Array Oper)(ls:cj):Prop:=∀b c,ops[b]?=some c->ls.getD b false=true->∀a∈c.after,Region.binds .any a=true->ls.getD a.on false=true
theorem pK{ls:cj}(i:Nq ops ls):∀(c t d:Nat)(f:Oper),ops[t]?=some f->(∀a∈f.after,Region.binds .any a=true->ls.getD a.on false=true)->qN ops c t d=true->ls.getD d false=true
 |0,_,_,_,_,_,e=>by cases e
 |c+1,t,d,f,n,k,e=>by
  simp only[qN,n,dN,ch,ej]at e
  obtain⟨a,m,l,b⟩:=e
  have h:=k a (by simpa using m) l
  rcases b with b|b
  ·have:a.on=d:=bH b
   rw[<-this]; exact h
  ·cases g:ops[a.on]? with
   |none=>
    cases c with
    |zero=>cases b
    |succ c=>simp[qN,g]at b
   |some j=>exact pK i c a.on d j g (i a.on j g h) b
def iJ(ops:Array Oper)(n:Nat)(fl:Nat):Bool:=
 decide (n<=fl) &&
 ((List.range n).all λa=>match ops[a]? with
  |none=>false
  |some c=>((List.range ops.size).all λd=>match ops[d]? with
   |none=>false
   |some e=>
    (Nat.beq a d||c.dst.isNone||e.dst != c.dst) &&
    (c.op.operands.toList.all λ|.tmp t=>(e.dst != some t||(Nat.blt d a&&c.after.toList.any λb=>Region.binds .any b&&Nat.beq b.on d))|_=>true)) &&
   (c.after.toList.all λb=>!Region.binds .any b||Nat.blt b.on a)) &&
 ((List.range ops.size).all λt=>Nat.blt t n||Nat.beq t fl||(List.range n).all λa=>qN ops (ops.size+1) t a)
def RC(P:Program)(ops:Array Oper)(fl:Nat):Option (TypeId×Nat×av):=
 match ops[fl]? with
 |some a=>match a.op,a.guard,a.dst with
  |.alloc t,none,some d=>match (P.info? t).bind (·.zero)with
   |some b=>some (t,d,b.cells.toList)
   |none=>none
  |_,_,_=>none
 |none=>none
def gi(c n:Nat)(b:Bool)(fl:Nat):cj:=((List.range c).map λa=>Nat.blt a n||(b&&Nat.beq a fl)).toArray
theorem Da{fl:Nat}{t:TypeId}{d:Nat}{cs:av}(h:RC P ops fl=some (t,d,cs)):∃b,ops[fl]?=some b∧b.guard=none∧b.dst=some d∧∀i a,(execOp i b).run P a=.ok (.value (.pointer (some ⟨a.z,0,none⟩))) (a.alloc (.cells cs.toArray t)):=by
 unfold RC at h;split at h
 ·rename_i b m;split at h
  ·rename_i g q e f k;split at h
   ·rename_i c n;simp only[aB,bw]at h;obtain⟨rfl,rfl,rfl⟩:=h;refine⟨b,m,f,k,λi a=>?_⟩;obtain⟨p,l,o⟩:=Option.bind_eq_some_iff.1 n;obtain⟨s,op,r,u,v,w⟩:=b;simp only at e;subst e;have e:(zeroValue g).run P a=.ok c a:=by simp[zeroValue,typeInfo,l,o]
    have f:(newVar g c).run P a=.ok ⟨a.z,0,none⟩ (a.alloc (.cells c.cells g)):=rfl;have j:c.cells.toList.toArray=c.cells:=by simp
    rw[j];simp[execOp,Instr.alloc,e,f]
   ·cases h
  ·cases h
 ·cases h
theorem Vj{bk:ax}{wn:List Wn}{b:Nat}{w c:World}(h:fU w0 S bk wn b w)(a:au z8 w c):fU w0 S bk wn b c:=⟨az h.1 a.size,(h.2.same a).2⟩
structure sD(D:List Deferred)(P:Program)(N:Nat)(w0:World)(S:br)(ops:Array Oper)(n fl:Nat)(t:TypeId)(d:Nat)(cs:av)(vs:av)(st:St)(fuel:Nat)(ls:cj)(a:Act)(w:World):Prop where
 size:ls.size=ops.size
 closed:Nq ops ls
 tail:∀i,n<=i->i≠fl->ls.getD i false=false
 Yh:fuel+((List.range ops.size).filter (λi=>ls.getD i false)).length=ops.size
 J2:a.tmps.size=N
 df:a.defers=D
 Yq:∀i v,gh st.sl i=some v->(∀j o,ls.getD j false=true->ops[j]?=some o->o.dst≠some i)->a.tmps[i]?=some v
 new:∀i o x v,i<n->ls.getD i false=true->ops[i]?=some o->o.dst=some x->vs[i]?=some v->a.tmps[x]?=some v
 YV:ls.getD fl false=true->∃g,st.sz<=g∧a.tmps[d]?=some (.pointer (some ⟨g,0,none⟩))∧A2 w g t cs
 mem:fU w0 S st.bk st.wn st.sz w
theorem jv{n fl:Nat}(h:iJ ops n fl=true):n<=fl:=by
 simp only[iJ,ch,decide_eq_true_eq]at h;exact h.1.1
theorem j2{n fl:Nat}(h:iJ ops n fl=true){i:Nat}(r:i<n):∃e,ops[i]?=some e ∧
  (∀b f d,b≠i->ops[b]?=some f->e.dst=some d->f.dst≠some d) ∧
  (∀t b f,.tmp t∈e.op.operands->ops[b]?=some f->f.dst=some t->b<i∧∃c∈e.after,Region.binds .any c=true∧c.on=b) ∧
  (∀c∈e.after,Region.binds .any c=true->c.on<i):=by
 simp only[iJ,ch,decide_eq_true_eq]at h;have g:=bE.1 h.1.2 i (bn.2 r)
 cases p:ops[i]? with
 |none=>simp[p]at g
 |some e=>
  simp only[p,ch]at g;refine⟨e,rfl,λb f d s k l v=>?_,λt b f u k l=>?_,λc o m=>?_⟩
  ·have j:=bE.1 g.1 b (bn.2 (dp.1 k).1);simp only[k,ch,ej]at j;rcases j.1 with(a|a)|a
   ·exact s (bH a).symm
   ·rw[l]at a; simp at a
   ·rw[l,v]at a; simp at a
  ·have j:=bE.1 g.1 b (bn.2 (dp.1 k).1);simp only[k,ch]at j;have a:=bE.1 j.2 (.tmp t) (by simpa using u);simp only[l,bne_self_eq_false,Bool.false_or,ch,dN]at a;obtain⟨q,c,o,m,w⟩:=a;exact⟨by simpa[Nat.blt_eq]using q,c,by simpa using o,m,bH w⟩
  ·have a:=bE.1 g.2 c (by simpa using o);simp only[m,Bool.not_true,Bool.false_or]at a;simpa[Nat.blt_eq]using a
theorem Db{n fl:Nat}(h:iJ ops n fl=true){t:Nat}(d:t<ops.size)(e:n<=t)(b:t≠fl){i:Nat}(c:i<n):qN ops (ops.size+1) t i=true:=by
 simp only[iJ,ch,decide_eq_true_eq]at h;have a:=bE.1 h.2 t (bn.2 d);simp only[ej]at a;rcases a with(a|a)|a
 ·have:t<n:=by simpa[Nat.blt_eq]using a
  omega
 ·exact absurd (bH a) b
 ·exact bE.1 a i (bn.2 c)
theorem It{m:Nat}{ls:cj}{i:Nat}(e:i<ls.size)(hu:ls.getD i false=false)(h:i<m) :
  ((List.range m).filter (λa=>(ls.setIfInBounds i true).getD a false)).length=((List.range m).filter (λa=>ls.getD a false)).length+1:=by
 induction m with
 |zero=>omega
 |succ m g=>
  rw[List.range_succ,List.filter_append,List.filter_append,bM,bM];by_cases c:i=m
  ·subst c;have d:((List.range i).filter (λa=>(ls.setIfInBounds i true).getD a false))=((List.range i).filter (λa=>ls.getD a false)):=by
    apply List.filter_congr;intro a f;rw[getD_set_ne false (by have:=bn.1 f; omega)]
   have b:(ls.setIfInBounds i true).getD i false=true:=by simp[e]
   rw[d];simp only[List.filter_cons,List.filter_nil,b,hu];rfl
  ·rw[g yq];have b:(ls.setIfInBounds i true).getD m false=ls.getD m false:=getD_set_ne false c;simp only[List.filter_cons,List.filter_nil,b];omega
section
variable {N c fl d:Nat}{t:TypeId}{cs:av}{vs:av}{st:St}{Q:Exit->Act->aI}
theorem sD.put{M:Nat}{ls:cj}{a:Act}{w J:World}{i:Nat}{o:Oper}{v:Value}(h:sD D P N w0 S ops n fl t d cs vs st (M+1) ls a w)(K:iJ ops n fl=true)(Y:∃o,ops[fl]?=some o∧o.dst=some d)
  (V:i∈Region.ready .any ops ls) (m:ops[i]?=some o) (Z:i<n) (X:vs[i]?=some v) (U:∀e,o.dst=some e->e<N) (G:au z8 w J) :
  sD D P N w0 S ops n fl t d cs vs st M (ls.setIfInBounds i true) (a.put o.dst v) J:=by
 obtain⟨aR,I,ak,aV⟩:=mem_ready.1 V;have b:I=o:=ap (ak.symm.trans m);subst b;obtain⟨f,an,E,a4,a2⟩:=j2 K Z;have b:f=I:=ap (an.symm.trans m);subst b;have a3:=jv K;have A:i<ls.size:=by rw[h.size]; exact(dp.1 m).1
 have a1:=getD_both aR;obtain⟨of,aq,a0⟩:=Y;refine⟨by simp[h.size],λc j l g b F C=>?_,λc l k=>?_,?_,?_,?_,λz x W L=>?_,λc j e x l g u y H=>?_,λg=>?_,Vj h.mem G⟩
 ·by_cases q:i=c
  ·subst q;have:j=f:=ap (l.symm.trans m);subst this;exact getD_set_true (aV b F C)
  ·rw[getD_set_ne false q]at g;exact getD_set_true (h.closed c j l g b F C)
 ·rw[getD_set_ne false yq];exact h.tail c l k
 ·rw[It A a1 (by rw[<-h.size]; exact A)];have:=h.Yh;omega
 ·cases p:f.dst with
  |none=>exact h.J2
  |some e=>simpa[Act.put]using h.J2
 ·rw[oH]; exact h.df
 ·have s:=h.Yq z x W (λc j ac u=>L c j (getD_set_true ac) u);have T:f.dst≠some z:=L i f (by simp[A]) m
  cases p:f.dst with
  |none=>exact s
  |some e=>
   have k:e≠z:=λb=>T (by rw[p,b]);simp only[Act.put];rw[gX k];exact s
 ·by_cases q:c=i
  ·subst q;have:j=f:=ap (u.symm.trans m);subst this;have b:x=v:=ap (H.symm.trans X);subst b;have ad:=U e y;rw[y];simp[Act.put,h.J2,ad]
  ·rw[getD_set_ne false (Ne.symm q)]at g;have s:=h.new c j e x l g u y H
   cases p:f.dst with
   |none=>exact s
   |some r=>
    have k:r≠e:=λb=>E c j r q u p (by rw[y,b]);simp only[Act.put];rw[gX k];exact s
 ·rw[getD_set_ne false yq]at g;obtain⟨O,Q,B,R⟩:=h.YV g;refine⟨O,Q,?_,R.x2 G id⟩
  cases p:f.dst with
  |none=>exact B
  |some r=>
   have k:r≠d:=λb=>E fl of r yq aq p (by rw[a0,b]);simp only[Act.put];rw[gX k];exact B
theorem sD.make{C:Nat}{ls:cj}{a:Act}{w:World}(h:sD D P N w0 S ops n fl t d cs vs st (C+1) ls a w)(z:iJ ops n fl=true){o:Oper}(k:ops[fl]?=some o)(i:o.dst=some d)(L:d<N)
  (G:fl∈Region.ready .any ops ls) :
  sD D P N w0 S ops n fl t d cs vs st C (ls.setIfInBounds fl true) (a.put o.dst (.pointer (some ⟨w.z,0,none⟩))) (w.alloc (.cells cs.toArray t)):=by
 obtain⟨R,l,O,T⟩:=mem_ready.1 G;have b:l=o:=ap (O.symm.trans k);subst b;have V:=jv z;have u:fl<ls.size:=by rw[h.size]; exact(dp.1 k).1
 have U:=getD_both R;have H:au z8 w (w.alloc (.cells cs.toArray t)):=(au.refl _ w).alloc _;refine⟨by simp[h.size],λc f e j b x v=>?_,λc e g=>?_,?_,?_,?_,λp q I B=>?_,λc f r q e j m y J=>?_,λ_=>?_,Vj h.mem H⟩
 ·by_cases A:fl=c
  ·subst A;have:f=l:=ap (e.symm.trans k);subst this;exact getD_set_true (T b x v)
  ·rw[getD_set_ne false A]at j;exact getD_set_true (h.closed c f e j b x v)
 ·rw[getD_set_ne false (Ne.symm g)];exact h.tail c e g
 ·rw[It u U (by rw[<-h.size]; exact u)];have:=h.Yh;omega
 ·rw[i]; simpa[Act.put]using h.J2
 ·rw[oH]; exact h.df
 ·have s:=h.Yq p q I (λc f M m=>B c f (getD_set_true M) m);have E:l.dst≠some p:=B fl l (by simp[u]) k;have g:d≠p:=λb=>E (by rw[i,b]);rw[i];simp only[Act.put];rw[gX g];exact s
 ·rw[getD_set_ne false yq]at j;have s:=h.new c f r q e j m y J;obtain⟨K,Q,F,_⟩:=j2 z e;have b:K=f:=ap (Q.symm.trans m);subst b;have g:d≠r:=λb=>F fl l r yq k y (by rw[i,b]);rw[i];simp only[Act.put];rw[gX g];exact s
 ·refine⟨w.z,h.mem.1,?_,A2.new _ _ _⟩;rw[i];simp[Act.put,h.J2,L]
def uP(P:Program)(N:Nat)(w0:World)(S:br)(ops:Array Oper)(n:Nat)(st:St)(vs:av):Prop:=
 vs.length=n∧∀(i:Nat)(a:Oper),(ops.toList.take n)[i]?=some a->a.guard=none∧(∀d,a.dst=some d->d<N)∧iw (jm ((ops.toList.take n).take i) (vs.take i) st.sl) a=true ∧
  ∃b,vs[i]?=some b∧TV P (fU w0 S st.bk st.wn st.sz) (execOp (RS (jm ((ops.toList.take n).take i) (vs.take i) st.sl)) a) b
theorem uQ{i:Nat}{o:Oper}(a:i<n)(b:ops[i]?=some o):(ops.toList.take n)[i]?=some o:=by
 rw[List.getElem?_take,aA a];simpa using b
theorem sD.exec{O:Nat}{ls:cj}{a:Act}{w:World}{i:Nat}{o:Oper}(h:sD D P N w0 S ops n fl t d cs vs st O ls a w)(G:iJ ops n fl=true)(L:vs.length=n)
  (E:i∈Region.ready .any ops ls) (r:ops[i]?=some o) (H:i<n) (q:iw (jm ((ops.toList.take n).take i) (vs.take i) st.sl) o=true) :
  execOp a.eval o=execOp (RS (jm ((ops.toList.take n).take i) (vs.take i) st.sl)) o:=by
 obtain⟨X,y,I,Q⟩:=mem_ready.1 E;have j:y=o:=ap (I.symm.trans r);subst j;obtain⟨z,J,V,A,W⟩:=j2 G H;have j:z=y:=ap (J.symm.trans r);subst j;simp only[iw,ch,bE]at q;refine execOp_congr z (λF R p=>?_) λv s=>?_
 ·have:=q.2;simp[p]at this
 ·obtain⟨l,f⟩:=cV.1 (q.1 v (by simpa using s));rw[Go.Proofs.YtcmpkkapkdlfhaaGreat.RS,f,Option.getD_some]
  cases v with
  |const F=>simpa[opd,Act.eval]using f
  |global U=>simpa[opd,Act.eval]using f
  |func T=>simpa[opd,Act.eval]using f
  |tmp e=>
   simp only[opd]at f;have M:a.tmps[e]?=some l:=by
    have Y:=(dp.1 r).1;rcases oI _ _ _ e l (by simp[L]; omega) f with⟨c,g,b,m,x⟩|⟨b,m⟩
    ·rw[List.getElem?_take]at b;split at b
     ·rename_i u;rw[List.getElem?_take,aA yq]at b;have k:ops[c]?=some g:=by simpa using b
      obtain⟨_,j,p,C,K⟩:=A e c g s k m;rw[List.getElem?_take,aA u]at x;exact h.new c g e l yq (K▸Q j p C) k m x
     ·cases b
    ·refine h.Yq e l m (λc g _ k B=>?_);obtain⟨u,_⟩:=A e c g s k B;refine b c g ?_ B;rw[List.getElem?_take,aA u];exact uQ yq k
   simp[Act.eval,M]
theorem sD.fr{R:Nat}{ls:cj}{a:Act}{w:World}(h:sD D P N w0 S ops n fl t d cs vs st R ls a w)(J:iJ ops n fl=true)(I:uP P N w0 S ops n st vs)(A:∀u,u<n->ls.getD u false=true)(K:∃v,ops[fl]?=some v∧v.dst=some d) :
  (ls.getD fl false=false->dy D N (jm (ops.toList.take n) vs st.sl) a) ∧
  (ls.getD fl false=true->∃j,st.sz<=j∧dy D N ((d,.pointer (some ⟨j,0,none⟩))::jm (ops.toList.take n) vs st.sl) a∧A2 w j t cs):=by
 have V:=jv J;have O:(ops.toList.take n).length=n:=by
  rcases Nat.lt_or_ge (ops.toList.take n).length n with L|U
  ·exfalso;simp only[dZ,Array.length_toList]at L;have H:ops.size<n:=by omega
   have e:=A ops.size H;have:ls.getD ops.size false=false:=by simp[h.size]
   rw[this]at e;cases e
  ·have:=List.length_take_le n ops.toList;omega
 have z:∀b c,gh (jm (ops.toList.take n) vs st.sl) b=some c->(ls.getD fl false=true->b≠d)->a.tmps[b]?=some c:=by
  intro b c f M;rcases oI _ _ _ b c (by rw[O]; exact I.1) f with⟨g,k,e,m,G⟩|⟨e,m⟩
  ·rw[List.getElem?_take]at e;split at e
   ·rename_i i;have l:ops[g]?=some k:=by simpa using e
    exact h.new g k b c i (A g i) l m G
   ·cases e
  ·refine h.Yq b c m (λg k q l s=>?_);rcases Nat.lt_or_ge g n with i|i
   ·exact e g k (uQ i l) s
   ·by_cases y:g=fl
    ·subst y;obtain⟨of,Q,T⟩:=K;have B:of=k:=ap (Q.symm.trans l);subst B;rw[T]at s;exact M q (ap s).symm
    ·rw[h.tail g i y]at q;cases q
 refine⟨λp=>⟨h.J2,h.df,λb c f=>z b c f (λx=>by rw[p]at x; cases x)⟩,λp=>?_⟩;obtain⟨j,C,E,F⟩:=h.YV p;refine⟨j,C,⟨h.J2,h.df,λb c f=>?_⟩,F⟩;simp only[gh]at f;split at f
 ·rename_i o;have r:d=b:=bH o;subst r;simp only[aB]at f;subst f;exact E
 ·rename_i o;have r:d≠b:=Nat.ne_of_beq_eq_false o;exact z b c f (λ_=>Ne.symm r)
theorem xK{o:Nat}{ls:cj}{a:Act}{w:World}(h:sD D P N w0 S ops n fl t d cs vs st o ls a w)(m:iJ ops n fl=true)(p:∀b,b<n->ls.getD b false=true):ls=gi ops.size n (ls.getD fl false) fl:=by
 apply Array.ext_getElem?;intro b;by_cases g:b<ops.size
 ·have i:b<ls.size:=by rw[h.size]; exact g
  have f:ls[b]?=some (ls.getD b false):=by simp[i]
  have k:(gi ops.size n (ls.getD fl false) fl)[b]?=some (Nat.blt b n||(ls.getD fl false&&Nat.beq b fl)):=by
   simp[gi,g]
  rw[f,k];congr 1;have q:=jv m;rcases Nat.lt_or_ge b n with e|e
  ·rw[p b e];have:Nat.blt b n=true:=by simpa[Nat.blt_eq]using e
   rw[this];rfl
  ·have c:Nat.blt b n=false:=by
    cases c:Nat.blt b n with
    |false=>rfl
    |true=>
      have:b<n:=by simpa[Nat.blt_eq]using c
      omega
   by_cases j:b=fl
   ·subst j;rw[c];simp
   ·rw[h.tail b e j,c];have:Nat.beq b fl=false:=by
     cases l:Nat.beq b fl with
     |false=>rfl
     |true=>exact absurd (bH l) j
    rw[this];simp
 ·have i:¬b<ls.size:=by rw[h.size]; exact g
  have f:ls[b]?=none:=by simpa using Nat.le_of_not_lt i
  rw[f];symm;simp only[gi,List.getElem?_toArray,List.getElem?_eq_none_iff,ey,List.length_range];omega
theorem uR{m:Nat}{b:Bool}(t:n<=fl)(r:fl<m):((List.range m).filter (λc=>(gi m n b fl).getD c false)).length=n+(if b then 1 else 0):=by
 have h:(List.range m).filter (λc=>(gi m n b fl).getD c false)=(List.range m).filter (λc=>Nat.blt c n||(b&&Nat.beq c fl)):=by
  apply List.filter_congr;intro c k;have:=bn.1 k;simp[gi,this]
 rw[h];clear h
 induction m with
 |zero=>omega
 |succ m l=>
  rw[List.range_succ,List.filter_append,bM];have q:∀a,a<=fl->((List.range a).filter (λc=>Nat.blt c n||(b&&Nat.beq c fl))).length=min a n:=by
   intro a
   induction a with
   |zero=>intro _; simp
   |succ a p=>
    intro s;rw[List.range_succ,List.filter_append,bM,p yq];have f:Nat.beq a fl=false:=by
     cases g:Nat.beq a fl with
     |false=>rfl
     |true=>
       have:=bH g;omega
    by_cases o:a<n
    ·have d:Nat.blt a n=true:=by simpa[Nat.blt_eq]using o
     simp only[List.filter_cons,d,Bool.true_or,if_true,List.filter_nil,List.length_cons,List.length_nil];omega
    ·have d:Nat.blt a n=false:=by
      cases e:Nat.blt a n with
      |false=>rfl
      |true=>
        have:a<n:=by simpa[Nat.blt_eq]using e
        omega
     simp only[List.filter_cons,d,f,Bool.and_false,Bool.or_false,Bool.false_eq_true,if_false,List.filter_nil,List.length_nil];omega
  by_cases i:fl=m
  ·subst i;rw[q fl (bT _)];have d:Nat.blt fl n=false:=by
    cases e:Nat.blt fl n with
    |false=>rfl
    |true=>
      have:fl<n:=by simpa[Nat.blt_eq]using e
      omega
   have j:Nat.beq fl fl=true:=Nat.beq_refl fl;cases b
   ·simp only[List.filter_cons,d,Bool.false_and,Bool.or_false,Bool.false_eq_true,if_false,List.filter_nil,List.length_nil];omega
   ·simp only[List.filter_cons,d,j,Bool.true_and,Bool.or_true,if_true,List.filter_nil,List.length_cons,List.length_nil];omega
  ·rw[l yq];have f:Nat.beq m fl=false:=by
    cases g:Nat.beq m fl with
    |false=>rfl
    |true=>exact absurd (bH g).symm i
   have d:Nat.blt m n=false:=by
    cases e:Nat.blt m n with
    |false=>rfl
    |true=>
      have:m<n:=by simpa[Nat.blt_eq]using e
      omega
   simp[f,d]
theorem Nr(k:iJ ops n fl=true)(a0:RC P ops fl=some (t,d,cs))(aV:d<N)(A:uP P N w0 S ops n st vs)
  (M:∀c e,dy D N (jm (ops.toList.take n) vs st.sl) c->fU w0 S st.bk st.wn st.sz e->wpAny P .any ops Q (ops.size-n) (gi ops.size n false fl) c e)
  (O:∀o c e,st.sz<=o->dy D N ((d,.pointer (some ⟨o,0,none⟩))::jm (ops.toList.take n) vs st.sl) c->fU w0 S st.bk st.wn st.sz e->A2 e o t cs->wpAny P .any ops Q (ops.size-n-1) (gi ops.size n true fl) c e) :
  ∀(q:Nat)(g:cj)(c:Act)(e:World),sD D P N w0 S ops n fl t d cs vs st q g c e->wpAny P .any ops Q q g c e:=by
 obtain⟨of,v,a9,y,bb⟩:=Da a0;have X:fl<ops.size:=(dp.1 v).1;have V:=jv k;intro q
 induction q with
 |zero=>
  intro g c e b;by_cases r:∀f,f<n->g.getD f false=true
  ·have j:=xK b k r;have h:=b.Yh;rw[j,uR V X]at h;obtain⟨B,C⟩:=b.fr k A r ⟨of,v,y⟩
   cases i:g.getD fl false with
   |false=>
    rw[i]at h j;have a:=M c e (B i) b.mem;rw[<-j]at a;simp only[Bool.false_eq_true,if_false]at h;rw[show ops.size-n=0 by omega]at a;exact a
   |true=>
    rw[i]at h j;obtain⟨o,E,F,G⟩:=C i;have a:=O o c e E F b.mem G;rw[<-j]at a;simp only[if_true]at h;rw[show ops.size-n-1=0 by omega]at a;exact a
  ·exfalso;have h:=b.Yh;obtain⟨f,m⟩:=Classical.not_forall.1 r;obtain⟨K,m⟩:=Classical.not_imp.1 m;have a:((List.range ops.size).filter (λf=>g.getD f false)).length<(List.range ops.size).length:=by
    refine List.length_filter_lt_length_iff_exists.2 ⟨f,bn.2 yq,m⟩
   simp only[List.length_range]at a;omega
 |succ q J=>
  intro g c e b;by_cases r:∀f,f<n->g.getD f false=true
  ·have j:=xK b k r;have h:=b.Yh;rw[j,uR V X]at h;obtain⟨B,C⟩:=b.fr k A r ⟨of,v,y⟩
   cases i:g.getD fl false with
   |false=>
    rw[i]at h j;have a:=M c e (B i) b.mem;rw[<-j]at a;simp only[Bool.false_eq_true,if_false]at h;rw[show ops.size-n=q+1 by omega]at a;exact a
   |true=>
    rw[i]at h j;obtain⟨o,E,F,G⟩:=C i;have a:=O o c e E F b.mem G;rw[<-j]at a;simp only[if_true]at h;rw[show ops.size-n-1=q+1 by omega]at a;exact a
  ·obtain⟨f,m⟩:=Classical.not_forall.1 r;obtain⟨K,m⟩:=Classical.not_imp.1 m;refine⟨λa8=>?_,λz x=>?_⟩
   ·exfalso;obtain⟨L,⟨a2,a4⟩,a7⟩:=exists_least (p:=λf=>f<n∧g.getD f false=false) ⟨f,K,by simpa using m⟩;obtain⟨aR,W,bl,b0,a5⟩:=j2 k a2;have a3:L<g.size:=by rw[b.size]; exact(dp.1 W).1
    have:L∈Region.ready .any ops g:=mem_ready.2 ⟨getD_in a3 a4,aR,W,λs H i=>by
     have a:=a5 s H i
     cases Z:g.getD s.on false with
     |true=>rfl
     |false=>
       have:=a7 s.on ⟨yq,Z⟩;omega⟩
    rw[a8]at this;cases this
   ·obtain⟨bs,w,l,a6⟩:=mem_ready.1 x;rcases Nat.lt_or_ge z n with u|u
    ·obtain⟨ak,R,an,bg,T,aq⟩:=A.2 z w (uQ u l);have H:=b.exec k A.1 x l u an;have I:Region.wanted w (yielded ops c.tmps)=true:=by simp[Region.wanted,ak]
     simp only[wpOp,l,aA I];refine .inl ?_;unfold Oper.wp;rw[H];rcases aq e b.mem with a|⟨bd,bt,a,Y⟩
     ·rw[a,Oper.upon_value];exact J _ _ _ (b.put k ⟨of,v,y⟩ x l u T R (au.refl _ _))
     ·rw[a,Oper.upon_enter];refine Y.mono λs bk ad=>?_;obtain⟨rfl,ac⟩:=ad;exact J _ _ _ (b.put k ⟨of,v,y⟩ x l u T R ac)
    ·by_cases U:z=fl
     ·subst U;have s:w=of:=ap (l.symm.trans v);subst s;have I:Region.wanted w (yielded ops c.tmps)=true:=by simp[Region.wanted,a9]
      simp only[wpOp,l,aA I];refine .inl ?_;simp only[Oper.wp,bb,Oper.upon_value];exact J _ _ _ (b.make k l y aV x)
     ·exfalso;have a1:=(dp.1 l).1;have a:=Db k a1 u U K;exact m (pK b.closed _ z f w l a6 a)
theorem ii{body:Code}{p:aH}{k:List KI}{st x:St}{Q:Exit->Act->aI}{fl f:Nat}{t:TypeId}{d:Nat}{cs:av}{Xq Xj:cj}{ob:List Prop}{rs:List (Nat×Nat×Nat)}(m:Nat)(hs:List QH)(s:aH)
  (z:jf (aa body p)=true) (hm:P.follows .mixedOrders=true) (G:iJ (aj (aa body p)) m fl=true) (J:RC P (aj (aa body p)) fl=some (t,d,cs)) (a0:d<N)
  (I:(aj (aa body p)).size-m=f+1) (h0:gi (aj (aa body p)).size m false fl=Xq) (U:gi (aj (aa body p)).size m true fl=Xj)
  (h:Out.prune s (fp P N w0 S ((aj (aa body p)).toList.take m) st hs)=some ⟨ob,aX rs,x⟩) (W:J4 ob)
  (H1:∀l u,st.sz<=l->st.sz<=u->aF D P body N w0 S Q (.any p f Xj::k) ⟨(d,.pointer (some ⟨l,0,none⟩))::x.sl,st.bk++[⟨l,t,true,cs⟩],st.wn,u⟩)
  (T:∀u,st.sz<=u->aF D P body N w0 S Q (.any p (f+1) Xq::k) ⟨x.sl,st.bk,st.wn,u⟩):aF D P body N w0 S Q (.code p::k) st:=by
 intro b o A i;obtain⟨bd,z⟩:=iU z;generalize L:aj (aa body p)=ops at *;subst h0 U;obtain⟨O,X,C,E,F⟩:=kI h;dsimp only at C E F;obtain⟨vs,aq,aR,aV⟩:=uO _ st hs O X (by rw[C]; exact W) (by rw[E]; exact dX rs);have bl:=jv G;obtain⟨of,a2,b0,bt,b1⟩:=Da J;have bs:fl<ops.size:=(dp.1 a2).1;have Y:uP P N w0 S ops m st vs:=⟨by rw[aq]; simp; omega,λa M e=>by
  obtain⟨ac,ad,ak,an⟩:=aV a M e;exact⟨ac,ad,ak,an⟩⟩
 have a6:∀(B:bu)(b:Act),dy D N B b->dy D N (j1 B s) b:=λB b h=>⟨h.size,h.df,λa n e=>h.val a n (dU s a n e)⟩;have K:x.sl=j1 (jm (ops.toList.take m) vs st.sl) s:=by rw[<-F,<-aR]; rfl
 simp only[sem,z];refine wp_region_any hm ?_;refine Nr (D:=D) G J a0 Y (λb o w g=>?_) (λl b o V w g y=>?_) ops.size _ b _ ?_
 ·have r:=T o.z g.1 b o (by rw[K]; exact a6 _ _ w) g.2;simp only[sem,L]at r;rw[I];exact r
 ·have a4:dy D N ((d,.pointer (some ⟨l,0,none⟩))::x.sl) b:=by
   refine⟨w.size,w.df,λa n e=>w.val a n ?_⟩;simp only[gh]at e ⊢;split at e
   ·exact e
   ·rw[K]at e;exact dU s a n e
  have a1:∀j∈st.bk,j.g<st.sz:=λj y=>i.lt y;have a5:ab w0 S (st.bk++[⟨l,t,true,cs⟩]) st.wn o.z o:=by
   refine⟨rfl,λj v=>?_,λj v a3=>?_,?_,g.2.x2,g.2.Ww⟩
   ·rcases dG.1 v with c|c
    ·exact g.2.zq j c
    ·simp only[aG]at c;subst c;exact y
   ·rcases dG.1 v with c|c
    ·exact g.2.own j c a3
    ·simp only[aG]at c;subst c;right;have a9:=i.x2.size;have bb:=i.size;show w0.z<=l;omega
   ·rw[List.map_append,List.nodup_append];refine⟨g.2.nd,z1,λR Z a8 H=>?_⟩;simp only[List.map_cons,List.map_nil,aG]at H;subst H;obtain⟨j,v,rfl⟩:=aT.1 Z;have:=a1 j v;omega
  have r:=H1 l o.z V g.1 b o a4 a5;simp only[sem,L]at r;rw[I];exact r
 ·refine⟨z1,λa7 bk _ q=>(by rw[getD_replicate_false]at q; cases q),λa _ _=>getD_replicate_false _ _,?_,A.size,A.df,λa n hs _=>A.val a n hs,λa bg R n _ q=>(by rw[getD_replicate_false]at q; cases q),λq=>(by rw[getD_replicate_false]at q; cases q),?_⟩
  ·have:(List.range ops.size).filter (λa=>(Array.replicate ops.size false).getD a false)=[]:=by
    rw[List.filter_eq_nil_iff];intro a _;rw[getD_replicate_false];decide
   rw[this];simp
  ·exact⟨bC i.size.symm,rfl,i.zq,i.own,i.nd,i.x2.drew,i.Ww⟩
end
end
end Go.Proofs.YtcmpkkapkdlfhaaGreat
