import Derived.Test.YtcmpkkapkdlfhaaGreatEngF
import Derived.Laws.CopyRow
import Derived.Laws.IdiomStrings
import Derived.Laws.Append
import Derived.RangeFuncNested
import Derived.RangeFuncBound
import Derived.RangeFuncCalls
import Derived.RangeFuncLeaves
import Derived.LoopNIn
import Derived.OrdersIn
import Derived.Shelf.Abstract
import Derived.ScopeJumps
import Derived.Laws.AppendOwn
import Derived.Lib.AppendStr
import Derived.Maps.AppendAt
import Derived.Laws.BytesArg
import Derived.Lib.SliceRun
import Derived.Scope
import Derived.ArgAppend
namespace Go.Proofs.YtcmpkkapkdlfhaaGreat
open Go.RowKit Tryz
set_option maxHeartbeats 4000000
set_option maxRecDepth 100000
def eZ(ops:Array Oper)(b:bu)(i:Nat):Option (bi):=
 match ops[i]? with
 |some a=>match a.guard with
  |none=>match iw b a with
   |true=>some a.dst
   |false=>none
  |some _=>none
 |none=>none
def ex(ops:Array Oper)(b:bu)(i:Nat):Option (Sem Next):=
 match ops[i]? with
 |some a=>some (execOp (RS b) a)
 |none=>none
def Wx(x:Sem Value):Sem Next:=x >>= λa=>pure (.value a)
section
variable {D:List Deferred}{P:Program}{body:Code}{n:Nat}{w0:World}{S:br}{Q:Exit->Act->aI}
theorem KU{p:aH}{i:Nat}{l:aH}{k:List KI}{st:St}{dst:bi}{x:Sem Value}{X:Type}(C:X->Prop)(v:X->Value)(bk:X->ax)(m:X->bu)
  (b:eZ (aj (aa body p)) st.sl i=some dst) (e:ex (aj (aa body p)) st.sl i=some (Wx x)) (B:∀a,gw n st.sl dst (v a)=some (m a))
  (E:∀d,ab w0 S st.bk st.wn st.sz d->∃a c,C a∧x.run P d=.ok (v a) c∧st.sz<=c.z∧ab w0 S (bk a) st.wn c.z c)
  (y:∀a,C a->∀o,st.sz<=o->aF D P body n w0 S Q (.ops p l::k) ⟨m a,bk a,st.wn,o⟩):aF D P body n w0 S Q (.ops p (i::l)::k) st:=by
 intro f d h A;simp only[sem];rw[wpOps_cons];unfold eZ at b;unfold ex at e;split at b
 ·rename_i g j;simp only[j,aB]at e;split at b
  ·rename_i w;split at b
   ·rename_i z;simp only[aB]at b;have F:Region.wanted g (yielded (aj (aa body p)) f.tmps)=true:=by simp[Region.wanted,w]
    simp only[wpOp,j,aA F];refine .inl ?_;obtain⟨a,c,q,r,s,t⟩:=E d A;have u:(execOp f.eval g).run P d=.ok (.value (v a)) c:=by
     rw[h.RS z,e];simp only[Wx,Sem.run_bind,r,dS,Sem.run_pure]
    simp only[Oper.wp,u,Oper.upon_value];rw[b];exact y a q _ s _ _ (h.put (B a)) t
   ·cases b
  ·cases b
 ·cases b
theorem KV{p:aH}{i:Nat}{l:aH}{k:List KI}{st:St}{dst:bi}{x:Sem Value}(v:Value)(bk:ax){c:bu}
  (h:eZ (aj (aa body p)) st.sl i=some dst) (r:ex (aj (aa body p)) st.sl i=some (Wx x)) (o:gw n st.sl dst v=some c)
  (q:∀b,ab w0 S st.bk st.wn st.sz b->∃a,x.run P b=.ok v a∧st.sz<=a.z∧ab w0 S bk st.wn a.z a)
  (j:∀d,st.sz<=d->aF D P body n w0 S Q (.ops p l::k) ⟨c,bk,st.wn,d⟩):aF D P body n w0 S Q (.ops p (i::l)::k) st:=
 KU (X:=Unit) (λ_=>True) (λ_=>v) (λ_=>bk) (λ_=>c) h r (λ_=>o) (λb m=>let ⟨a,e,f,g⟩:=q b m; ⟨(),a,trivial,e,f,g⟩) (λ_ _=>j)
theorem fy{p:aH}{i:Nat}{l:aH}{k:List KI}{st:St}{dst:bi}{x:Sem Value}(v:Value){j:bu}
  (a:eZ (aj (aa body p)) st.sl i=some dst) (c:ex (aj (aa body p)) st.sl i=some (Wx x)) (s:gw n st.sl dst v=some j)
  (t:∀b,ab w0 S st.bk st.wn st.sz b->x.run P b=.ok v b)
  (q:aF D P body n w0 S Q (.ops p l::k) ⟨j,st.bk,st.wn,st.sz⟩):aF D P body n w0 S Q (.ops p (i::l)::k) st:=by
 intro d b f g;simp only[sem];rw[wpOps_cons];unfold eZ at a;unfold ex at c;split at a
 ·rename_i e h;simp only[h,aB]at c;split at a
  ·rename_i o;split at a
   ·rename_i r;simp only[aB]at a;have u:Region.wanted e (yielded (aj (aa body p)) d.tmps)=true:=by simp[Region.wanted,o]
    simp only[wpOp,h,aA u];refine .inl ?_;have m:(execOp d.eval e).run P b=.ok (.value v) b:=by
     rw[f.RS r,c];simp only[Wx,Sem.run_bind,t b g,dS,Sem.run_pure]
    simp only[Oper.wp,m,Oper.upon_value];rw[a];exact q _ _ (f.put s) g
   ·cases a
  ·cases a
 ·cases a
def fB(l:List UInt8):av:=l.map λa=>.int .u8 (a.toNat:Int)
theorem Fj(l:List UInt8):∀a∈fB l,a.oneCell'=true:=by
 intro a b;obtain⟨c,_,rfl⟩:=aT.1 b;rfl
theorem iY(w:World)(g:Nat)(c:Array Value):(w.setRow g c).z=w.z:=by simp[World.setRow,World.z]
theorem Fk(w:World)(g:Nat)(c:Array Value){j:Nat}(h:j≠g):(w.setRow g c).heap[j]?=w.heap[j]?:=by
 simp only[World.setRow];rw[Array.getElem?_modify,ay (Ne.symm h)]
theorem f9(w:World)(g:Nat)(c:Array Value):au (λa=>a=g) w (w.setRow g c):=
 ⟨rfl,rfl,rfl,by rw[iY]; exact bT _,λd _ b=>Fk w g c b⟩
theorem gZ{w:World}{g:Nat}{t:TypeId}{cs:av}(h:A2 w g t cs)(a:av):A2 (w.setRow g a.toArray) g t a:=setRow_heap w g _ _ t _ h
theorem Dc(w:World)(dT sT j e:TypeId)(g L k:Nat)(t:TypeId)(s:ByteArray)(cs:av)(hu:P.underlying dT=some (.slice e))(hs:(P.info? e).map (·.size)=some 1)(h:A2 w g t cs)(l:L<=cs.length) :
  (Builtin.copy_ #[dT,sT] j #[.slice (some ⟨g,0,none⟩) L k,.string s]).run P w=.ok (.int .i64 ((Nat.min s.size L:Nat):Int)) (w.setRow g (fB (s.data.toList.take L)++cs.drop (Nat.min s.size L)).toArray):=by
 obtain⟨o,i,m⟩:=gv.1 hs;have c:(fB (s.data.toList.take L)).length=Nat.min s.size L:=by
  simp only[fB,ey,dZ,Array.length_toList];exact Nat.min_comm _ _
 have n:Nat.min s.size L<=L:=Nat.min_le_right _ _;have b:=run_storeCells_at P g 0 t (fB (s.data.toList.take L)) 0 cs.toArray w h (by rw[c]; simp; omega) (Fj _);have d:List.take (s.size.min L) (s.data.toList.map λa=>(Value.int .u8 (a.toNat:Int)))=fB (s.data.toList.take L):=by
  simp only[fB,List.map_take];rw[List.take_eq_take_iff];have f:(s.data.toList.map λa=>(Value.int .u8 (a.toNat:Int))).length=s.size:=by simp
  rw[f];show min (min s.size L) s.size=min L s.size;omega
 simp only[bG,List.take_zero,List.nil_append,c]at b;simp only[Builtin.copy_];simp[run_underlying hu,Builtin.lenOf,Builtin.firstCells,sizeOf,typeInfo,i];rw[d,b];simp[goInt]
def uS(L:Nat)(s:ByteArray):List UInt8:=s.data.toList.take L++List.replicate (L-s.size) 0
def lz(L:Nat)(s:ByteArray):ByteArray:=⟨(uS L s).toArray⟩
theorem sd(L:Nat)(s:ByteArray):(uS L s).length=L:=by
 have a:s.data.toList.length=s.size:=by simp
 simp only[uS,bM,dZ,nD,a];omega
theorem KW(L:Nat)(s:ByteArray):(lz L s).size=L:=by
 show(uS L s).toArray.size=L
 simp[sd]
theorem Ns(L:Nat)(s:ByteArray):fB (s.data.toList.take L)++(List.replicate L (Value.int .u8 0)).drop (Nat.min s.size L)=fB (uS L s):=by
 simp only[uS,fB,List.map_append,List.map_replicate,List.drop_replicate];congr 2;show L-min s.size L=L-s.size;omega
theorem xb(w:World)(b dst e:TypeId)(g L c:Nat)(t:TypeId)(l:List UInt8)(hs:P.underlying b=some (.slice e))(he:P.underlying e=some (.int .u8))(h:P.underlying dst=some .string)(d:A2 w g t (fB l))(f:l.length=L) :
  (convert b dst (.slice (some ⟨g,0,none⟩) L c)).run P w=.ok (.string ⟨l.toArray⟩) w:=by
 subst f;refine run_convert_bytes_back w b dst e ⟨g,0,none⟩ c l hs he h (λa i=>?_);have:(⟨g,0,none⟩:Addr).add a=⟨g,a,none⟩:=by
  rw[bY,bG]
 rw[this];refine(d.cell a).trans ?_;simp[fB,i]
end
def I64(n:Int):Prop:=-9223372036854775808<=n∧n<=9223372036854775807
section
variable {D:List Deferred}{F:Fence}{m:Nat}{P:Program}{n:Nat}{w0:World}{S:br}{a:Act}{w:World}
theorem n6(y:∀f,F.fn f){o:Oper}{st:St}{h:OH}{r:Out}(b:qM P n o st h=some r)(z:J4 r.ob)(p:kF r.eqs)(d:dy D n st.sl a)(hm:ab w0 S st.bk st.wn st.sz w)
  {K:Act->aI} {Q:Exit->Act->aI} (j:∀l e,dy D n r.st.sl l->ab w0 S r.st.bk r.st.wn r.st.sz e->K l e):o.wpIn F m P a w K Q:=by
 refine⟨λf _=>y f,?_⟩;unfold qM at b;split at b
 ·rename_i q;have t:o.semAt F.round a.eval=execOp (RS st.sl) o:=by rw[Oper.semAt_eq _ _ _ (n4 q)]; exact d.RS q
  rw[t];split at b
  ·split at b
   ·rename_i u v A x k;split at b
    ·rename_i s c;simp only[aB]at b;subst b;obtain⟨e,g,i⟩:=iH P _ _ _ _ w _ k p hm;rw[g];exact j _ _ (d.put c) i
    ·cases b
   ·rename_i v A x k;split at b
    ·rename_i s c;simp only[aB]at b;subst b;obtain⟨e,g,i⟩:=iH P _ _ _ _ w _ k p hm;rw[g];exact j _ _ (d.put c) i
    ·cases b
   ·cases b
  ·split at b
   ·rename_i u C B;split at b
    ·rename_i s c;simp only[aB]at b;subst b;rw[mB B z.1 w];exact j _ _ (d.put c) hm
    ·cases b
   ·cases b
 ·cases b
theorem xc(j:∀e,F.fn e){ops:Array Oper}{i:Nat}{st:St}{h:OH}{r:Out}(b:jd P n ops st i h=some r)(l:J4 r.ob)(G:kF r.eqs)(d:dy D n st.sl a)(hm:ab w0 S st.bk st.wn st.sz w)
  {K:Act->aI} {Q:Exit->Act->aI} (k:∀E I,dy D n r.st.sl E->ab w0 S r.st.bk r.st.wn r.st.sz I->K E I):wpOpIn F m P ops Q i K a w:=by
 unfold jd at b;split at b
 ·cases b
 ·rename_i g M;simp only[wpOpIn,M];split at b
  ·rename_i f;have c:Region.wanted g (yielded ops a.tmps)=true:=by simp[Region.wanted,f]
   rw[aA c];exact n6 j b l G d hm k
  ·rename_i B J f;split at b
   ·cases b
   ·rename_i C H;split at b
    ·rename_i p y;have o:yielded ops a.tmps B=some p:=by
      have:=d.val C _ y;simp[yielded,H,this]
     split at b
     ·rename_i z;obtain⟨L,A,rfl⟩:=i2 b;have c:Region.wanted g (yielded ops a.tmps)=true:=by
       have v:p=h.dec:=l.1;have x:h.dec=J:=by simpa using z
       simp[Region.wanted,f,o,v,x]
      rw[aA c];exact n6 j A l.2 G d hm k
     ·rename_i z;obtain⟨L,A,rfl⟩:=i2 b;have c:¬Region.wanted g (yielded ops a.tmps)=true:=by
       have v:p=h.dec:=l.1;have x:¬h.dec=J:=by simpa using z
       simp[Region.wanted,f,o,v,x]
      rw[ay c];obtain⟨q,s,t,u⟩:=iy A d;exact⟨λe _=>j e,k _ _ q (by simp only[s,t,u]; exact hm)⟩
    ·rename_i N y;have o:yielded ops a.tmps B=none:=by
      have:=d.val C _ y;simp[yielded,H,this]
     have c:¬Region.wanted g (yielded ops a.tmps)=true:=by simp[Region.wanted,f,o]
     rw[ay c];obtain⟨q,s,t,u⟩:=iy b d;exact⟨λe _=>j e,k _ _ q (by rw[s,t,u]; exact hm)⟩
    ·cases b
end
def eB(F:Fence)(m:Nat)(P:Program)(body:Code)(Q:Exit->Act->aI):List KI->Exit->Act->aI
 |[],i,a,b=>Q i a b
 |.code f::c,.normal,a,b=>(aa body f).wpIn F m P (eB F m P body Q c) a b
 |.ops f e::c,.normal,a,b=>wpOpsIn F m P (aj (aa body f)) (eB F m P body Q c) e a b
 |.any _ _ _::_,.normal,_,_=>False
 |.zq _::c,.normal,a,b=>eB F m P body Q c .normal a b
 |.inv g::_,.normal,a,b=>g a b
 |.zq j::c,.exit d,a,b=>if d=j then eB F m P body Q c .normal a b else eB F m P body Q c (.exit d) a b
 |_::c,.exit d,a,b=>eB F m P body Q c (.exit d) a b
 |_::c,.goto e,a,b=>eB F m P body Q c (.goto e) a b
 |_::c,.ret,a,b=>eB F m P body Q c .ret a b
 |_::c,.panic h,a,b=>eB F m P body Q c (.panic h) a b
 |_::c,.outgrown,a,b=>eB F m P body Q c .outgrown a b
def et(F:Fence)(m:Nat)(D:List Deferred)(P:Program)(body:Code)(n:Nat)(w0:World)(S:br)(Q:Exit->Act->aI)(k:List KI)(st:St):Prop:=
 ∀a b,dy D n st.sl a->ab w0 S st.bk st.wn st.sz b->eB F m P body Q k .normal a b
section
variable {D:List Deferred}{F:Fence}{m:Nat}{P:Program}{body:Code}{n:Nat}{w0:World}{S:br}{Q:Exit->Act->aI}
theorem K8{p:aH}{k:List KI}(e:Exit)(a:Act)(w:World)(h:eB F m P body Q (.code p::k) e a w):Exit.then ((aa body p).wpIn F m P (eB F m P body Q k)) (eB F m P body Q k) e a w:=by
 cases e<;>exact h
theorem Nz{b:Nat}{k:List KI}(e:Exit)(a:Act)(w:World)(h:eB F m P body Q (.zq b::k) e a w):Exit.inBlock b (eB F m P body Q k) e a w:=by
 cases e<;>exact h
theorem Di{h:Nat}:∀(f b:List KI),iT h f=some b->∀c d,eB F m P body Q b .normal c d->eB F m P body Q f (.exit h) c d:=by
 intro f
 induction f with
 |nil=>intro b a; cases a
 |cons n f g=>
  intro b a c d e
  cases n with
  |zq l=>
   simp only[iT]at a;split at a
   ·rename_i i;have j:h=l:=bH i;simp only[aB]at a;subst a j;simpa[eB]using e
   ·rename_i i;have j:h≠l:=Nat.ne_of_beq_eq_false i;simp only[eB,ay j];exact g b a c d e
  |inv o=>exact g b a c d e
  |code k=>exact g b a c d e
  |ops k q=>exact g b a c d e
  |any k p r=>exact g b a c d e
theorem Dj(O:∀s,F.fn s):∀(s:Nat)(p:List OH)(o:List KI)(j:St)(i:Res),gz P body n s p o j=some i->J4 i.ob->kF i.eqs->et F m D P body n w0 S Q i.k i.st->et F m D P body n w0 S Q o j:=by
 intro s
 induction s with
 |zero=>
  intro p o j i a _ _ h;simp only[gz,aB]at a;subst a;exact h
 |succ s q=>
  intro p o j i a k l h
  cases o with
  |nil=>
   simp only[gz,aB]at a;subst a;exact h
  |cons I o=>
   cases I with
   |inv X=>
    simp only[gz,aB]at a;subst a;exact h
   |any B Y an=>
    simp only[gz,aB]at a;subst a;exact h
   |zq y=>
    simp only[gz]at a;intro b c d e;exact q p o j i a k l h b c d e
   |ops B ac=>
    simp only[gz]at a;split at a
    ·intro b c d e;exact q p o j i a k l h b c d e
    ·rename_i Z ak;split at a
     ·simp only[aB]at a;subst a;exact h
     ·rename_i M v;split at a
      ·rename_i ad W;obtain⟨t,u,rfl⟩:=C4 a;intro b c d e;have G:=iI k;have f:=q v _ _ t u G.2 (λr x=>l r (d5 _ x)) h;simp only[eB];rw[wpOpsIn_cons];exact xc O W G.1 (λr x=>l r (cE _ x)) d e (λJ T U V=>f J T U V)
      ·cases a
   |code B=>
    simp only[gz]at a;split at a
    ·rename_i g;intro b c d e;simp only[eB,g];exact wpIn_skip (q p o j i a k l h b c d e)
    ·rename_i K L g;intro b c d e;have f:=q p _ j i a k l h b c d e;simp only[eB,cg,g,aa]at f;simp only[eB,g];refine wpIn_seq (wpIn_mono f λr b c w=>?_);have N:=K8 r b c w;simpa only[cg,g,aa]using N
    ·rename_i y ops g;intro b c d e;have f:=q p _ j i a k l h b c d e;simp only[eB,g,aj]at f;simp only[eB,g];exact wpIn_region f
    ·rename_i H K L g;split at a
     ·simp only[aB]at a;subst a;exact h
     ·rename_i M v;split at a
      ·rename_i A C;split at a
       ·obtain⟨t,u,rfl⟩:=tf a;intro b c d e;have f:=q v _ j t u k.2 l h b c d e;simp only[eB,cg,g,aa]at f;simp only[eB,g];have z:A=true:=k.1;subst z;exact wpIn_cond_true (d.eval C) f
       ·obtain⟨t,u,rfl⟩:=tf a;intro b c d e;have f:=q v _ j t u k.2 l h b c d e;simp only[eB,cg,g,aa]at f;simp only[eB,g];have z:A=false:=k.1;subst z;exact wpIn_cond_false (d.eval C) f
      ·cases a
    ·rename_i y H g;intro b c d e;have f:=q p _ j i a k l h b c d e;simp only[eB,cg,g,aa]at f;simp only[eB,g];exact wpIn_block (wpIn_mono f λr b c w=>Nz r b c w)
    ·rename_i y g;split at a
     ·rename_i E R;intro b c d e;have f:=q p E j i a k l h b c d e;simp only[eB,g];exact wpIn_exit (Di o E R b c f)
     ·cases a
    ·simp only[aB]at a;subst a;exact h
theorem yZ{k:List KI}{st:St}(d:aH)(e:List Bool)(h:et F m D P body n w0 S Q k (Nm d e st)):et F m D P body n w0 S Q k st:=
 λf g a j=>h f g ⟨a.size,a.df,λb c i=>a.val b c (dU d b c i)⟩ (j.sub (nH e st.bk))
theorem dQ(p:∀f,F.fn f){f:Nat}{hs:List OH}{k:List KI}{st:St}(c:aH)(d:List Bool){ob:List Prop}{rs:List (Nat×Nat×Nat)}{b:List KI}{e:St}
  (h:Res.prune c d (gz P body n f hs k st)=some ⟨ob,aX rs,b,e⟩) (r:J4 ob) (q:et F m D P body n w0 S Q b e):et F m D P body n w0 S Q k st:=by
 cases a:gz P body n f hs k st with
 |none=>rw[a]at h; cases h
 |some g=>
  rw[a]at h;simp only[Res.prune,aB,Res.mk.injEq]at h;obtain⟨i,j,l,o⟩:=h;refine Dj p f hs k st g a (by rw[i]; exact r) (by rw[j]; exact dX rs) ?_;rw[l];refine yZ c d ?_;rw[o];exact q
theorem mj(d:∀f,F.fn f)(f:Nat)(hs:List OH){k:List KI}{st:St}(b:aH)(es:List Ev)(rs:List (Nat×Nat×Nat))(a:List KI)(c:St)(e:et F m D P body n w0 S Q a c)
  (h:Res.prune b [] (gz P body n f hs k st)=some ⟨XU es,aX rs,a,c⟩:=by kernel_rfl):et F m D P body n w0 S Q k st:=dQ d b [] h (KQ es) e
theorem YieldAt.mono{W:World}{l:Nat}{args:Array Value}{R R':Ending->aI}(h:YieldAt F m P l args W R)(f:∀a b,R a b->R' a b):YieldAt F m P l args W R':=by
 obtain⟨c,g,i,body,d,e⟩:=h;exact⟨c,g,i,body,d,e.mono f⟩
theorem gE(J:∀j,F.fn j)(M:F.depth=none){p:aH}{i:Nat}{l:aH}{k:List KI}{st:St}{dst:bi}{lp:Nat}{args:Array Value}{c:Bool}{gd:bi}
  (A:ex (aj (aa body p)) st.sl i=some (Instr.yield lp args))
  (h:((aj (aa body p))[i]?).map (λa=>(a.dst,a.guard.map (·.1),(a.guard.map (·.2)).getD true,iw st.sl a))=some (dst,gd,true,true))
  (ad:∀d,gd=some d->(((aj (aa body p))[d]?).bind (·.dst)).bind (gh st.sl)=some (.bool c)) (L:gd.isSome=true->c=true)
  (V:∀e,ab w0 S st.bk st.wn st.sz e->YieldAt F (m-1) P lp args e (λx b=>∃o v,x=.returned o∧gw n st.sl dst o=some v∧∃r w q,ab b q r w b.z b∧et F m D P body n b q Q (.ops p l::k) ⟨v,r,w,b.z⟩)) :
  et F m D P body n w0 S Q (.ops p (i::l)::k) st:=by
 intro B e t O;simp only[eB];rw[wpOpsIn_cons]
 cases g:(aj (aa body p))[i]? with
 |none=>rw[g]at h; cases h
 |some a=>
  simp only[g,Option.map_some,aB,bw]at h;obtain⟨I,f,s,z⟩:=h;simp only[ex,g,aB]at A;have U:Region.wanted a (yielded (aj (aa body p)) B.tmps)=true:=by
   cases u:a.guard with
   |none=>simp[Region.wanted,u]
   |some W=>
    obtain⟨d,aR⟩:=W;rw[u]at f s;simp only[Option.map_some,Option.getD_some]at f s;have K:=ad d f.symm;obtain⟨C,R,Z⟩:=Option.bind_eq_some_iff.1 K;have T:=t.val C _ Z;have ac:=L (by rw[<-f]; rfl);simp[Region.wanted,u,yielded,R,T,ac,s]
  simp only[wpOpIn,g,aA U];refine⟨λj _=>J j,?_⟩;rw[Oper.semAt_eq _ _ _ (n4 z),t.RS z,A];obtain⟨an,aq,aV,ak,X,Y⟩:=V e O;rw[X];refine⟨λy=>(by rw[M]at y; cases y),Y.mono λx b N=>?_⟩;obtain⟨o,v,rfl,E,r,w,q,G,H⟩:=N;rw[I];exact H _ _ (t.put E) G
end
section
variable {P:Program}{body:Code}{n:Nat}
theorem pP{F:Fence}{m:Nat}{d:FuncId}{a:Func}{l:av}{w:World}{R:Ending->aI}{S:br}{bk:ax}{wn:List Wn}
  (i:∀e,F.fn e) (r:F.round=none) (k:P.funcs[d]?=some a) (j:a.body=some body) (v:a.ntmps=n) (u:l.length<=n) (hm:ab w S bk wn w.z w)
  (h:et F m [] P body n w S (bodyPost P a R) [.code []] ⟨rX 0 l,bk,wn,w.z⟩):CallsIn F m P d l.toArray w R:=by
 refine callsIn_of_wp k j (i _) ?_ r;have o:aa body []=body:=by cases body<;>rfl
 have c:=h { tmps:=l.toArray++Array.replicate (a.ntmps-l.toArray.size) undef,defers:=[] } w
  ⟨by simp; omega,rfl,λf g p=>by
   obtain⟨_,b⟩:=ly l 0 f g p;simp only[Nat.sub_zero]at b;have q:=(cF.1 b).1;rw[Array.getElem?_append_left (by simpa using q)];simpa using b⟩ hm
 simp only[eB,o]at c;exact wpIn_mono c λt s w b=>b
theorem eM{F:Fence}{m:Nat}{D:List Deferred}{w0:World}{S:br}{Q:Exit->Act->aI}{st:St}(h:∀a b,dy D n st.sl a->ab w0 S st.bk st.wn st.sz b->Q .normal a b):et F m D P body n w0 S Q [] st:=h
theorem iL{F:Fence}{m:Nat}{w0:World}{S:br}{b:Func}{R:Ending->aI}{st:St}(e:b.results.toList=[])
  (h:∀a,ab w0 S st.bk st.wn st.sz a->R (.returned (kH [])) a):et F m [] P body n w0 S (bodyPost P b R) [] st:=by
 intro f a c d;exact⟨c.df,_,jE (vs:=[]) (rs:=[]) (hs:=[]) c d (by rw[e]; rfl),h a d⟩
theorem NA{F:Fence}{m:Nat}{Q:Exit->Act->aI}{a:Act}{w:World}(h:Q .ret a w):∀(b:List KI),eB F m P body Q b .ret a w:=by
 intro b
 induction b with
 |nil=>exact h
 |cons c b d=>cases c<;>exact d
theorem pL{Q:Exit->Act->aI}{a:Act}{w:World}(h:Q .ret a w):∀(b:List KI),sem P body Q b .ret a w:=by
 intro b
 induction b with
 |nil=>exact h
 |cons c b d=>cases c<;>exact d
theorem ug{F:Fence}{m:Nat}{D:List Deferred}{w0:World}{S:br}{Q:Exit->Act->aI}{st:St}{p:aH}{k:List KI}(c:aa body p=.ret)
  (h:∀a b,dy D n st.sl a->ab w0 S st.bk st.wn st.sz b->Q .ret a b):et F m D P body n w0 S Q (.code p::k) st:=by
 intro a b d e;simp only[eB,c];exact wpIn_ret (NA (h a b d e) k)
def kJ(D:Nat):List Deferred:=[{ target:=.collected D,args:=#[] }]
theorem ab.shut{w0 w:World}{S:br}{bk:ax}{g D:Nat}(hm:ab w0 S bk [] g w)(j:w.heap[D]?=some (.deferred (some []))):ab w0 (λe=>S e∨e=D) bk [] g (w.putObj D (.deferred Option.none)):=by
 have m:∀a∈bk,a.g≠D:=λa b c=>by
  have d:=hm.zq a b;unfold A2 at d;rw[c,j]at d;cases d
 refine⟨by simpa using hm.size,λa b=>?_,λa b l=>(hm.own a b l).imp_left .inl,hm.nd,?_,z1⟩
 ·exact(World.putObj_heap_other (m a b)).trans (hm.zq a b)
 ·refine⟨hm.x2.os,hm.x2.tape,hm.x2.output,by simpa using hm.x2.size,λi k f=>?_⟩;exact(World.putObj_heap_other (λc=>f (.inr c))).trans (hm.x2.block i k (λh=>f (.inl h)))
theorem yA{w0:World}{S:br}{m:Nat}{c:Func}{R:Ending->aI}{g:bu}{bk:ax}{i:Nat}{vs:av}{rs:List (Nat×Nat×Nat)}{D:Nat}(hs:List (List MH))
  (h:pI P [] bk g c.results.toList hs=some (vs,aX rs)) (j:∀w,ab w0 (λb=>S b∨b=D) bk [] i w->R (.returned (kH vs)) w)
  {a:Act} {w:World} (f:dy (kJ D) n g a) (hm:ab w0 S bk [] i w) (e:w.heap[D]?=some (.deferred (some []))):bodyPostM Fence.wide m P c R .ret a w:=by
 have d:=hm.shut e;simp only[bodyPostM,f.df,kJ];refine⟨z1,.inl ⟨_,_,rfl,run_takeDeferred e,?_⟩⟩;exact⟨_,jE (D:=kJ D) f d h,j _ d⟩
theorem u0{w0:World}{S:br}{m:Nat}{c:Func}{R:Ending->aI}{p:aH}{k:List KI}{e:bu}{bk:ax}{f:Nat}{vs:av}{rs:List (Nat×Nat×Nat)}{D:Nat}(hs:List (List MH))
  (q:D<w0.z) (g:w0.heap[D]?=some (.deferred (some []))) (j:¬S D)
  (l:aa body p=.ret) (h:pI P [] bk e c.results.toList hs=some (vs,aX rs)) (i:∀a,ab w0 (λb=>S b∨b=D) bk [] f a->R (.returned (kH vs)) a) :
  aF (kJ D) P body n w0 S (bodyPostM Fence.wide m P c R) (.code p::k) ⟨e,bk,[],f⟩:=by
 intro r a o d;simp only[sem,l];refine wp_ret ?_;exact pL (yA hs h i o d ((d.x2.block D q j).trans g)) k
theorem ma{m:Nat}{d:FuncId}{a:Func}{l:av}{w:World}{R:Ending->aI}{S:br}{bk:ax}{wn:List Wn}
  (i:P.funcs[d]?=some a) (g:a.body=some body) (s:a.ntmps=n) (r:l.length<=n) (hm:ab w S bk wn w.z w)
  (h:aF [] P body n w S (bodyPostM Fence.wide m P a R) [.code []] ⟨rX 0 l,bk,wn,w.z⟩):Calls P d l.toArray w R:=by
 refine(callsIn_wide (n:=m)).1 (callsIn_of_wp_marks i g trivial (wpIn_wide.2 ?_) rfl);have j:aa body []=body:=by cases body<;>rfl
 have c:=h { tmps:=l.toArray++Array.replicate (a.ntmps-l.toArray.size) undef,defers:=[] } w
  ⟨by simp; omega,rfl,λe f k=>by
   obtain⟨_,b⟩:=ly l 0 e f k;simp only[Nat.sub_zero]at b;have o:=(cF.1 b).1;rw[Array.getElem?_append_left (by simpa using o)];simpa using b⟩ hm
 simp only[sem,j]at c;exact wp_mono c λq p w b=>b
def ao(bk:ax)(k:Nat):Prop:=∃a∈bk,a.rw=true∧a.g=k
theorem ab.again{w0 w:World}{S:br}{bk:ax}{wn:List Wn}{k:Nat}(hm:ab w0 S bk wn k w):ab w (ao bk) bk wn w.z w:=by
 refine⟨rfl,hm.zq,λa c d=>.inl ⟨a,c,d,rfl⟩,hm.nd,au.refl _ _,λg f=>?_⟩;obtain⟨h,i,n⟩:=hm.Ww g f;refine⟨λ⟨a,c,d,e⟩=>?_,cD i hm.x2.size,λl m j=>?_⟩
 ·rcases hm.own a c d with b|b
  ·exact h (e▸b)
  ·rw[e]at b;omega
 ·exact hm.WK f j
theorem ab.W4{w0 w f:World}{S:br}{bk Ex:ax}{wn:List Wn}{l:Nat}(hm:ab w0 S bk wn l w)(h:ab w (ao bk) Ex wn f.z f)
  (n:Ex.map (λa=>(a.g,a.rw))=bk.map (λa=>(a.g,a.rw))):ab w0 S Ex wn f.z f:=by
 have m:∀a∈Ex,∃b∈bk,b.g=a.g∧b.rw=a.rw:=λa c=>by
  have e:(a.g,a.rw)∈Ex.map (λa=>(a.g,a.rw)):=aT.2 ⟨a,c,rfl⟩;rw[n]at e;obtain⟨b,g,d⟩:=aT.1 e;simp only[bw]at d;exact⟨b,g,d.1,d.2⟩
 refine⟨rfl,h.zq,λa c i=>?_,h.nd,hm.x2.trans h.x2 (λo p ⟨a,c,i,d⟩=>?_),hm.Ww⟩
 ·obtain⟨b,g,e,k⟩:=m a c;rw[<-e];exact hm.own b g (k.trans i)
 ·rcases hm.own a c i with j|j
  ·exact d▸j
  ·omega
theorem qQ{B:Nat}{w e:World}{bk:ax}(g:∀a∈bk,A2 w a.g a.t a.cs)(h:au (ao bk) w e):KeepsFrom B w e:=by
 refine⟨h.size,λf l _ c d=>?_⟩;have k:=(dp.1 c).1;refine(h.block f k (λ⟨a,j,_,i⟩=>?_)).trans c;have b:=g a j;unfold A2 at b;rw[i,c]at b;simp only[aB]at b;rw[b]at d;cases d
theorem sg{α:Type}{B:Nat}{w0:World}{S:br}{u:α->ax}{wn:List Wn}{o:α->Prop}(y:w0.z<=B) :
  OwnFrom B (λ(l:α) g=>o l∧ab w0 S (u l) wn g.z g∧B<=g.z):=by
 rintro w g p A ⟨s,b,v⟩ e t;have j:∀a c,g.heap[a]?=some c->(a<B∨c.isCells=true)->p.heap[a]?=some c:=by
  intro a c f d;refine(e.block a (dp.1 f).1 (λn=>?_)).trans f;obtain⟨x,z,h,i⟩:=t a n.symm;rw[f]at h;cases h;rcases d with d|d
  ·omega
  ·rw[d]at i;cases i
 refine⟨s,⟨rfl,λm q=>j _ _ (b.zq m q) (.inr rfl),b.own,b.nd,⟨e.os.trans b.x2.os,e.tape.trans b.x2.tape,e.output.trans b.x2.output,az b.x2.size e.size,λa k r=>?_⟩,b.Ww⟩,az v e.size⟩;have d:=b.x2.block a k r;obtain⟨c,f⟩:∃c,w0.heap[a]?=some c:=⟨_,fi k⟩;rw[f]at d;rw[f];exact j a c d (.inl yq)
theorem Dk{α:Type}{w0:World}{S:br}{Q:Exit->Act->aI}{p:aH}{k:List KI}{C:bu}{bk:ax}{wn:List Wn}{s:Nat}
  {g:Operand} {pt:Tmp} {Xp Y:Code} {gf:Nat} {lb:Array Value} {enc:α->Value} {Sq X7:List α->Prop} {N Bn:Nat}
  (O:aa body p=.rangeFunc g #[pt] Xp Y) (a6:opd C g=some (.func (.func gf) #[] lb)) (a0:∀an f,(callFunc gf an).run P f=.ok (.enter gf an) f)
  (a9:∀f,ab w0 S bk wn s f->Bn<s) (bb:¬ao bk Bn)
  (b2:∀f,ab w0 S bk wn s f->SeqStopsK Fence.wide 4 P gf lb (λc=>#[enc c]) (λa h=>au (λc=>c≠Bn) a h) Sq X7 N f)
  (D L:List α->Prop) (m J:List α->ax) (h0:m []=bk) (bd:D []) (W:∀b,(m b).map (λd=>(d.g,d.rw))=bk.map (λd=>(d.g,d.rw))) (bg:∀b,(J b).map (λd=>(d.g,d.rw))=bk.map (λd=>(d.g,d.rw)))
  (X:α->bu)
  (ak:α->bu) (b3:∀c,gw n C (some pt) (enc c)=some (ak c))
  (b7:∀(c:α)(o:Nat)(a:World),et (Fence.wide.inRound o) 3 [] P body n a z8 (λv w h=>v=.normal∧au z8 a h∧dy [] n (X c) w) [.code (p++[0])] ⟨ak c,[],[],a.z⟩)
  (b4:∀(o:Nat)(b:List α)(c:α)(a:World)(z:Nat),s<=z->D b->b.length<N->et (Fence.wide.inRound o) 3 [] P body n a (ao (m b))
   (λv _ h=>(v=.normal∧D (b++[c])∧ab a (ao (m b)) (m (b++[c])) wn h.z h)∨(v=.ret∧L (b++[c])∧ab a (ao (m b)) (J (b++[c])) wn h.z h)) [.code (p++[1])] ⟨X c,m b,wn,z⟩)
  (b5:∀(l:Nat)(B:List α)(a:World),Sq B->D B->ab w0 S (m B) wn a.z a->s<=l->s<=a.z->a.heap[l]?=some (.deferred (some []))->aF (kJ l) P body n a (ao (m B)) Q k ⟨C,m B,wn,a.z⟩)
  (b6:∀(l:Nat)(b:List α)(a:World),X7 b->L b->ab w0 S (J b) wn a.z a->s<=l->s<=a.z->a.heap[l]?=some (.deferred (some []))->∀r,dy (kJ l) n C r->Q .ret r a) :
  aF [] P body n w0 S Q (.code p::k) ⟨C,bk,wn,s⟩:=by
 intro r f u G;simp only[sem,O];have a8:f.z=s:=G.size;have ad:w0.z<=f.z:=G.x2.size;have a5:∀b,ao (m b)=ao bk:=λb=>by
  funext y;apply propext;have j:∀(o:ax),ao o y↔(y,true)∈o.map (λd=>(d.g,d.rw)):=λo=>by
   simp only[ao,aT,bw];exact⟨λ⟨d,j,t,i⟩=>⟨d,j,i,t⟩,λ⟨d,j,t,i⟩=>⟨d,j,i,t⟩⟩
  rw[j,j,W]
 have b0:aa body (p++[1])=Y:=by simp only[cg,O,aa]
 refine(wpIn_wide (n:=5)).1 ?_;refine wpIn_rangeFunc_ownH (encs:=λc=>#[enc c]) (N:=N) (F:=Fence.wide) (w0:=f) (gf:=gf) (lb:=lb) rfl yq (u.eval a6) trivial a0 (b2 f G) (λe a1=>e.trans a1 (λ_ _=>id)) ?hKb (Below.refl _ _) (λ_=>rfl)
  (λb a=>D b∧ab w0 S (m b) wn a.z a∧f.z<=a.z)
  (λK b a=>(K=.ret∧L b)∧ab w0 S (J b) wn a.z a∧f.z<=a.z) (sg ad) (λK=>sg ad) ⟨bd,by rw[h0,a8]; exact G,bT _⟩
  (λc w _=>dy [] n (X c) w) (λc w _ _ _ _ e _ _=>e) ?assign ?body ?done ?stop
 case hKb=>
  intro a o aq cl cb R _ _;have ca:=a9 f G;exact⟨rfl,rfl,rfl,z1,λk _ cf=>World.putObj_heap_other yq⟩
 case assign=>
  intro o b c a b8 q E;have bt:aa body (p++[0])=Xp:=by simp only[cg,O,aa]
  have bl:dy [] n C { tmps:=r.tmps,defers:=[] }:=⟨u.size,rfl,u.val⟩;have j:=b7 c o a _ a (bl.put (b3 c)) (ab.none a _);simp only[eB,bt]at j;have bs:({ tmps:=(#[pt].zip #[enc c]).foldl (λaR (p,aV)=>aR.setIfInBounds p aV) r.tmps,defers:=[] }:Act)=({ tmps:=r.tmps,defers:=[] }:Act).put (some pt) (enc c):=by
   simp[Act.put]
  rw[<-bs]at j;refine wpIn_mono j λv w h t=>?_;obtain⟨rfl,i,x⟩:=(show v=.normal∧_∧_ from t);obtain⟨A,q,H⟩:=q;have a2:=q.same i;exact E w _ ⟨i.size,λk aq _ R _=>(i.block k (dp.1 R).1 id).trans R⟩ (i.mono (λ_ _ e=>e.elim)) ⟨A,a2.2,az H i.size⟩ x
 case body=>
  rintro o b c w a _ _ ⟨A,q,H⟩ a3 b1;have j:=b4 o b c a a.z yq A b1 w a a3 q.again;simp only[eB,b0]at j;refine wpIn_mono j λv b9 h t=>?_;have ac:∀I,(I.map (λd:Bk=>(d.g,d.rw))=bk.map (λd=>(d.g,d.rw)))->ab a (ao (m b)) I wn h.z h->KeepsFrom f.z a h∧au (λc=>c≠Bn) a h∧ab w0 S I wn h.z h∧f.z<=h.z:=λI a7 e=>by
   refine⟨qQ q.zq e.x2,e.x2.mono (λk _ i x=>?_),q.W4 e (a7.trans (W b).symm),az H e.x2.size⟩;rw[a5]at i;exact bb (x▸i)
  cases v with
  |normal=>
   rcases (show _∨_ from t)with⟨_,i,x⟩|⟨e,_⟩
   ·obtain⟨T,Z,U,V⟩:=ac _ (W _) x;exact⟨T,Z,i,U,V⟩
   ·cases e
  |ret=>
   rcases (show _∨_ from t)with⟨e,_⟩|⟨_,i,x⟩
   ·cases e
   ·obtain⟨T,Z,U,V⟩:=ac _ (bg _) x;exact⟨T,⟨rfl,i⟩,U,V⟩
  |_=>rcases (show _∨_ from t)with⟨e,_⟩|⟨e,_⟩<;>cases e
 case done=>
  rintro l B a a4 M ⟨A,q,H⟩ E;have j:=b5 l B a M A q yq yq E { r with defers:={ target:=.collected l,args:=#[] }::r.defers } a ⟨u.size,by simp[u.df,kJ],u.val⟩ q.again;exact j
 case stop=>
  rintro l K b a a4 M ⟨⟨rfl,A⟩,q,H⟩ E;refine wpIn_ret (pL (b6 l b a M A q yq yq E { r with defers:={ target:=.collected l,args:=#[] }::r.defers } ⟨u.size,by simp[u.df,kJ],u.val⟩) k)
end
structure aZ where
 used:Bool
 (Bf de ds:Int)
 block:ByteArray
 op:Bool
 (ie is mask:Int)
 A9:ByteArray
structure ck where
 (kind Al BV seq mask node oe os:Int)
 block:ByteArray
structure dw where
 (st ep ou:Int)
 rc:aZ
def aZ.cells(r:aZ):av:=[.bool r.used,.int .i64 r.Bf,.int .i64 r.de,.int .i64 r.ds,.string r.block,.bool r.op,.int .i64 r.ie,.int .i64 r.is,.int .i64 r.mask,.string r.A9]
def ck.cells(q:ck):av:=[.int .i64 q.kind,.int .i64 q.Al,.int .i64 q.BV,.int .i64 q.seq,.int .i64 q.mask,.int .i64 q.node,.int .i64 q.oe,.int .i64 q.os,.string q.block]
def dw.cells(s:dw):av:=[.int .i64 s.st,.int .i64 s.ep,.int .i64 s.ou]++s.rc.cells
def QB:ByteArray:=⟨#[]⟩
section
variable {D:List Deferred}{P:Program}{body:Code}{n:Nat}{w0:World}{S:br}{Q:Exit->Act->aI}
theorem um{p:aH}{k:List KI}{st:St}{f:Nat}{ls:cj}(b:jf (aa body p)=true)(hm:P.follows .mixedOrders=true)(j:(aj (aa body p)).size=f)
  (i:Array.replicate (aj (aa body p)).size false=ls) (h:aF D P body n w0 S Q (.any p f ls::k) st):aF D P body n w0 S Q (.code p::k) st:=by
 intro d c g a;obtain⟨l,b⟩:=iU b;subst i j;simp only[sem];rw[b];refine wp_region_any hm ?_;have e:=h d { c with drawn:=c.drawn+1 } g ⟨a.size,a.zq,a.own,a.nd,a.x2.drew,a.Ww⟩;simpa only[sem]using e
def K1(D:List Deferred)(P:Program)(body:Code)(n:Nat)(w0:World)(S:br)(Q:Exit->Act->aI)(p:aH)(f:Nat)(k:List KI)(ls:cj)(st:St)(i:Nat):Prop:=
 ∀a b,dy D n st.sl a->ab w0 S st.bk st.wn st.sz b->wpOp P (aj (aa body p)) (sem P body Q k) i (wpAny P .any (aj (aa body p)) (sem P body Q k) f (ls.setIfInBounds i true)) a b
theorem pA{p:aH}{f i:Nat}{k:List KI}{ls ls':cj}{st e:St}{h0:OH}{ob:List Prop}{rs:List (Nat×Nat×Nat)}{d:aH}(q:ls.setIfInBounds i true=ls')
  (h:Out.prune d (jd P n (aj (aa body p)) st i h0)=some ⟨ob,aX rs,e⟩) (s:J4 ob) (o:aF D P body n w0 S Q (.any p f ls'::k) e):K1 D P body n w0 S Q p f k ls st i:=by
 subst q;intro x y m r;obtain⟨g,t,a,b,c⟩:=kI h;dsimp only at a b c;refine lx t (by rw[a]; exact s) (by rw[b]; exact dX rs) m r (λj u v w=>?_);have l:=fM (D:=D) (P:=P) (body:=body) (n:=n) (w0:=w0) (S:=S) (Q:=Q) (k:=.any p f (ls.setIfInBounds i true)::k) (st:=g.st) d [] (by rw[c]; exact o) j u v w;simpa only[sem]using l
theorem YW{p:aH}{f i:Nat}{k:List KI}{ls:cj}{st:St}(ls':cj)(h0:OH)(e:aH)(ob:List Prop)(rs:List (Nat×Nat×Nat))(a:St)(d:J4 ob)(b:aF D P body n w0 S Q (.any p f ls'::k) a)(c:ls.setIfInBounds i true=ls':=by kernel_rfl)
  (h:Out.prune e (jd P n (aj (aa body p)) st i h0)=some ⟨ob,aX rs,a⟩:=by kernel_rfl):K1 D P body n w0 S Q p f k ls st i:=pA c h d b
theorem iq{p:aH}{f:Nat}{k:List KI}{ls:cj}{st:St}{l:aH}(c:Region.ready .any (aj (aa body p)) ls=l)(Wt:l≠[])(h:J4 (l.map (K1 D P body n w0 S Q p f k ls st))) :
  aF D P body n w0 S Q (.any p (f+1) ls::k) st:=by
 intro d e j m;simp only[sem];refine⟨λg=>absurd (c.symm.trans g) Wt,λb a=>?_⟩;rw[c]at a;have i:∀(l:aH),J4 (l.map (K1 D P body n w0 S Q p f k ls st))->∀b∈l,K1 D P body n w0 S Q p f k ls st b:=by
  intro l
  induction l with
  |nil=>intro _ b a; cases a
  |cons q l o=>
   intro h b a;rcases bj.1 a with rfl|a
   ·exact h.1
   ·exact o h.2 b a
 exact i l h b a d e j m
end
def u3(P:Program)(n:Nat)(w0:World)(S:br)(ops:Array Oper)(o:Oper)(st:St)(dec:Bool)(h:QH):Option Out:=
 match o.guard with
 |none=>n5 P n w0 S o st h
 |some (b,want)=>match (ops[b]?).bind (·.dst)with
  |none=>none
  |some c=>match gh st.sl c with
   |some (.bool a)=>match (dec==want)with
    |true=>Out.ask (a=dec) (n5 P n w0 S o st h)
    |false=>Out.ask (a=dec) (lw n o st)
   |some (.tuple _)=>lw n o st
   |_=>none
def fu(P:Program)(n:Nat)(w0:World)(S:br)(ops:Array Oper):List Oper->St->List (Bool×QH)->Option Out
 |[],c,_=>some ⟨[],[],c⟩
 |_::_,_,[]=>none
 |f::e,c,(h,d)::g=>match u3 P n w0 S ops f c h d with
  |none=>none
  |some a=>match fu P n w0 S ops e a.st g with
   |none=>none
   |some b=>some ⟨a.ob++b.ob,a.eqs++b.eqs,b.st⟩
section
variable {D:List Deferred}{P:Program}{n:Nat}{w0:World}{S:br}{ops:Array Oper}
theorem Dl{o:Oper}{st:St}{r:Out}(a:lw n o st=some r):r.st.bk=st.bk∧r.st.wn=st.wn∧r.st.sz=st.sz:=by
 unfold lw at a;split at a
 ·simp only[aB]at a;subst a;exact⟨rfl,rfl,rfl⟩
 ·cases a
theorem y0{o:Oper}{l:List Oper}{st:St}{i:Bool}{h:QH}{r:Out}(c:u3 P n w0 S ops o st i h=some r)(m:J4 r.ob)(J:kF r.eqs){a:Act}(k:dy D n st.sl a){K:Act->Prop}{f:Prop}
  (B:∀e,dy D n r.st.sl e->wpQuiet P ops (fU w0 S st.bk st.wn st.sz) K l e∧f):wpQuiet P ops (fU w0 S st.bk st.wn st.sz) K (o::l) a∧f:=by
 have F:∀b,n5 P n w0 S o st h=some b->J4 b.ob->b.eqs=r.eqs->b.st=r.st->Region.wanted o (yielded ops a.tmps)=true->wpQuiet P ops (fU w0 S st.bk st.wn st.sz) K (o::l) a∧f:=by
  intro b d g I s w;have t:=r9 d g (by rw[I]; exact J) k (K:=λe=>wpQuiet P ops (fU w0 S st.bk st.wn st.sz) K l e∧f) (λe M=>B e (by rw[<-s]; exact M));obtain⟨H,L,E⟩:=t;refine⟨?_,E.2⟩;simp only[wpQuiet,aA w];exact⟨H,L,E.1⟩
 have skip:∀b,lw n o st=some b->b.st=r.st->Region.wanted o (yielded ops a.tmps)=false->wpQuiet P ops (fU w0 S st.bk st.wn st.sz) K (o::l) a∧f:=by
  intro b d s w;have t:=iy d k;have A:=B _ (by rw[<-s]; exact t.1);refine⟨?_,A.2⟩;have N:¬Region.wanted o (yielded ops a.tmps)=true:=by
   rw[w];decide
  simp only[wpQuiet,ay N];exact A.1
 unfold u3 at c;split at c
 ·rename_i j;exact F r c m rfl rfl (by simp[Region.wanted,j])
 ·rename_i y G j;split at c
  ·cases c
  ·rename_i z C;split at c
   ·rename_i q u;have p:yielded ops a.tmps y=some q:=by
     have:=k.val z _ u;simp[yielded,C,this]
    split at c
    ·rename_i v;obtain⟨b,x,rfl⟩:=i2 c;have d:q=i:=m.1;have g:i=G:=by simpa using v
     exact F b x m.2 rfl rfl (by simp[Region.wanted,j,p,d,g])
    ·rename_i v;obtain⟨b,x,rfl⟩:=i2 c;have d:q=i:=m.1;have g:¬i=G:=by simpa using v
     exact skip b x rfl (by simp[Region.wanted,j,p,d,g])
   ·rename_i O u;have p:yielded ops a.tmps y=none:=by
     have:=k.val z _ u;simp[yielded,C,this]
    exact skip r c rfl (by simp[Region.wanted,j,p])
   ·cases c
theorem K9{o:Oper}{st:St}{e:Bool}{h:QH}{r:Out}(a:u3 P n w0 S ops o st e h=some r):r.st.bk=st.bk∧r.st.wn=st.wn∧r.st.sz=st.sz:=by
 unfold u3 at a;split at a
 ·exact pJ a
 ·split at a
  ·cases a
  ·split at a
   ·split at a
    ·obtain⟨d,c,rfl⟩:=i2 a;have b:=pJ c;exact b
    ·obtain⟨d,c,rfl⟩:=i2 a;have b:=Dl c;exact b
   ·exact Dl a
   ·cases a
theorem pQ:∀(f:List Oper)(b:St)(h:List (Bool×QH))(c:Out),fu P n w0 S ops f b h=some c->J4 c.ob->kF c.eqs->∀(e:Act),dy D n b.sl e->∀(d:Act->Prop),
  (∀g,dy D n c.st.sl g->d g)->wpQuiet P ops (fU w0 S b.bk b.wn b.sz) d f e∧c.st.bk=b.bk∧c.st.wn=b.wn∧c.st.sz=b.sz
 |[],b,h,c,a,_,_,e,k,d,j=>by
  simp only[fu,aB]at a
  subst a
  exact⟨j e k,rfl,rfl,rfl⟩
 |p::f,b,[],c,a,_,_,_,_,_,_=>by cases a
 |p::f,b,(dec,A)::h,c,a,u,o,e,k,d,j=>by
  simp only[fu]at a
  split at a
  ·cases a
  ·rename_i x l
   split at a
   ·cases a
   ·rename_i y t
    simp only[aB]at a
    subst a
    obtain⟨v,w⟩:=iI u
    obtain⟨q,r,s⟩:=K9 l
    refine y0 l v (λi a=>o i (cE _ a)) k λg z=>?_
    have m:=pQ f x.st h y t w (λi a=>o i (d5 _ a)) g z d j
    rw[q,r,s]at m
    exact m
variable {body:Code}{Q:Exit->Act->aI}
theorem dm{p:aH}{k:List KI}{st q:St}{ob:List Prop}{rs:List (Nat×Nat×Nat)}(hs:List (Bool×QH))(j:aH)
  (b:jf (aa body p)=true) (hm:P.follows .mixedOrders=true) (u:Region.lexB .any (aj (aa body p))=true)
  (h:Out.prune j (fu P n w0 S (aj (aa body p)) (aj (aa body p)).toList st hs)=some ⟨ob,aX rs,q⟩) (y:J4 ob)
  (w:∀l,st.sz<=l->aF D P body n w0 S Q k ⟨q.sl,st.bk,st.wn,l⟩):aF D P body n w0 S Q (.code p::k) st:=by
 intro r A v a;obtain⟨B,b⟩:=iU b;generalize aj (aa body p)=ops at *;obtain⟨s,z,f,g,i⟩:=kI h;dsimp only at f g i;simp only[sem,b];refine wp_region_quiet (C:=fU w0 S st.bk st.wn st.sz) hm u ⟨bC a.size.symm,?_⟩ ?_
 ·exact⟨rfl,a.zq,a.own,a.nd,a.x2.drew,a.Ww⟩
 ·refine(pQ _ st hs s z (by rw[f]; exact y) (by rw[g]; exact dX rs) r v _ λt c m o=>?_).1;refine w m.z o.1 t m ?_ o.2;rw[<-i];exact⟨c.size,c.df,λd e x=>c.val d e (dU j d e x)⟩
end
section
variable {D:List Deferred}{P:Program}{body:Code}{n:Nat}{w0:World}{S:br}{Q:Exit->Act->aI}
def y1(Q:Exit->Act->aI):Exit->Act->aI
 |.panic _,_,_=>False
 |b,a,c=>Q b a c
theorem oo{m:Nat}{b:Func}{R:Ending->aI}{p:aH}{k:List KI}{e:bu}{bk:ax}{f:Nat}{vs:av}{rs:List (Nat×Nat×Nat)}{D:Nat}(hs:List (List MH))
  (r:D<w0.z) (i:w0.heap[D]?=some (.deferred (some []))) (l:¬S D)
  (o:aa body p=.ret) (h:pI P [] bk e b.results.toList hs=some (vs,aX rs)) (j:∀a,ab w0 (λc=>S c∨c=D) bk [] f a->R (.returned (kH vs)) a) :
  aF (kJ D) P body n w0 S (y1 (bodyPostM Fence.wide m P b R)) (.code p::k) ⟨e,bk,[],f⟩:=by
 intro g a q d;simp only[sem,o];refine wp_ret (pL (Q:=y1 _) ?_ k);show bodyPostM Fence.wide m P b R .ret g a;exact yA hs h j q d ((d.x2.block D r l).trans i)
theorem jb{m:Nat}{e:FuncId}{a:Func}{l:av}{w:World}{R:Ending->aI}{S:br}{bk:ax}{wn:List Wn}
  (i:P.funcs[e]?=some a) (g:a.body=some body) (k:a.ntmps=n) (j:l.length<=n) (hm:ab w S bk wn w.z w)
  (h:aF [] P body n w S (y1 (bodyPostM Fence.wide m P a R)) [.code []] ⟨rX 0 l,bk,wn,w.z⟩):Calls P e l.toArray w R:=by
 refine ma (m:=m) i g k j hm (λb w o p=>?_);have c:=h b w o p;simp only[sem]at c ⊢;refine wp_mono c λf b w d=>?_
 cases f with
 |panic q=>exact d.elim
 |_=>exact d
theorem E4{D:List Deferred}{k:List KI}{st:St}{p:Prop}(h:∀a,ab w0 S st.bk st.wn st.sz a->p)(e:p->aF D P body n w0 S Q k st):aF D P body n w0 S Q k st:=λc a d b=>e (h a b) c a d b
end
variable {a:Int}(s:ByteArray)
theorem ky(h:a<=9223372036854775807):a<=IntKind.max .i64:=by
 have:IntKind.max .i64=9223372036854775807:=by decide
 omega
theorem xQ{b:Int}(c:0<=a∧a<=9223372036854775807)(d:0<=b∧b<=9223372036854775807):(0:Int)<=a∧(0:Int)<=b∧a<=IntKind.max .i64∧b<=IntKind.max .i64:=by
 have:IntKind.max .i64=9223372036854775807:=by decide
 omega
theorem NB{b:Int}(c:0<=a∧a<=255)(d:0<=b∧b<=255):(0:Int)<=a∧(0:Int)<=b∧a<=IntKind.max .u8∧b<=IntKind.max .u8:=by
 have:IntKind.max .u8=255:=by decide
 omega
def WQ(l:bB):List UInt8:=l.map λa=>UInt8.ofNat a.toNat
def bX(l:bB):ByteArray:=⟨(WQ l).toArray⟩
def u4(l:bB):Prop:=∀a∈l,0<=a∧a<=255
def gQ(l:bB):av:=l.map λa=>.int .u8 a
theorem u5{n:Int}(h:0<=n∧n<=255):((UInt8.ofNat n.toNat).toNat:Int)=n:=by
 rw[UInt8.toNat_ofNat_of_lt' (by show n.toNat<256; omega)];omega
theorem Fs{l:bB}(h:u4 l):fB (WQ l)=gQ l:=by
 simp only[fB,WQ,gQ,List.map_map];refine ft λa b=>?_;simp only[Function.comp,u5 (h a b)]
theorem rV(l:bB):(bX l).size=l.length:=by
 show(WQ l).toArray.size=_
 simp[WQ]
def aK(s:ByteArray):bB:=s.data.toList.map λa=>(a.toNat:Int)
theorem dr:(aK s).length=s.size:=by simp[aK]
theorem dY:u4 (aK s):=by
 intro c b;obtain⟨a,_,rfl⟩:=aT.1 b;have:=a.toNat_lt;omega
theorem Ft:WQ (aK s)=s.data.toList:=by
 simp only[WQ,aK,List.map_map];refine(ft λa _=>?_).trans (List.map_id _);simp
theorem ke:bX (aK s)=s:=by
 simp[bX,Ft]
theorem iW{l:bB}(h:u4 l):aK (bX l)=l:=by
 have a:(bX l).data.toList=WQ l:=by simp[bX]
 simp only[aK,a,WQ,List.map_map];refine(ft λb c=>?_).trans (List.map_id _);exact u5 (h b c)
theorem qR(i:Nat):ee s i=(aK s)[i]?.getD 0:=by
 simp only[ee,aK,ew,Array.getElem?_toList];cases s.data[i]?<;>rfl
theorem qS(i:Nat):0<=ee s i∧ee s i<=255:=by
 unfold ee;have:=(s.data[i]?.getD 0).toNat_lt;omega
section
variable {P:Program}
theorem mA(w:World)(b dst e:TypeId)(g o L f:Nat)(t:TypeId)(l r:bB)(pre:av)(hs:P.underlying b=some (.slice e))(he:P.underlying e=some (.int .u8))(m:P.underlying dst=some .string)
  (i:A2 w g t (pre++gQ l++gQ r)) (p:pre.length=o) (j:l.length=L) (k:u4 l) :
  (convert b dst (.slice (some ⟨g,o,none⟩) L f)).run P w=.ok (.string (bX l)) w:=by
 subst p j;have n:(WQ l).length=l.length:=by simp[WQ]
 have c:=run_convert_bytes_back (P:=P) w b dst e ⟨g,pre.length,none⟩ f (WQ l) hs he m (λa d=>by
  have:(⟨g,pre.length,none⟩:Addr).add a=⟨g,pre.length+a,none⟩:=bY _ _ _;rw[this];refine(i.cell _).trans ?_;have h:a<(gQ l).length:=by simpa[gQ,WQ]using d
  rw[eA,jY yq,Nat.add_sub_cancel_left,ip h,<-Fs k];simp[fB,d])
 rw[n]at c;exact c
end
abbrev OV:=List Prop×List ((Nat×Nat)×(Nat×Nat))×Value×List Bk×Nat
def opV(P:Program)(o:Oper)(st:St)(h:OH):Option OV:=
 match iw st.sl o with
 |true=>match h.ov with
  |0=>match lr P st.wn (execOp (RS st.sl) o) h.hs st.bk st.sz with
   |some ⟨.value a,b,d,c⟩=>some ([],c,a,b,d)
   |some ⟨.skip,b,d,c⟩=>some ([],c,undef,b,d)
   |_=>none
  |e+1=>match ov P (RS st.sl) e o.op with
   |some (a,f)=>some ([f],[],a,st.bk,st.sz)
   |none=>none
 |false=>none
def Vm(p:Prop):Option OV->Option OV
 |some (b,a)=>some (p::b,a)
 |none=>none
def bV(ops:Array Oper)(i:Nat):bi:=(ops[i]?).bind (·.dst)
def opG(P:Program)(ops:Array Oper)(st:St)(i:Nat)(h:OH):Option OV:=
 match ops[i]? with
 |none=>none
 |some a=>match a.guard with
  |none=>opV P a st h
  |some (c,want)=>match bV ops c with
   |none=>none
   |some d=>match gh st.sl d with
    |some (.bool b)=>match (h.dec==want)with
     |true=>Vm (b=h.dec) (opV P a st h)
     |false=>some ([b=h.dec],[],undef,st.bk,st.sz)
    |some (.tuple _)=>some ([],[],undef,st.bk,st.sz)
    |_=>none
section
variable {D:List Deferred}{F:Fence}{m:Nat}{P:Program}{n:Nat}{w0:World}{S:br}{a:Act}{w:World}
end
def aM(ops:Array Oper)(i:Nat):aH:=
 match ops[i]? with
 |some a=>(a.after.toList.filter (Region.binds .any ·)).map (·.on)
 |none=>[]
def qT:aH->Bool
 |[]=>true
 |b::a=>!a.any (Nat.beq b)&&qT a
def cM(Dt:List (bi))(i:Nat):bi:=(Dt[i]?).bind id
def eqO(x:bi)(s:Nat):Bool:=match x with
 |some a=>Nat.beq a s
 |none=>false
def gH(n:Nat)(ops:Array Oper)(g:bu)(f J:Nat)(Dt:List (bi)):Bool:=
 qT (ops.toList.filterMap (·.dst))&&(ops.toList.filterMap (·.dst)).all (λd=>Nat.blt d n&&!(g.any λe=>Nat.beq e.1 d))&&Nat.beq f ops.size&&Nat.beq Dt.length ops.size
  && (List.range ops.size).all (λa=>(aM ops a).all (Nat.blt · a))
  && (List.range ops.size).all (λa=>match cM Dt a with
   |none=>true
   |some c=>Nat.blt c J&&(Nat.beq c 0||(aM ops a).any (λb=>eqO (cM Dt b) (c-1)))&&(List.range ops.size).all (λb=>!eqO (cM Dt b) c||Nat.beq b a))
  && (Nat.beq J 0||(List.range ops.size).any (λa=>eqO (cM Dt a) (J-1)))
section
variable {D:List Deferred}{F:Fence}{m:Nat}{P:Program}{n:Nat}{w0:World}{S:br}
theorem iV:∀{b:List Oper},qT (b.filterMap (·.dst))=true->∀{f g:Nat}{h j:Oper}{a:Nat},b[f]?=some h->b[g]?=some j->h.dst=some a->j.dst=some a->f=g
 |[],_,f,g,h,j,a,c,_,_,_=>by simp at c
 |n::b,d,f,g,h,j,a,c,e,k,l=>by
  have o:∀{q:Nat}{m:Oper},b[q]?=some m->m.dst=some a->a∈b.filterMap (·.dst):=λs t=>List.mem_filterMap.2 ⟨_,aS s,t⟩
  have u:qT (b.filterMap (·.dst))=true:=by
   cases i:n.dst with
   |none=>simpa[List.filterMap_cons,i]using d
   |some v=>
    rw[List.filterMap_cons_some i]at d;simp only[qT,ch]at d;exact d.2
  have p:n.dst=some a->a ∉ b.filterMap (·.dst):=λi r=>by
   rw[List.filterMap_cons_some i]at d;simp only[qT,ch,Bool.not_eq_true',List.any_eq_false]at d;exact absurd (Nat.beq_refl _) (d.1 a r)
  cases f<;>cases g
  ·rfl
  ·simp only[List.getElem?_cons_zero,aB]at c;simp only[List.getElem?_cons_succ]at e;subst c;exact absurd (o e l) (p k)
  ·simp only[List.getElem?_cons_zero,aB]at e;simp only[List.getElem?_cons_succ]at c;subst e;exact absurd (o c k) (p l)
  ·simp only[List.getElem?_cons_succ]at c e;rw[iV u c e k l]
theorem eE{ls:cj}{i:Nat}(h:ls.getD i true=false):i<ls.size∧ls[i]?=some false:=by
 rcases Nat.lt_or_ge i ls.size with a|a
 ·refine⟨a,?_⟩;rw[fi a];simpa[Array.getD,a]using h
 ·simp[Array.getD,Nat.not_lt.2 a]at h
theorem jy{ls:cj}{i:Nat}(h:ls[i]?=some false):(ls.setIfInBounds i true).toList.count false+1=ls.toList.count false:=by
 have e:=(dp.1 h).1;have f:=(dp.1 h).2;have a:i<ls.toList.length:=by simpa using e
 have c:(ls.setIfInBounds i true).toList=ls.toList.set i true:=by simp
 rw[c,List.count_set a];have b:ls.toList[i]=false:=by simpa using f
 have g:0<ls.toList.count false:=List.count_pos_iff.2 (b▸List.getElem_mem a);rw[b];simp only[iS,if_true];have d:(true==false)=false:=rfl;rw[d];simp only[Bool.false_eq_true,if_false];omega
end
def Fo(WP:Nat->(Act->aI)->Act->aI)(ops:Array Oper)(Q:Act->aI):Nat->cj->Act->aI
 |0,a,b,c=>Region.ready .any ops a=[]∧Q b c
 |e+1,a,b,c=>(Region.ready .any ops a=[]->Q b c)∧∀d∈Region.ready .any ops a,WP d (Fo WP ops Q e (a.setIfInBounds d true)) b c
theorem gj{P:Program}{ops:Array Oper}{Q:Exit->Act->aI}:∀b,wpAny P .any ops Q b=Fo (wpOp P ops Q) ops (Q .normal) b
 |0=>rfl
 |b+1=>by
  funext ls a w
  simp only[wpAny,Fo,gj b]
def y3(ops:Array Oper)(Pv:Nat->Value->aI)(l:aH)(a:Act)(w:World):Prop:=∀c∈l,∀b,bV ops c=some b->∃d,a.tmps[b]?=some d∧Pv c d w
def f4(Dt:List (bi))(i j:Nat):Nat:=match cM Dt i with
 |none=>j
 |some _=>j+1
def eQ(WP:Nat->(Act->aI)->Act->aI)(D:List Deferred)(n:Nat)(ops:Array Oper)(g:bu)(Dt:List (bi))(J:Nat)(M:Nat->aI)(T:br)(Pv:Nat->Value->aI)(i:Nat):Prop:=
 ∀(c:Nat)(a:Act)(w:World)(K:Act->aI),c<=J->(∀b,cM Dt i=some b->c=b∧b<J)->(∀e b,cM Dt e=some b->i∈aM ops e->c<=b)->dy D n g a->y3 ops Pv (aM ops i) a w->M c w ->
  (∀f d,Pv i f d->au T w d->M (f4 Dt i c) d->K (a.put (bV ops i) f) d)->WP i K a w
def J3(ops:Array Oper)(c:bu)(i:Nat):bu:=c.filter λb=>(List.range ops.size).all λa=>!eqO (bV ops a) b.1||(aM ops a).any (Nat.beq i)
def XB(ops:Array Oper)(c:bu):bu:=c.filter λb=>(List.range ops.size).all λa=>!eqO (bV ops a) b.1
theorem fN{p:Nat×Value->Bool}(h:∀a c g,p (a,c)=p (a,g)):∀(d:bu){a:Nat}{c:Value},gh (d.filter p) a=some c->gh d a=some c∧p (a,c)=true
 |[],_,_,b=>by cases b
 |(e,g)::d,a,c,b=>by
  simp only[List.filter_cons]at b
  split at b
  ·rename_i f
   simp only[gh]at b ⊢
   split at b
   ·rename_i l
    have m:e=a:=bH l
    subst m
    simp only[aB]at b
    subst b
    exact⟨rfl,f⟩
   ·exact fN h d b
  ·rename_i f
   obtain⟨j,i⟩:=fN h d b
   refine⟨?_,i⟩
   simp only[gh]
   have n:Nat.beq e a=false:=by
    cases k:Nat.beq e a with
    |false=>rfl
    |true=>
     have:=bH k;subst this;rw[h e g c]at f;exact absurd i f
   rw[n];exact j
structure KZ(D:List Deferred)(n:Nat)(ops:Array Oper)(YF:bu)(Dt:List (bi))(J:Nat)(M:Nat->aI)(Pv:Nat->Value->aI)(ls:cj)(j:Nat)(a:Act)(w:World):Prop where
 J2:a.tmps.size=n
 XA:a.defers=D
 v8:∀q v,gh YF q=some v->(∀k,ls.getD k false=true->bV ops k≠some q)->a.tmps[q]?=some v
 closed:∀k,ls.getD k false=true->∀i∈aM ops k,ls.getD i false=true
 size:ls.size=ops.size
 Wy:∀i d,ls.getD i false=true->bV ops i=some d->∃v,a.tmps[d]?=some v∧Pv i v w
 MN:∀i s,cM Dt i=some s->(ls.getD i false=true↔s<j)
 le:j<=J
 mem:M j w
theorem Iv{a1:Nat->(Act->aI)->Act->aI}{D:List Deferred}{n:Nat}{ops:Array Oper}{B:bu}{Dt:List (bi)}{J:Nat}{M:Nat->aI}{T:br}{Pv:Nat->Value->aI}{Q:Act->aI}
  (a7:gH n ops [] ops.size J Dt=true) (b9:∀b w h K,Pv b w h->au T h K->Pv b w K) (cr:∀a,a<ops.size->eQ a1 D n ops (J3 ops B a) Dt J M T Pv a)
  (b0:∀j h,M J h->dy D n (XB ops B) j->y3 ops Pv (List.range ops.size) j h->Q j h) :
  ∀(G:Nat)(d:cj)(i:Nat)(j:Act)(h:World),d.toList.count false<=G->KZ D n ops B Dt J M Pv d i j h->Fo a1 ops Q G d j h:=by
 simp only[gH,ch]at a7;obtain⟨⟨⟨⟨⟨⟨bs,a2⟩,_⟩,bt⟩,a3⟩,W⟩,N⟩:=a7;rw[bE]at a2 a3 W;have bk:∀a,a<ops.size->∀b∈aM ops a,b<a:=λa p b f=>by
  have:=bE.1 (a3 a (bn.2 p)) b f;simpa[Nat.blt_eq]using this
 have a0:∀(d:cj)(a:Nat),a∈Region.ready .any ops d↔d.getD a true=false∧a<ops.size∧∀b∈aM ops a,d.getD b false=true:=by
  intro d a;rw[mem_ready];constructor
  ·rintro⟨x,cB,F,k⟩;refine⟨x,(dp.1 F).1,λb f=>?_⟩;simp only[aM,F,aT,dR]at f;obtain⟨o,⟨Y,X⟩,rfl⟩:=f;exact k o (by simpa using Y) X
  ·rintro⟨x,k,y⟩;refine⟨x,ops[a],fi k,λo Y X=>y _ ?_⟩;simp only[aM,fi k,aT,dR];exact⟨o,⟨by simpa using Y,X⟩,rfl⟩
 have cm:∀(d:cj),d.size=ops.size->Region.ready .any ops d=[]->∀a,a<ops.size->d.getD a false=true:=by
  intro d ca z a
  induction a using Nat.strongRecOn with
  |_ a ad=>
   intro p
   cases ac:d.getD a false with
   |true=>rfl
   |false=>
    have x:d.getD a true=false:=by simpa[Array.getD,ca,p]using ac
    have:a∈Region.ready .any ops d:=(a0 d a).2 ⟨x,p,λb f=>ad b (bk a p b f) (Nat.lt_trans (bk a p b f) p)⟩;rw[z]at this;cases this
 have bd:∀(d:cj)(i:Nat)(j:Act)(h:World),Region.ready .any ops d=[]->KZ D n ops B Dt J M Pv d i j h->Q j h:=by
  intro d i j h z c;have a6:=cm d c.size z;have b5:i=J:=by
   rcases Nat.eq_zero_or_pos J with x|cO
   ·have:=c.le;omega
   ·simp only[ej,dN]at N;rcases N with N|⟨a,p,t⟩
    ·have:=bH N;omega
    ·have r:=bn.1 p;unfold eqO at t;split at t
     ·rename_i E Z;have o:=bH t;subst o;have:=(c.MN a _ Z).1 (a6 a r);have:=c.le;omega
     ·cases t
  subst b5;refine b0 j h c.mem ⟨c.J2,c.XA,λC w I=>?_⟩ (λb f l e=>c.Wy b l (a6 b (bn.1 f)) e);obtain⟨k,y⟩:=fN (λ_ _ _=>rfl) B I;refine c.v8 C w k (λb _ e=>?_);simp only[bE,Bool.not_eq_true']at y;have f:b<ops.size:=by
   unfold bV at e;rcases Nat.lt_or_ge b ops.size with m|m
   ·exact m
   ·rw[Array.getElem?_eq_none m]at e;cases e
  have s:=y b (bn.2 f);rw[e]at s;simp[eqO]at s
 intro G
 induction G with
 |zero=>
  intro d i j h co c;have z:Region.ready .any ops d=[]:=by
   rw[List.eq_nil_iff_forall_not_mem];intro a p;have k:=eE ((a0 d a).1 p).1;have:=jy k.2;omega
  exact⟨z,bd d i j h z c⟩
 |succ G ad=>
  intro d i j h co c;refine⟨λz=>bd d i j h z c,λa p=>?_⟩;obtain⟨x,r,aV⟩:=(a0 d a).1 p;obtain⟨_,aq⟩:=eE x;have cP:=jy aq;have F:ops[a]?=some ops[a]:=fi r;have cs:∀l,bV ops a=some l->l<n:=λl e=>by
   have b3:ops[a].dst=some l:=by simpa[bV,F]using e
   have cp:l∈ops.toList.filterMap (·.dst):=List.mem_filterMap.2 ⟨ops[a],z1,b3⟩;have s:=a2 l cp;simp only[ch]at s;simpa[Nat.blt_eq]using s.1
  have b4:dy D n (J3 ops B a) j:=by
   refine⟨c.J2,c.XA,λC w I=>?_⟩;obtain⟨k,y⟩:=fN (λ_ _ _=>rfl) B I;refine c.v8 C w k (λb A e=>?_);have f:b<ops.size:=by
    unfold bV at e;rcases Nat.lt_or_ge b ops.size with m|m
    ·exact m
    ·rw[Array.getElem?_eq_none m]at e;cases e
   have s:=bE.1 y b (bn.2 f);rw[e]at s;simp only[eqO,Nat.beq_refl,Bool.not_true,Bool.false_or,dN]at s;obtain⟨H,O,cf⟩:=s;have cl:=bH cf;subst cl;have a4:=c.closed b A a O;simp only[Array.getD,c.size,r,dif_pos]at a4;have q:=(dp.1 aq).2;exact absurd (q.symm.trans a4) (by decide)
  have bl:¬d.getD a false=true:=by
   simp only[Array.getD,c.size,r,dif_pos];have:=(dp.1 aq).2;simpa using this
  have U:∀g,cM Dt a=some g->i=g∧g<J:=by
   intro g t;have q:=W a (bn.2 r);rw[t]at q;simp only[ch,ej,dN,bE]at q;obtain⟨⟨b2,ak⟩,_⟩:=q;have b8:g<J:=by simpa[Nat.blt_eq]using b2
   have cK:¬g<i:=by
    rw[<-c.MN a g t];exact bl
   have cL:g<=i:=by
    rcases ak with ak|⟨b,f,P⟩
    ·have:=bH ak;omega
    ·unfold eqO at P;split at P
     ·rename_i E Z;have o:=bH P;subst o;have:=(c.MN b _ Z).1 (aV b f);omega
     ·cases P
   exact⟨yq,b8⟩
  have cn:∀b g,cM Dt b=some g->a∈aM ops b->i<=g:=λb g v u=>by
   rcases Nat.lt_or_ge g i with k|k
   ·exact absurd (c.closed b ((c.MN b g v).2 k) a u) bl
   ·exact k
  refine cr a r i j h _ c.le U cn b4 (λb f l e=>c.Wy b l (aV b f) e) c.mem (λw K ac f b1=>ad _ (f4 Dt a i) _ K yq ?_);have cq:∀b,b≠a->(d.setIfInBounds a true).getD b false=true->d.getD b false=true:=λb f V=>by rwa [getD_set_ne false (Ne.symm f)]at V
  have aR:∀b,d.getD b false=true->(d.setIfInBounds a true).getD b false=true:=λb V=>getD_set_true V;have cA:(d.setIfInBounds a true).getD a false=true:=by simp[Array.getD,c.size,r]
  refine⟨?_,?_,λC L I a9=>?_,λb A H O=>?_,by simp[c.size],λb l A e=>?_,λb g v=>?_,?_,b1⟩
  ·cases bV ops a<;>simp[Act.put,c.J2]
  ·cases bV ops a<;>simp[Act.put,c.XA]
  ·have k:=c.v8 C L I (λb f=>a9 b (aR b f));have y:=a9 a cA
   cases an:bV ops a with
   |none=>exact k
   |some o=>
    have R:o≠C:=by
     rintro rfl;exact y an
    simp only[Act.put];rw[gX R];exact k
  ·by_cases a8:b=a
   ·subst a8;exact aR H (aV H O)
   ·exact aR H (c.closed b (cq b a8 A) H O)
  ·by_cases u:b=a
   ·subst u;refine⟨w,?_,ac⟩;rw[e];have t:=c.J2;have b7:=cs l e;simp[Act.put,t,b7]
   ·have b6:d.getD b false=true:=by rwa [getD_set_ne false (Ne.symm u)]at A
    obtain⟨L,bb,cb⟩:=c.Wy b l b6 e;refine⟨L,?_,b9 b L h K cb f⟩
    cases an:bV ops a with
    |none=>exact bb
    |some o=>
     have R:o≠l:=by
      rintro rfl;have bg:b<ops.size:=by
       unfold bV at e;rcases Nat.lt_or_ge b ops.size with m|m
       ·exact m
       ·rw[Array.getElem?_eq_none m]at e;cases e
      have q:ops[b].dst=some o:=by simpa[bV,fi bg]using e
      have a5:ops[a].dst=some o:=by simpa[bV,F]using an
      exact u (iV bs (by simp[fi bg]) (by simp[F]) q a5)
     simp only[Act.put];rw[gX R];exact bb
  ·unfold f4;by_cases u:a=b
   ·subst u;rw[v];have:=U g v;simp only[Array.getD,Array.size_setIfInBounds,c.size,r,dif_pos];simp;omega
   ·rw[getD_set_ne false u,c.MN b g v]
    cases S:cM Dt a with
    |none=>exact Iff.rfl
    |some E=>
     have a5:=U E S;have R:g≠E:=by
      rintro rfl;have q:=W a (bn.2 r);rw[S]at q;simp only[ch,bE]at q;have A:b<ops.size:=by
       have cC:=bH bt;rcases Nat.lt_or_ge b ops.size with m|m
       ·exact m
       ·unfold cM at v;rw[List.getElem?_eq_none yq]at v;cases v
      have:=q.2 b (bn.2 A);simp only[eqO,v,Nat.beq_refl,Bool.not_true]at this;exact u (bH (by simpa using this)).symm
     show g<i↔g<i+1
     omega
  ·unfold f4
   cases S:cM Dt a with
   |none=>exact c.le
   |some E=>
    have:=U E S;show i+1<=J;omega
def d8(vs:List (Option Value))(k:Nat):Option Value:=(vs[k]?).bind id
def PvG(vs:List (Option Value))(C:Nat->Value->aI)(k:Nat)(v:Value)(w:World):Prop:=match d8 vs k with
 |some a=>v=a
 |none=>C k v w
def slG(ops:Array Oper)(vs:List (Option Value))(a:bu):aH->bu
 |[]=>a
 |b::c=>match bV ops b,d8 vs b with
  |some d,some e=>(d,e)::slG ops vs a c
  |_,_=>slG ops vs a c
def MG(w0:World)(S:br)(ms:List (ax))(wn:List Wn)(z0:Nat)(j:Nat)(w:World):Prop:=∃a,ms[j]?=some a∧z0<=w.z∧ab w0 S a wn w.z w
section
variable {D:List Deferred}{P:Program}{n:Nat}{w0:World}{S:br}{ops:Array Oper}{b:bu}{vs:List (Option Value)}{C:Nat->Value->aI}{ms:List (ax)}{wn:List Wn}{c:Nat}{Dt:List (bi)}{J:Nat}{Q:Exit->Act->aI}{a:Act}{w:World}
theorem fC(h0:dy D n b a):∀(d:aH),y3 ops (PvG vs C) d a w->dy D n (slG ops vs b d) a
 |[],_=>h0
 |k::d,i=>by
  have e:=fC h0 d (λh q=>i h (cz _ q))
  simp only[slG]
  split
  ·rename_i f t m p
   refine⟨e.size,e.df,λg l c=>?_⟩
   simp only[gh]at c
   split at c
   ·rename_i o
    have r:f=g:=bH o
    subst r
    simp only[aB]at c
    subst c
    obtain⟨h,s,j⟩:=i k (A4 ..) f m
    simp only[PvG,p]at j
    rw[s,j]
   ·exact e.val g l c
  ·exact e
theorem u7{o:Oper}{st:St}{h:OH}{ob:List Prop}{es:List ((Nat×Nat)×(Nat×Nat))}{v:Value}{bk:ax}{k:Nat}(b:opV P o st h=some (ob,es,v,bk,k))(p:J4 ob)(j:kF es)(l:dy D n st.sl a)(hm:ab w0 S st.bk st.wn st.sz w)
  {K:Act->aI} (g:∀d,ab w0 S bk st.wn k d->K (a.put o.dst v) d):o.wp P a w K Q:=by
 unfold opV at b;split at b
 ·rename_i m;have e:execOp a.eval o=execOp (RS st.sl) o:=l.RS m;split at b
  ·split at b
   ·rename_i q r u s i;simp only[aB,bw]at b;obtain⟨rfl,rfl,rfl,rfl,rfl⟩:=b;obtain⟨d,c,f⟩:=iH P _ _ _ _ w _ i j hm;simp only[Oper.wp,e,c,Oper.upon_value];exact g _ f
   ·rename_i r u s i;simp only[aB,bw]at b;obtain⟨rfl,rfl,rfl,rfl,rfl⟩:=b;obtain⟨d,c,f⟩:=iH P _ _ _ _ w _ i j hm;simp only[Oper.wp,e,c,Oper.upon_skip];exact g _ f
   ·cases b
  ·split at b
   ·rename_i q x t;simp only[aB,bw]at b;obtain⟨rfl,rfl,rfl,rfl,rfl⟩:=b;have c:=mB t p.1 w;simp only[Oper.wp,e,c,Oper.upon_value];exact g _ hm
   ·cases b
 ·cases b
theorem iK{i:Nat}{st:St}{h:OH}{ob:List Prop}{es:List ((Nat×Nat)×(Nat×Nat))}{v:Value}{bk:ax}{x:Nat}(b:opG P ops st i h=some (ob,es,v,bk,x))(k:J4 ob)(u:kF es)(j:dy D n st.sl a)(hm:ab w0 S st.bk st.wn st.sz w)
  {K:Act->aI} (e:∀y,ab w0 S bk st.wn x y->K (a.put (bV ops i) v) y):wpOp P ops Q i K a w:=by
 unfold opG at b;split at b
 ·cases b
 ·rename_i d z;have f:bV ops i=d.dst:=by simp[bV,z]
  rw[f]at e;simp only[wpOp,z];split at b
  ·rename_i g;have c:Region.wanted d (yielded ops a.tmps)=true:=by simp[Region.wanted,g]
   rw[aA c];exact .inl (u7 b k u j hm e)
  ·rename_i m B g;split at b
   ·cases b
   ·rename_i o E;have A:(ops[m]?).bind (·.dst)=some o:=E;split at b
    ·rename_i t r;have l:yielded ops a.tmps m=some t:=by
      have:=j.val o _ r;simp[yielded,A,this]
     split at b
     ·rename_i f
      cases s:opV P d st h with
      |none=>rw[s]at b; cases b
      |some C=>
       obtain⟨G,F⟩:=C;rw[s]at b;simp only[Vm,aB,bw]at b;obtain⟨rfl,rfl⟩:=b;have c:Region.wanted d (yielded ops a.tmps)=true:=by
        have p:t=h.dec:=k.1;have q:h.dec=B:=by simpa using f
        simp[Region.wanted,g,l,p,q]
       rw[aA c];exact .inl (u7 s k.2 u j hm e)
     ·rename_i f;simp only[aB,bw]at b;obtain⟨rfl,rfl,rfl,rfl,rfl⟩:=b;have c:¬Region.wanted d (yielded ops a.tmps)=true:=by
       have p:t=h.dec:=k.1;have q:¬h.dec=B:=by simpa using f
       simp[Region.wanted,g,l,p,q]
      rw[ay c];exact e _ hm
    ·rename_i vs r;have l:yielded ops a.tmps m=none:=by
      have:=j.val o _ r;simp[yielded,A,this]
     have c:¬Region.wanted d (yielded ops a.tmps)=true:=by simp[Region.wanted,g,l]
     rw[ay c];simp only[aB,bw]at b;obtain⟨rfl,rfl,rfl,rfl,rfl⟩:=b;exact e _ hm
    ·cases b
def mG(P:Program)(ops:Array Oper)(b:bu)(vs:List (Option Value))(ms:List (ax))(wn:List Wn)(c:Nat)(i:Nat)(h:OH)(j:Nat):Option OV:=
 match ms[j]? with
 |some a=>opG P ops ⟨slG ops vs b (aM ops i),a,wn,c⟩ i h
 |none=>none
def qO(vs:List (Option Value))(ms:List (ax))(c:Nat)(i:Nat)(ob:List Prop)(rs:List (Nat×Nat×Nat))(j:Nat):Option OV:=
 match d8 vs i,ms[j]? with
 |some a,some b=>some (ob,aX rs,a,b,c)
 |_,_=>none
def oJ(ms:List (ax)):List (List (Nat×Bool)):=ms.map λb=>b.map λa=>(a.g,a.rw)
theorem nJ{l:List (Nat×Bool)}(h:oJ ms=List.replicate (J+1) l){j:Nat}{bk:ax}(c:ms[j]?=some bk):bk.map (λa=>(a.g,a.rw))=l:=by
 have b:=congrArg (λl=>l[j]?) h;simp only[oJ,ew,c,Option.map_some]at b;exact List.eq_of_mem_replicate (aS b.symm)
theorem j3{bk Ex:ax}(h:Ex.map (λa=>(a.g,a.rw))=bk.map (λa=>(a.g,a.rw))):ao Ex=ao bk:=by
 funext y;apply propext;have b:∀(c:ax),ao c y↔(y,true)∈c.map (λa=>(a.g,a.rw)):=λc=>by
  simp only[ao,aT,bw];exact⟨λ⟨a,b,d,e⟩=>⟨a,b,e,d⟩,λ⟨a,b,d,e⟩=>⟨a,b,e,d⟩⟩
 rw[b,b,h]
theorem NC{q:ax}(E:oJ ms=List.replicate (J+1) (q.map λl=>(l.g,l.rw))){i:Nat}{h:OH}{ob:List Prop}{rs:List (Nat×Nat×Nat)}{v:Value}(hs:cM Dt i=none)(o:d8 vs i=some v)
  (he:∀p,(List.range (J+1)).map (mG P ops b vs ms wn p i h)=(List.range (J+1)).map (qO vs ms p i ob rs)) (z:J4 ob):eQ (wpOp P ops Q) D n ops b Dt J (MG w0 S ms wn c) (ao q) (PvG vs C) i:=by
 intro k a w F G _ _ u x y s;obtain⟨d,g,A,m⟩:=y;have f:=congrArg (λr=>r[k]?) (he w.z);simp only[ew,ek (show k<J+1 by omega),Option.map_some,aB,mG,qO,g]at f;rw[o]at f;have t:=j3 (nJ E g);refine iK (w0:=w) (S:=ao d) f z (dX _) (fC u _ x) m.again (λj e=>?_);have B:ab w (ao d) d wn j.z j:=by rw[e.size]; exact e
 refine s v j (by simp only[PvG,o]) (t▸e.x2) ⟨d,?_,az A e.x2.size,m.W4 B rfl⟩;unfold f4;rw[hs];exact g
structure jU where
 i:Nat
 h:OH
 es:List Ev
 rs:List (Nat×Nat×Nat)
def WU(l:aH):List jU:=l.map λa=>⟨a,y2,[],[]⟩
theorem dP{j:ax}(m:oJ ms=List.replicate (J+1) (j.map λf=>(f.g,f.rw)))(L:List jU)
  (he:∀d,L.map (λa=>(cM Dt a.i,(d8 vs a.i).isSome,(List.range (J+1)).map (mG P ops (J3 ops b a.i) vs ms wn d a.i a.h)))=L.map (λa=>(none,true,(List.range (J+1)).map (qO vs ms d a.i (XU a.es) a.rs)))) :
  ∀a∈L,eQ (wpOp P ops Q) D n ops (J3 ops b a.i) Dt J (MG w0 S ms wn c) (ao j) (PvG vs C) a.i:=by
 intro a k;have g:=λd=>List.map_inj_left.1 (he d) a k;have e:=g 0;simp only[bw]at e;obtain⟨o,l⟩:=cV.1 e.2.1;refine NC (h:=a.h) (rs:=a.rs) m e.1 l (λd=>?_) (KQ a.es);have i:=g d;simp only[bw]at i;exact i.2.2
theorem dW{N:Nat}{p:br}{L:List jU}(h:∀c∈L,p c.i)(l:aH)(k:J4 (l.map p))(i:(List.range N).all (λa=>L.any (λc=>Nat.beq c.i a)||l.any (Nat.beq a))=true):∀a,a<N->p a:=by
 have o:∀(l:aH),J4 (l.map p)->∀a∈l,p a:=by
  intro l
  induction l with
  |nil=>intro _ a b; cases b
  |cons g l n=>
   intro e a b;rcases bj.1 b with rfl|b
   ·exact e.1
   ·exact n e.2 a b
 intro a b;have f:=bE.1 i a (bn.2 b);simp only[ej,dN]at f;rcases f with⟨c,j,d⟩|⟨g,m,d⟩
 ·have:=bH d;subst this;exact h c j
 ·have:=bH d;subst this;exact o l k a m
theorem cu{m:ax}(g:oJ ms=List.replicate (J+1) (m.map λj=>(j.g,j.rw))){i s:Nat}{h:OH}{ob:List Prop}{rs:List (Nat×Nat×Nat)}{bk Ex:ax}{v:Value}(hs:cM Dt i=some s)(e:ms[s]?=some bk)(o:ms[s+1]?=some Ex)(z:d8 vs i=some v)
  (he:∀l,opG P ops ⟨slG ops vs b (aM ops i),bk,wn,l⟩ i h=some (ob,aX rs,v,Ex,l)) (y:J4 ob):eQ (wpOp P ops Q) D n ops b Dt J (MG w0 S ms wn c) (ao m) (PvG vs C) i:=by
 intro G a w F H B _ t u x q;obtain⟨I,p,A,k⟩:=x;obtain⟨rfl,_⟩:=B s hs;rw[e]at p;cases p;have r:=j3 (nJ g e);refine iK (w0:=w) (S:=ao bk) (he w.z) y (dX _) (fC t _ u) k.again (λf d=>?_);have E:ab w (ao bk) Ex wn f.z f:=by rw[d.size]; exact d
 refine q v f (by simp only[PvG,z]) (r▸d.x2) ⟨Ex,?_,az A d.x2.size,k.W4 E ((nJ g o).trans (nJ g e).symm)⟩;unfold f4;rw[hs];exact o
theorem MG.same{j:Nat}{w b:World}(hm:MG w0 S ms wn c j w)(a:au z8 w b):MG w0 S ms wn c j b:=by
 obtain⟨d,g,h,f⟩:=hm;have e:=f.same a;exact⟨d,g,az h a.size,e.2⟩
theorem qU{u:ax}{i:Nat}{f:FuncId}{args:av}{ob:List Prop}{v:Value}(hs:cM Dt i=none)(s:d8 vs i=some v)
  (h:gg P ops (slG ops vs b (aM ops i)) i=some (f,args,bV ops i,ob)) (r:J4 ob) (l:∀d w,d<=J->MG w0 S ms wn c d w->Calls P f args.toArray w (bf v w)):eQ (wpOp P ops Q) D n ops b Dt J (MG w0 S ms wn c) (ao u) (PvG vs C) i:=by
 intro d a w x p _ _ o q g k;refine ij h r (fC o _ q) ((l d w p g).mono λy t m=>?_);obtain⟨j,e⟩:=m;refine⟨v,j,k v t (by simp only[PvG,s]) (e.mono (λ_ _ h=>h.elim)) ?_⟩;unfold f4;rw[hs];exact g.same e
theorem RE{s:ax}{i:Nat}
  (h:∀e a w,e<=J->(∀g,cM Dt i=some g->e=g∧g<J)->(∀o g,cM Dt o=some g->i∈aM ops o->e<=g)->dy D n (slG ops vs b (aM ops i)) a->y3 ops (PvG vs C) (aM ops i) a w->MG w0 S ms wn c e w ->
   ∃k l j f,dy D n k a∧eZ ops k i=some (bV ops i)∧ex ops k i=some (Wx l)∧l.run P w=.ok j f∧PvG vs C i j f∧au (ao s) w f∧MG w0 S ms wn c (f4 Dt i e) f) :
  eQ (wpOp P ops Q) D n ops b Dt J (MG w0 S ms wn c) (ao s) (PvG vs C) i:=by
 intro e a w M y F L v q z u;obtain⟨k,l,j,f,K,d,m,B,A,G,I⟩:=h e a w y F L (fC v _ q) q z;unfold eZ at d;unfold ex at m;split at d
 ·rename_i p r;simp only[r,aB]at m;split at d
  ·rename_i x;split at d
   ·rename_i H;simp only[aB]at d;have E:Region.wanted p (yielded ops a.tmps)=true:=by simp[Region.wanted,x]
    simp only[wpOp,r,aA E];refine .inl ?_;have t:(execOp a.eval p).run P w=.ok (.value j) f:=by
     rw[K.RS H,m];simp only[Wx,Sem.run_bind,B,dS,Sem.run_pure]
    simp only[Oper.wp,t,Oper.upon_value];rw[d];exact u j f A G I
   ·cases d
  ·cases d
 ·cases d
theorem ab.less{bk d:ax}{c:Nat}(h:ab w0 S (bk++d) wn c w):ab w0 S bk wn c w:=
 ⟨h.size,λb a=>h.zq b (cE _ a),λb a=>h.own b (cE _ a),by have:=h.nd; rw[List.map_append,List.nodup_append]at this; exact this.1,h.x2,h.Ww⟩
theorem dO{body:Code}{p:aH}{k:List KI}{st:St}{vs:List (Option Value)}(C:Nat->Value->aI){ms:List (ax)}{Dt:List (bi)}{J:Nat}(s:aH){V9:bu}{Ex:ax}
  (l:jf (aa body p)=true) (G:P.follows .mixedOrders=true) (x:gH n (aj (aa body p)) [] (aj (aa body p)).size J Dt=true)
  (I:∀k c w e,C k c w->au (ao st.bk) w e->C k c e)
  (K:∀b,b<(aj (aa body p)).size->eQ (wpOp P (aj (aa body p)) (sem P body Q k)) D n (aj (aa body p)) (J3 (aj (aa body p)) st.sl b) Dt J (MG w0 S ms st.wn st.sz) (ao st.bk) (PvG vs C) b)
  (h0:ms[0]?=some st.bk) (y:ms[J]?=some Ex)
  (H:j1 (slG (aj (aa body p)) vs (XB (aj (aa body p)) st.sl) (List.range (aj (aa body p)).size)) s=V9)
  (z:∀t,st.sz<=t->aF D P body n w0 S Q k ⟨V9,Ex,st.wn,t⟩):aF D P body n w0 S Q (.code p::k) st:=by
 intro a w m d;obtain⟨O,l⟩:=iU l;subst H;simp only[sem];rw[l];refine wp_region_any G ?_;rw[gj];have h:∀b,(Array.replicate (aj (aa body p)).size false).getD b false=false:=λb=>by
  simp only[Array.getD];split
  ·simp
  ·rfl
 refine Iv x (λk c w e o g=>?_) K ?_ _ _ 0 a _ z1 ⟨m.size,m.df,λu c A _=>m.val u c A,λk g=>(by rw[h]at g; cases g),z1,λb L f=>(by rw[h]at f; cases f),λb M _=>(by rw[h]; exact⟨λq=>(by cases q),λq=>yq⟩),Nat.zero_le _,st.bk,h0,bC d.size.symm,rfl,d.zq,d.own,d.nd,d.x2.drew,d.Ww⟩
 ·unfold PvG at *;split at o
  ·exact o
  ·exact I _ _ _ _ o g
 ·intro v e j E F;obtain⟨N,r,B,j⟩:=j;rw[y]at r;cases r;have i:=fC E _ F;exact z _ B v e ⟨i.size,i.df,λb c f=>i.val b c (dU s b c f)⟩ j
end
def rG(i a b c g:Nat):jU:=⟨i,oA a b c,[],[(g,b,c)]⟩
def XG(x:Sem Unit):Sem Next:=x >>= λ_=>pure .skip
section
variable {D:List Deferred}{P:Program}{n:Nat}{w0:World}{S:br}
theorem jB(w:World)(t:TypeId)(g o:Nat)(b:TypeId)(cs:av)(v:Value)(hs:(P.info? t).map (·.size)=some v.cells.size)(d:A2 w g b cs)(hle:o+v.cells.size<=cs.length)(h:∀c∈v.cells.toList,c.oneCell'=true) :
  (Instr.storeAt t (.pointer (some ⟨g,o,none⟩)) v).run P w=.ok () (w.setRow g (cs.take o++v.cells.toList++cs.drop (o+v.cells.size)).toArray):=by
 obtain⟨i,e,f⟩:=gv.1 hs;have a:=run_storeCells_at P g o b v.cells.toList 0 cs.toArray w d (by simpa using hle) h;simp only[Nat.add_zero,Array.length_toList]at a;simp only[Instr.storeAt,Instr.sureAddr,storeVar];simp[sizeOf,typeInfo,e,f,a]
theorem ik(w:World)(t:TypeId)(k:IntKind)(g o:Nat)(d:TypeId)(cs:av)(v:Value)(hu:P.underlying t=some (.int k))(a:A2 w g d cs)(c:cs[o]?=some v) :
  (Instr.loadAt t (.pointer (some ⟨g,o,none⟩))).run P w=.ok v w:=by
 have b:=(a.cell o).trans c;simp[Instr.loadAt,Instr.sureAddr,loadVar,isAgg,run_underlying hu,b]
theorem xR{body:Code}{Q:Exit->Act->aI}{p:aH}{i:Nat}{l:aH}{k:List KI}{st:St}{x:Sem Unit}(bk:ax){j:bu}
  (a:eZ (aj (aa body p)) st.sl i=some none) (d:ex (aj (aa body p)) st.sl i=some (XG x)) (A:st.sl=j)
  (y:∀c,ab w0 S st.bk st.wn st.sz c->∃b,x.run P c=.ok () b∧st.sz<=b.z∧ab w0 S bk st.wn b.z b)
  (u:∀m,st.sz<=m->aF D P body n w0 S Q (.ops p l::k) ⟨j,bk,st.wn,m⟩):aF D P body n w0 S Q (.ops p (i::l)::k) st:=by
 intro e c g w;subst A;simp only[sem];rw[wpOps_cons];unfold eZ at a;unfold ex at d;split at a
 ·rename_i f h;simp only[h,aB]at d;split at a
  ·rename_i t;split at a
   ·rename_i v;simp only[aB]at a;have z:Region.wanted f (yielded (aj (aa body p)) e.tmps)=true:=by simp[Region.wanted,t]
    simp only[wpOp,h,aA z];refine .inl ?_;obtain⟨b,o,q,r⟩:=y c w;have s:(execOp e.eval f).run P c=.ok .skip b:=by
     rw[g.RS v,d];simp only[XG,Sem.run_bind,o,dS,Sem.run_pure]
    simp only[Oper.wp,s,Oper.upon_skip];rw[a];exact u _ q _ _ g r
   ·cases a
  ·cases a
 ·cases a
def FB(w:World)(g:Nat)(t:TypeId)(L:bB):Prop:=∃a:av,w.heap[g]?=some (.cells (gQ L++a).toArray t ((gQ L++a).length,(gQ L++a).length+1))
theorem FB.lt{w:World}{g:Nat}{t:TypeId}{L:bB}(h:FB w g t L):g<w.z:=by
 obtain⟨a,h⟩:=h;exact(dp.1 h).1
theorem FB.x2{w a:World}{g:Nat}{t:TypeId}{L:bB}{T:br}(h:FB w g t L)(d:au T w a)(c:¬T g):FB a g t L:=by
 have e:=h.lt;obtain⟨b,h⟩:=h;exact⟨b,(d.block g e c).trans h⟩
theorem FB.cell{w:World}{g:Nat}{t:TypeId}{L:bB}(h:FB w g t L){i:Nat}{v:Int}(a:L[i]?=some v):w.cell? ⟨g,i,none⟩=some (.int .u8 v):=by
 obtain⟨c,h⟩:=h;have d:=(cF.1 a).1;have b:(gQ L++c)[i]?=some (.int .u8 v):=by
  rw[ip (by simpa[gQ]using d)];simp[gQ,a]
 simp only[World.cell?,h];simpa using b
theorem pR(w:World)(b dst e:TypeId)(s:ByteArray)(hs:P.underlying b=some .string)(g:P.underlying dst=some (.slice e))(he:P.underlying e=some (.int .u8)) :
  ∃d a,(convert b dst (.string s)).run P w=.ok (.slice (some ⟨w.z,0,none⟩) s.size d) a∧FB a w.z e (aK s)∧au z8 w a:=by
 refine⟨_,_,run_bytes_of_string w b dst e s hs g he,⟨List.replicate (grownCap w s.size 0 e-s.size) (.int .u8 0),?_⟩,((au.refl _ w).drew).alloc _⟩;have c:(gQ (aK s)++List.replicate (grownCap w s.size 0 e-s.size) (Value.int .u8 0)).toArray=bytesRow s (grownCap w s.size 0 e):=by
  unfold bytesRow;apply Array.toList_inj.1;simp[gQ,aK]
 have f:(gQ (aK s)++List.replicate (grownCap w s.size 0 e-s.size) (Value.int .u8 0)).length=(bytesRow s (grownCap w s.size 0 e)).size:=by
  rw[<-c];simp
 rw[f,c];show(w.heap.push _)[w.z]?=_;simp
theorem u9(w:World)(t:TypeId)(g o:Nat)(h:TypeId)(L:bB)(v:Int)(hs:(P.info? t).map (·.size)=some 1)(a:FB w g h L)(f:o<L.length) :
  ∃c,(Instr.storeAt t (.pointer (some ⟨g,o,none⟩)) (.int .u8 v)).run P w=.ok () c∧FB c g h (L.set o v)∧au (λj=>j=g) w c∧c.z=w.z:=by
 obtain⟨s,m,p⟩:=gv.1 hs;have l:=a.cell (cx f);obtain⟨b,a⟩:=a;have q:w.frozen? ⟨g,o,none⟩=false:=by
  simp only[World.frozen?,a];have e:¬(gQ L++b).length<=o:=by
   simp[gQ];omega
  rw[bZ e];rfl
 refine⟨w.setCell ⟨g,o,none⟩ (.int .u8 v),?_,⟨b,?_⟩,?_,z1⟩
 ·simp only[Instr.storeAt,Instr.sureAddr,storeVar];have k:(Value.int .u8 v).cells=#[.int .u8 v]:=rfl;have e:(store ⟨g,o,none⟩ (.int .u8 v)).run P w=.ok () (w.setCell ⟨g,o,none⟩ (.int .u8 v)):=by
   rw[run_store P w _ _ _ rfl,l,q];rfl
  simp[sizeOf,typeInfo,m,p,k,storeCells,bY,e]
 ·have d:(gQ (L.set o v)++b)=(gQ L++b).set o (.int .u8 v):=by
   rw[List.set_append_left _ _ (by simpa[gQ]using f)];simp[gQ,List.map_set]
  rw[d];simp[World.setCell,Array.getElem?_modify,a]
 ·exact⟨rfl,rfl,rfl,z1,λi _ n=>Below.heap_setCell w _ _ i (λd=>n d)⟩
theorem sh(w:World)(b dst e:TypeId)(g L d:Nat)(t:TypeId)(l:bB)(hs:P.underlying b=some (.slice e))(he:P.underlying e=some (.int .u8))(m:P.underlying dst=some .string)
  (i:FB w g t l) (j:l.length=L) (k:u4 l):(convert b dst (.slice (some ⟨g,0,none⟩) L d)).run P w=.ok (.string (bX l)) w:=by
 subst j;have n:(WQ l).length=l.length:=by simp[WQ]
 have c:=run_convert_bytes_back (P:=P) w b dst e ⟨g,0,none⟩ d (WQ l) hs he m (λa o=>by
  have:(⟨g,0,none⟩:Addr).add a=⟨g,a,none⟩:=by rw[bY,bG]
  rw[this];have f:a<l.length:=by omega
  rw[i.cell (cx f)];have h:((WQ l)[a].toNat:Int)=l[a]:=by
   simp only[WQ,List.getElem_map];exact u5 (k _ (List.getElem_mem f))
  rw[h])
 rw[n]at c;exact c
theorem qI{body:Code}{Q:Exit->Act->aI}{p:aH}{i:Nat}{l:aH}{k:List KI}{st:St}{dst:bi}{x:Sem Value}{w:World}{S':br}(v:Nat->Value)(X:Nat->aI)(q:Nat->bu)
  (b:eZ (aj (aa body p)) st.sl i=some dst) (f:ex (aj (aa body p)) st.sl i=some (Wx x)) (B:∀a,gw n st.sl dst (v a)=some (q a))
  (C:∀e,ab w0 S st.bk st.wn st.sz e->∃a c,x.run P e=.ok (v a) c∧X a c∧ab w S' st.bk [] c.z c)
  (y:∀a d,X a d->ab w S' st.bk [] d.z d->aF D P body n d (ao st.bk) Q (.ops p l::k) ⟨q a,st.bk,[],d.z⟩):aF D P body n w0 S Q (.ops p (i::l)::k) st:=by
 intro g e m A;simp only[sem];rw[wpOps_cons];unfold eZ at b;unfold ex at f;split at b
 ·rename_i h o;simp only[o,aB]at f;split at b
  ·rename_i u;split at b
   ·rename_i z;simp only[aB]at b;have E:Region.wanted h (yielded (aj (aa body p)) g.tmps)=true:=by simp[Region.wanted,u]
    simp only[wpOp,o,aA E];refine .inl ?_;obtain⟨a,c,r,s,j⟩:=C e A;have t:(execOp g.eval h).run P e=.ok (.value (v a)) c:=by
     rw[m.RS z,f];simp only[Wx,Sem.run_bind,r,dS,Sem.run_pure]
    simp only[Oper.wp,t,Oper.upon_value];rw[b];exact y a c s j _ _ (m.put (B a)) j.again
   ·cases b
  ·cases b
 ·cases b
theorem oK{body:Code}{Q:Exit->Act->aI}{p:aH}{i f0:Nat}{ls ls':cj}{k:List KI}{st:St}{x:Sem Unit}{w:World}{S':br}(X:aI)
  (r:Region.ready .any (aj (aa body p)) ls=[i]) (A:ls.setIfInBounds i true=ls')
  (a:eZ (aj (aa body p)) st.sl i=some none) (e:ex (aj (aa body p)) st.sl i=some (XG x))
  (C:∀d,ab w0 S st.bk st.wn st.sz d->∃b,x.run P d=.ok () b∧X b∧ab w S' st.bk [] b.z b)
  (y:∀c,X c->ab w S' st.bk [] c.z c->aF D P body n c (ao st.bk) Q (.any p f0 ls'::k) ⟨st.sl,st.bk,[],c.z⟩):aF D P body n w0 S Q (.any p (f0+1) ls::k) st:=by
 intro f d m B;subst A;simp only[sem];refine⟨λg=>(by rw[r]at g; cases g),λF o=>?_⟩;rw[r,aG]at o;subst o;unfold eZ at a;unfold ex at e;split at a
 ·rename_i h q;simp only[q,aB]at e;split at a
  ·rename_i v;split at a
   ·rename_i z;simp only[aB]at a;have E:Region.wanted h (yielded (aj (aa body p)) f.tmps)=true:=by simp[Region.wanted,v]
    simp only[wpOp,q,aA E];refine .inl ?_;obtain⟨b,s,t,j⟩:=C d B;have u:(execOp f.eval h).run P d=.ok .skip b:=by
     rw[m.RS z,e];simp only[XG,Sem.run_bind,s,dS,Sem.run_pure]
    simp only[Oper.wp,u,Oper.upon_skip];rw[a];have l:=y b t j _ _ m j.again;simp only[sem]at l;exact l
   ·cases a
  ·cases a
 ·cases a
theorem bm{body:Code}{Q:Exit->Act->aI}{p:aH}{k:List KI}{st:St}{w:World}{S':br}(f:Nat->St->aI)(r:Nat)(q:No (aa body p)=true)
  (h0:∀b,ab w0 S st.bk st.wn st.sz b->f r st b∧ab w S' st.bk [] st.sz b)
  (round:∀c a b,f c a b->ab w S' a.bk [] b.z b->∀j:Act->aI,(∀d e h i,d<c->f d e i->dy D n e.sl h->ab w S' e.bk [] e.sz i->j h i) ->
   aF D P body n b (ao a.bk) Q (.code (p++[0])::.inv j::k) ⟨a.sl,a.bk,[],b.z⟩) :
  aF D P body n w0 S Q (.code p::k) st:=by
 obtain⟨l,o⟩:∃l,aa body p=.loop l:=by
  cases x:aa body p<;>rw[x]at q<;>first|exact⟨_,rfl⟩|cases q
 intro g C A B;simp only[sem,o];obtain⟨F,I⟩:=h0 C B;refine wp_loop_ghost (λc g b=>∃a,f c a b∧dy D n a.sl g∧ab w S' a.bk [] a.sz b) r ⟨st,F,A,I⟩ ?_;rintro c g b ⟨a,z,G,t⟩;have u:ab w S' a.bk [] b.z b:=by rw[t.size]; exact t
 have m:=round c a b z u (λh s=>∃d,d<c∧∃a,f d a s∧dy D n a.sl h∧ab w S' a.bk [] a.sz s) (λd e h i H E J K=>⟨d,H,e,E,J,K⟩) g b G u.again;simp only[sem,cg,o,aa]at m;refine wp_mono m λv g w y=>?_;cases v<;>exact y
end
end Go.Proofs.YtcmpkkapkdlfhaaGreat
namespace Go.Proofs.YtcmpkkapkdlfhaaGreat
open Go.RowKit Go.Lib
def ah(w:World)(v8:Nat)(e:TypeId)(z:Nat)(A:aY)(n cp:Nat)(cs:av):Prop:=w.ownsRow v8 e z (.slice A n cp) n cs
def dg(A:aY)(x:Nat):Prop:=∃a,A=some a∧x=a.block
variable {w b:World}{v8 z n cp d:Nat}{A:aY}{cs:av}{S:br}{bk:ax}{wn:List Wn}
theorem ah.x2{e:TypeId}{T:br}(h:ah w v8 e z A n cp cs)(l:au T w b)(j:∀d,dg A d->¬T d):ah b v8 e z A n cp cs:=by
 refine⟨h.1,h.2.imp_right ?_⟩;rintro⟨a,m,o,c,g,f,i⟩;have k:a<w.z:=(dp.1 f).1;simp only[Value.slice.injEq]at c;exact⟨a,m,o,by simp[c],g,(l.block a k (j a ⟨_,c.1,rfl⟩)).trans f,i⟩
theorem ah.own{e:TypeId}(h:ah w v8 e z A n cp cs):∀a,dg A a->v8<=a∧a<w.z:=by
 rintro a ⟨f,rfl,rfl⟩;rcases h.2 with⟨b,_⟩|⟨g,i,j,b,c,d,_⟩
 ·simp at b
 ·simp only[Value.slice.injEq,aB]at b;rw[b.1];exact⟨c,(dp.1 d).1⟩
theorem ah.nil(w:World)(v8:Nat)(e:TypeId)(z:Nat):ah w v8 e z none 0 0 []:=World.ownsRow_nil w v8 e z
theorem ah.below{base':Nat}{e:TypeId}(h:ah w v8 e z A n cp cs)(d:base'<=v8):ah w base' e z A n cp cs:=
 ⟨h.1,h.2.imp_right λ⟨a,g,i,f,b,c⟩=>⟨a,g,i,f,az d b,c⟩⟩
theorem ah.len{e:TypeId}(h:ah w v8 e z A n cp cs):cs.length=n*z:=h.1
theorem ah.zq{e:TypeId}(h:ah w v8 e z A n cp cs) :
  (A=none∧n=0∧cp=0∧cs=[])∨∃a d,A=some ⟨a,0,none⟩∧v8<=a∧A2 w a e (cs++d)∧n<=cp∧cp<=maxLen∧(cs++d).length=cp*z:=by
 have o:=h.1;rcases h.2 with⟨b,p⟩|⟨a,q,c,b,g,i,j,k,l,m⟩
 ·simp only[Value.slice.injEq]at b;obtain⟨rfl,_,rfl⟩:=b;subst p;exact .inl ⟨rfl,rfl,rfl,List.eq_nil_of_length_eq_zero (by simpa using o)⟩
 ·simp only[Value.slice.injEq]at b;obtain⟨rfl,_,rfl⟩:=b;have f:cs++c.toList.drop (n*z)=c.toList:=by rw[<-m,List.take_append_drop]
  refine .inr ⟨a,c.toList.drop (n*z),rfl,g,?_,j,k,by rw[f]; simpa using l⟩;unfold A2;rw[f,i]
theorem jn{g:Nat}{e:TypeId}{r:av}(c:v8<=g)(b:A2 w g e (cs++r))(f:n<=cp)(d:cp<=maxLen)(a:cs.length=n*z)(h:(cs++r).length=cp*z):ah w v8 e z (some ⟨g,0,none⟩) n cp cs:=
 ⟨a,.inr ⟨g,cp,(cs++r).toArray,rfl,c,b,f,d,by simpa using h,by rw[<-a]; simp⟩⟩
theorem ah.cell{e:TypeId}(h:ah w v8 e z A n cp cs){j:Nat}{v:Value}(b:cs[j]?=some v) :
  ∃a,A=some ⟨a,0,none⟩∧v8<=a∧a<w.z∧w.cell? ⟨a,j,none⟩=some v:=by
 rcases h.zq with⟨_,_,_,rfl⟩|⟨a,f,rfl,d,c,_⟩
 ·simp at b
 ·exact⟨a,rfl,d,c.lt,c.at_ (by rw[ip (cF.1 b).1]; exact b)⟩
theorem sk{v:Value}(h:w.grownBy b v.ownBlock)(g:v=.slice A n cp):au (dg A) w b:=by
 subst g;refine⟨h.os,h.tape,h.output,h.size,λd e f=>h.block d e (λa=>?_)⟩
 cases A with
 |none=>simp[Value.ownBlock]at a
 |some c=>simp only[Value.ownBlock,aB]at a; exact f ⟨c,rfl,a⟩
def H5(w:World)(b A:aY):Prop:=∀a,dg A a->dg b a∨w.z<=a
theorem ah.le{e:TypeId}(h:ah w v8 e z A n cp cs):n<=cp:=by
 rcases h.zq with⟨_,a,d,_⟩|⟨b,c,_,_,_,a,_⟩
 ·omega
 ·exact a
theorem aU{l:av}(h:l.all Value.oneCell'=true):∀a∈l,a.oneCell'=true:=bE.1 h
def fm(w:World)(e:TypeId)(x:Nat):Prop:=∃b a,w.heap[x]?=some (.cells b e a)
theorem ah.ty{e:TypeId}(h:ah w v8 e z A n cp cs):∀b,dg A b->fm w e b:=by
 rintro b ⟨d,rfl,rfl⟩;rcases h.zq with⟨a,_⟩|⟨f,g,a,_,c,_⟩
 ·cases a
 ·simp only[aB]at a;subst a;exact⟨_,_,c⟩
theorem ab.A0{W g:World}{Ex:ax}(h:ab w S bk [] W.z W)(b:ab W (ao bk) Ex wn d g):ab w S Ex [] d g:=
 ⟨b.size,b.zq,λf c e=>(b.own f c e).elim (λ⟨i,k,a,j⟩=>by rw[<-j]; exact h.own i k a) (λa=>.inr (az h.x2.size a)),b.nd,
  h.x2.trans b.x2 (λo m ⟨f,c,e,l⟩=>(h.own f c e).elim (λa=>l▸a) (λa=>absurd m yq)),λp n=>by cases n⟩
theorem ab.A3{i:World}{S' T:br}(hm:ab w S bk wn d i)(g:∀c,S c->S' c)(h:au T i b)(j:∀c,T c->S' c∨w.z<=c)(k:∀e∈bk,¬T e.g):ab w S' bk [] b.z b:=
 ⟨rfl,λe a=>(hm.zq e a).x2 h (k e a),λe a l=>(hm.own e a l).imp_left (g _),hm.nd,(hm.x2.mono (λf _ a=>g f a)).trans h (λf n a=>(j f a).resolve_right yq),λc m=>by cases m⟩
theorem ab.wide{w0:World}{S':br}(hm:ab w0 S bk wn d w)(h:∀a,S a->S' a):ab w0 S' bk [] d w:=
 ⟨hm.size,hm.zq,λi e f=>(hm.own i e f).imp_left (h _),hm.nd,hm.x2.mono (λb _ c=>h b c),λa g=>(by cases g)⟩
theorem ab.none_{w0:World}(hm:ab w0 S bk wn d w):ab w0 S [] [] d w:=
 ⟨hm.size,λc a=>(by cases a),λc a=>(by cases a),List.nodup_nil,hm.x2,λe b=>(by cases b)⟩
section
variable {P:Program}
theorem ce(w:World)(v8:Nat)(t u e:TypeId)(l:Value)(z o:Nat)(A:aY)(n cp:Nat)(cs:av)(a:Addr)(m c:Nat)(xs:av)(M:P.underlying t=some (.slice e))(H:(P.info? e).map (λj=>(j.zero,j.size,j.bytes))=some (some l,z,o))
  (S:l.cells.size=z) (R:0<z) (h:ah w v8 e z A n cp cs) (I:xs.length=m*z) (G:∀p d,xs[p]?=some d->w.cell? (a.add p)=some d) (K:∀y∈xs,y.oneCell'=true) (J:n+m<=100000) (O:o<=1000) (F:v8<=w.z) :
  ∃k v b,(Builtin.append_ #[t,t] u #[.slice A n cp,.slice (some a) m c]).run P w=.ok (.slice k (n+m) v) b∧ah b v8 e z k (n+m) v (cs++xs)∧au (dg A) w b∧(∀d,dg k d->dg A d∨w.z<=d):=by
 obtain⟨T,Q,x⟩:=gv.1 H;simp only[bw]at x;obtain⟨N,L,V⟩:=x;obtain⟨Z,b,q,g,D,X,E⟩:=run_append_own_at (P:=P) w v8 t u e T l z o M Q N L V S R (.slice A n cp) n cs h a m c xs I G K (by simp only[maxLen]; omega)
  (az (Nat.mul_le_mul J O) (by decide)) F
 have r:=sk D rfl;rcases g.2 with⟨rfl,s⟩|⟨C,U,ac,rfl,Y⟩
 ·refine⟨none,0,b,?_,?_,r,λd ⟨a,i,_⟩=>by cases i⟩
  ·rw[q,s]
  ·unfold ah;rw[s]at g ⊢;exact g
 ·refine⟨some ⟨C,0,none⟩,U,b,q,g,r,?_⟩;rintro d ⟨W,i,rfl⟩;simp only[aB]at i;subst i;rcases E with f|f
  ·left
   cases A with
   |none=>simp[Value.ownBlock]at f
   |some B=>simp only[Value.ownBlock,aB]at f; exact⟨B,rfl,f⟩
  ·right;simp only[Value.ownBlock,aB]at f;exact bC f.symm
theorem Dq(w:World)(t d e:TypeId)(A:aY)(n cp:Nat)(B:aY)(a:Nat)(c:P.underlying t=some (.slice e))(b:(P.info? e).isSome=true)(h:n<=cp) :
  (Builtin.append_ #[t,t] d #[.slice A n cp,.slice B 0 a]).run P w=.ok (.slice A n cp) w:=by
 obtain⟨g,f⟩:=cV.1 b;cases A<;>cases B<;>simp[Builtin.append_,run_underlying c,sizeOf,typeInfo,f,Builtin.lenOf,h,Builtin.firstCells,loadCells,loadCellsFrom,storeCells]
theorem mu(w:World)(v8 s:Nat)(t g e:TypeId)(i:Value)(z j:Nat)(A:aY)(n cp:Nat)(cs:av)(B:aY)(m f:Nat)(xs:av)(p:P.underlying t=some (.slice e))(l:(P.info? e).map (λd=>(d.zero,d.size,d.bytes))=some (some i,z,j))
  (J:i.cells.size=z) (I:0<z) (h:ah w v8 e z A n cp cs) (k:ah w s e z B m f xs) (E:∀r∈xs,r.oneCell'=true) (D:n+m<=100000) (F:j<=1000) (C:v8<=w.z) :
  ∃a c b,(Builtin.append_ #[t,t] g #[.slice A n cp,.slice B m f]).run P w=.ok (.slice a (n+m) c) b∧ah b v8 e z a (n+m) c (cs++xs)∧au (dg A) w b:=by
 have H:=k.len;rcases k.zq with⟨rfl,rfl,rfl,rfl⟩|⟨q,L,rfl,N,y,_⟩
 ·refine⟨A,cp,w,Dq w t g e A n cp none 0 p ?_ h.le,by rw[dD]; exact h,au.refl _ w⟩;obtain⟨O,G,_⟩:=gv.1 l;rw[G];rfl
 ·obtain⟨a,c,b,u,v,x,_⟩:=ce (P:=P) w v8 t g e i z j A n cp cs ⟨q,0,none⟩ m f xs p l J I h H (λK M o=>by rw[bY,bG]; exact y.at_ (by rw[ip (cF.1 o).1]; exact o)) E D F C;exact⟨a,c,b,u,v,x⟩
variable {D:List Deferred}{n:Nat}{w0:World}{S:br}{Y:Type}{body:Code}{Q:Exit->Act->aI}
theorem dE{p:aH}{i:Nat}{l:aH}{k:List KI}{st:St}{dst:bi}{x:Sem Value}{w:World}{S':br}(v:Y->Value)(Ex:ax)(X:Y->aI)(q:Y->bu)
  (c:eZ (aj (aa body p)) st.sl i=some dst) (f:ex (aj (aa body p)) st.sl i=some (Wx x)) (B:∀a,gw n st.sl dst (v a)=some (q a))
  (C:∀e,ab w0 S st.bk st.wn st.sz e->∃a b,x.run P e=.ok (v a) b∧X a b∧ab w S' Ex [] b.z b)
  (y:∀a d,X a d->ab w S' Ex [] d.z d->aF D P body n d (ao Ex) Q (.ops p l::k) ⟨q a,Ex,[],d.z⟩):aF D P body n w0 S Q (.ops p (i::l)::k) st:=by
 intro g e m A;simp only[sem];rw[wpOps_cons];unfold eZ at c;unfold ex at f;split at c
 ·rename_i h o;simp only[o,aB]at f;split at c
  ·rename_i u;split at c
   ·rename_i z;simp only[aB]at c;have E:Region.wanted h (yielded (aj (aa body p)) g.tmps)=true:=by simp[Region.wanted,u]
    simp only[wpOp,o,aA E];refine .inl ?_;obtain⟨a,b,r,s,j⟩:=C e A;have t:(execOp g.eval h).run P e=.ok (.value (v a)) b:=by
     rw[m.RS z,f];simp only[Wx,Sem.run_bind,r,dS,Sem.run_pure]
    simp only[Oper.wp,t,Oper.upon_value];rw[c];exact y a b s j _ _ (m.put (B a)) j.again
   ·cases c
  ·cases c
 ·cases c
theorem uo{p:aH}{i f0:Nat}{ls ls':cj}{k:List KI}{st:St}{dst:bi}{x:Sem Value}{w:World}{S':br}(v:Y->Value)(Ex:ax)(X:Y->aI)(r:Y->bu)
  (E:ls.setIfInBounds i true=ls') (s:Region.ready .any (aj (aa body p)) ls=[i])
  (c:eZ (aj (aa body p)) st.sl i=some dst) (f:ex (aj (aa body p)) st.sl i=some (Wx x)) (G:∀a,gw n st.sl dst (v a)=some (r a))
  (H:∀e,ab w0 S st.bk st.wn st.sz e->∃a b,x.run P e=.ok (v a) b∧X a b∧ab w S' Ex [] b.z b)
  (B:∀a d,X a d->ab w S' Ex [] d.z d->aF D P body n d (ao Ex) Q (.any p f0 ls'::k) ⟨r a,Ex,[],d.z⟩):aF D P body n w0 S Q (.any p (f0+1) ls::k) st:=by
 intro g e m F;subst E;simp only[sem];refine⟨λh=>(by rw[s]at h; cases h),λJ o=>?_⟩;rw[s,aG]at o;subst o;unfold eZ at c;unfold ex at f;split at c
 ·rename_i j q;simp only[q,aB]at f;split at c
  ·rename_i A;split at c
   ·rename_i C;simp only[aB]at c;have I:Region.wanted j (yielded (aj (aa body p)) g.tmps)=true:=by simp[Region.wanted,A]
    simp only[wpOp,q,aA I];refine .inl ?_;obtain⟨a,b,t,u,l⟩:=H e F;have y:(execOp g.eval j).run P e=.ok (.value (v a)) b:=by
     rw[m.RS C,f];simp only[Wx,Sem.run_bind,t,dS,Sem.run_pure]
    simp only[Oper.wp,y,Oper.upon_value];rw[c];have z:=B a b u l _ _ (m.put (G a)) l.again;simpa only[sem]using z
   ·cases c
  ·cases c
 ·cases c
end
end Go.Proofs.YtcmpkkapkdlfhaaGreat
namespace Go.Proofs.YtcmpkkapkdlfhaaGreat
open Go.RowKit Tryz
set_option maxHeartbeats 4000000
set_option maxRecDepth 100000
structure ar where
 (to id:Int)
 q:ck
 (asked ES:Int)
def ar.cells(o:ar):av:=[.int .i64 o.to,.int .i64 o.id,.int .i64 o.q.kind,.int .i64 o.q.Al,.int .i64 o.q.BV,.int .i64 o.q.seq,.int .i64 o.q.mask,.int .i64 o.q.node,.int .i64 o.q.oe,.int .i64 o.q.os,.string o.q.block,.int .i64 o.asked,.int .i64 o.ES]
def bP(l:List ar):av:=(l.map ar.cells).flatten
theorem jt(l:List ar):(bP l).length=l.length*13:=by
 induction l with
 |nil=>rfl
 |cons a l b=>
  show(a.cells++bP l).length=_
  rw[bM,b,List.length_cons];show 13+_=_;omega
theorem E5(l:List ar)(o:ar):bP l++o.cells=bP (l++[o]):=by simp[bP]
variable {j:Nat}{ok:ar->Bool}{zL:List ar}
theorem qE{l:List ar}{i:Nat}{o:ar}(h:l[i]?=some o)(d:j<13):(bP l)[i*13+j]?=o.cells[j]?:=by
 induction l generalizing i with
 |nil=>simp at h
 |cons a l c=>
  show(a.cells++bP l)[i*13+j]?=_
  cases i with
  |zero=>
   simp only[List.getElem?_cons_zero,aB]at h;subst h;rw[ip (by show _<13; omega)];simp
  |succ i=>
   rw[jY (by show 13<=_; omega)];have b:(i+1)*13+j-a.cells.length=i*13+j:=by show _-13=_; omega
   rw[b];exact c (by simpa using h)
structure CM where
 (Ar last:Int)
 zL:List ar
def af(n:Int):Int:=jC (mv n 0) 1099511627776
def TH(e f:TypeId)(w:World)(v8 d:Nat)(c:CM):Prop:=
 ∃a b,A2 w d e [.int .i64 c.Ar,.int .i64 c.last,.slice a c.zL.length b]∧ah w v8 f 13 a c.zL.length b (bP c.zL)
def d6(c:CM)(ya a:Int)(q:ck):CM:=⟨c.Ar,c.last+1,c.zL++[⟨a,c.last+1,q,af ya,af ya⟩]⟩
structure uj(w0:World)(Y8 tF tC:TypeId)(c1 c2 cb:Nat)(fv:Value)(X:aI)(Ar last:Int)(A:aY)(cp:Nat)(zL:List ar)(pre:aH)(W:World):Prop where
 kp:au (λ_=>True) w0 W
 c1:A2 W c1 Y8 [pt cb 0]
 c2:A2 W c2 tF [fv]
 x:X W
 hd:pre=[]->A2 W cb tC [.int .i64 Ar,.int .i64 last,.slice A zL.length cp]
 arr:∀(j:Nat)(o:ar),zL[j]?=some o->(∀i∈pre,i<j)->∃g,A=some ⟨g,0,none⟩∧g<W.z∧∀(i:Nat)(v:Value),o.cells[i]?=some v->W.cell? ⟨g,0+j*13+i,none⟩=some v
def cc(ok:ar->Bool)(zL:List ar)(j:Nat):aH:=(List.range j).filter (λa=>match zL[a]? with|some b=>ok b|none=>false)
theorem qD:∀a∈cc ok zL j,a<j:=λa b=>by
 simp only[cc,dR,bn]at b
 exact b.1
theorem ml{o:ar}(h:zL[j]?=some o):cc ok zL (j+1)=bif ok o then cc ok zL j++[j]else cc ok zL j:=by
 unfold cc;rw[List.range_succ,List.filter_append];cases a:ok o<;>simp[h,a]
theorem ll:(cc ok zL j).length<=j:=by
 unfold cc;exact az (List.length_filter_le _ _) (by rw[List.length_range]; exact bT _)
def sR(ok:ar->Bool)(zL:List ar)(pre:aH):Prop:=∃j a,zL[j]?=some a∧ok a=true∧pre=cc ok zL j++[j]
def om(ok:ar->Bool)(zL:List ar)(pre:aH)(j:Nat):Prop:=∃a,zL[j]?=some a∧ok a=true∧pre=cc ok zL j
section
variable {P:Program}
def KX{α:Type}(n:Nat)(P:Program)(g:Nat)(lb:Array Value)(encs:α->Array Value)(Inv:List α->aI)(S k:List α->Prop)(N:List α->α->Prop):Prop:=
 ∀(l:Nat)(b h:List α->aI)(W:World),(∀a d,b a d->Inv a d)->AbidesFrom W.z b->AbidesFrom W.z h ->
  (∀a f d,b a d->N a f->YieldAt Fence.wide (n-1) P l (encs f) d λe c=>(e=.returned (.bool true)∧b (a++[f]) c)∨(e=.returned (.bool false)∧h (a++[f]) c))->b [] W ->
  CallsIn Fence.wide n P g (#[.func (.yield l) #[] #[]]++lb) W λe c=>(∃j,e=.returned j)∧((∃i,S i∧b i c)∨(∃a,k a∧h a c))
theorem Dd{α:Type}{n:Nat}{g:Operand}{G:Array Tmp}{assign body:Code}{Q:Exit->Act->aI}{a:Act}{w:World}(a1:1<=n){gf:Nat}{lb:Array Value}
  (a4:a.eval g=.func (.func gf) #[] lb) (a0:∀args w,(callFunc gf args).run P w=.ok (.enter gf args) w) {encs:α->Array Value} {Y:List α->aI} {S X:List α->Prop} {N:List α->α->Prop}
  (b4:KX (n-1) P gf lb encs Y S X N) (b1:∀f,(encs f).size=G.size) (j E:List α->aI) (u:OwnFrom w.z j) (M:OwnFrom w.z E) (WJ:∀c b,j c b->Y c b) (h0:j [] w) (V:α->Act->Prop)
  (b8:∀(l:Nat)(c:List α)(f:α)(b:World),j c b->assign.wpIn (Fence.wide.inRound l) (n-1-1) P (λd F t=>d=.normal∧KeepsFrom w.z b t∧j c t∧V f F) { tmps:=(G.zip (encs f)).foldl (λaq (p,U)=>aq.setIfInBounds p U) a.tmps,defers:=[] } b)
  (b5:∀(l:Nat)(c:List α)(f:α)(F:Act)(b:World),j c b->V f F->N c f->body.wpIn (Fence.wide.inRound l) (n-1-1) P (λd _ t=>KeepsFrom w.z b t∧((d=.normal∧j (c++[f]) t)∨(d=.ret∧E (c++[f]) t))) F b)
  (b6:∀(D:Nat)(xs:List α)(b:World),w.z<=D->S xs->j xs b->b.heap[D]?=some (.deferred (some []))->Q .normal { a with defers:={ target:=.collected D,args:=#[] }::a.defers } b)
  (b7:∀(D:Nat)(c:List α)(b:World),w.z<=D->X c->E c b->b.heap[D]?=some (.deferred (some []))->Code.ret.wpIn Fence.wide n P Q { a with defers:={ target:=.collected D,args:=#[] }::a.defers } b) :
  (Code.rangeFunc g G assign body).wpIn Fence.wide n P Q a w:=by
 refine wpIn_rangeFunc λfn bs=>?_;let i:LoopState->Option Code->Loop:=λst a7=>{ state:=st,pending:=a7,fn,tmps:=a.tmps,params:=G,assign,body,defers:=w.z };let e:=w.z+1;let h:=(w.alloc (.deferred (some []))).alloc (.loop (i .ready none));have bb:h.heap[e]?=some (.loop (i .ready none)):=by
  have H:=World.alloc_heap_new (w.alloc (.deferred (some []))) (.loop (i .ready none));rwa [World.size_alloc]at H
 have a8:h.heap[w.z]?=some (.deferred (some [])):=(Below.heap_alloc _ _ _ z1).trans (World.alloc_heap_new w _);have cf:w.z<=h.z:=by simp[h,World.z]; omega
 refine⟨e,[{ target:=.collected w.z,args:=#[] }],h,{ target:=.fn (.func gf) lb,args:=#[.func (.yield e) #[] #[]] },h,gf,#[.func (.yield e) #[] #[]]++lb,h,run_enterLoop_outer _ _ _ _ _,?_,λ_ _=>trivial,?_,λ_=>a1,?_⟩
 ·simp only[resolve,a4];simp[go_sem]
 ·simp[invoke,go_sem,a0]
 have ak:∀{s B:World}{v:bi},(∀r,v=some r->h.z<=r∧∃o:Obj,s.heap[r]?=some o∧o.isWalk=true)->(∀r,v=some r->w.z<=r∧∃o:Obj,s.heap[r]?=some o∧o.isCells=false):=λk r d=>by
  obtain⟨cb,o,a5,a6⟩:=k r d;exact⟨yq,o,a5,Obj.not_cells_of_walk a6⟩
 let T:List α->aI:=λc b=>j c b∧b.heap[e]?=some (.loop (i .ready none))∧b.heap[w.z]?=some (.deferred (some []));let W:List α->aI:=λc b=>E c b∧b.heap[e]?=some (.loop (i .done (some .ret)))∧b.heap[w.z]?=some (.deferred (some []));have a2:AbidesFrom h.z T:=λI s B v ⟨L,z,A⟩ q k=>⟨u I s B v L q (ak (B:=B) k),(grownBy_keeps q (λr d=>(k r d).2) z rfl).trans z,(grownBy_keeps q (λr d=>(k r d).2) A rfl).trans A⟩;have a9:AbidesFrom h.z W:=λI s B v ⟨L,z,A⟩ q k=>⟨M I s B v L q (ak (B:=B) k),(grownBy_keeps q (λr d=>(k r d).2) z rfl).trans z,(grownBy_keeps q (λr d=>(k r d).2) A rfl).trans A⟩;refine(b4 e T W h (λc b H=>WJ c b H.1) a2 a9 ?round ⟨u.alloc _ (u.alloc _ h0),bb,a8⟩).mono ?behind
 case round=>
  rintro c f b ⟨y,m,x⟩ b2;refine⟨fn,_,assign,body,run_yield (P:=P) (args:=encs f) m (b1 f),roundIn_of_wpIn bs (wpIn_mono (b8 e c f b y) λd aV J K=>?_)⟩;obtain⟨rfl,ac,bt,bg⟩:=K;have R:=ac.same _ _ yq m rfl;have bk:=ac.same _ _ (bT _) x rfl;have b3:e<J.z:=(dp.1 R).1;refine⟨_,run_beginRound R rfl,?_⟩;have b0:(J.putObj e (.loop { i .ready none with state:=.busy })).heap[e]?=some (.loop { i .ready none with state:=.busy }):=World.putObj_heap_same b3;have bl:(J.putObj e (.loop { i .ready none with state:=.busy })).heap[w.z]?=some (.deferred (some [])):=(World.putObj_heap_other yq).trans bk;refine wpIn_mono (b5 e c f aV _ (u.putObj _ bt yq R rfl) bg b2) ?_;rintro d ca aR ⟨ad,K⟩;have C:=ad.same _ _ yq b0 rfl;have Z:=ad.same _ _ (bT _) bl rfl;have an:e<aR.z:=(dp.1 C).1;rcases K with⟨rfl,O⟩|⟨rfl,O⟩
  ·exact⟨_,_,run_endRound (P:=P) none C,.inl ⟨rfl,u.putObj _ O yq C rfl,World.putObj_heap_same an,(World.putObj_heap_other yq).trans Z⟩⟩
  ·exact⟨_,_,run_endRound (P:=P) (some .ret) C,.inr ⟨rfl,M.putObj _ O yq C rfl,World.putObj_heap_same an,(World.putObj_heap_other yq).trans Z⟩⟩
 case behind=>
  rintro d b9 ⟨⟨U,rfl⟩,(⟨xs,a3,y,m,x⟩|⟨c,bd,y,m,x⟩)⟩
  ·exact⟨none,_,run_endLoop (P:=P) m (by simp[i]),b6 _ xs _ (bT _) a3 (u.putObj _ y yq m rfl) ((World.putObj_heap_other yq).trans x)⟩
  ·exact⟨some .ret,_,run_endLoop (P:=P) m (by simp[i]),b7 _ c _ (bT _) bd (M.putObj _ y yq m rfl) ((World.putObj_heap_other yq).trans x)⟩
theorem gU{B:Nat}{T:br}{W c:World}(h:au T W c)(e:∀k a,T k->W.heap[k]?=some a->a.isCells=true):KeepsFrom B W c:=by
 refine⟨h.size,λk a _ b d=>?_⟩;refine(h.block k (dp.1 b).1 (λf=>?_)).trans b;rw[e k a f b]at d;cases d
variable {body:Code}{n:Nat}
theorem lk{α:Type}{w0:World}{S:br}{Q:Exit->Act->aI}{p:aH}{k:List KI}{s:bu}{bk:ax}{wn:List Wn}{j:Nat}
  {g:Operand} {pt:Tmp} {Xp F:Code} {gf:Nat} {lb:Array Value} {enc:α->Value} {I:List α->aI} {Sq X7:List α->Prop} {N:List α->α->Prop}
  (z:aa body p=.rangeFunc g #[pt] Xp F) (W:opd s g=some (.func (.func gf) #[] lb)) (R:∀K w,(callFunc gf K).run P w=.ok (.enter gf K) w)
  (h t:List α->aI) (V:OwnFrom j h) (Z:OwnFrom j t) (h0:∀w,ab w0 S bk wn j w->h [] w)
  (aq:KX 4 P gf lb (λc=>#[enc c]) I Sq X7 N) (WJ:∀d b,h d b->I d b) (Y:∀d b e,h d b->au z8 b e->h d e)
  (J E:α->bu) (aR:∀c,gw n s (some pt) (enc c)=some (J c))
  (a3:∀(c:α)(l:Nat)(b:World),et (Fence.wide.inRound l) 3 [] P body n b z8 (λm q e=>m=.normal∧au z8 b e∧dy [] n (E c) q) [.code (p++[0])] ⟨J c,[],[],b.z⟩)
  (aV:∀(l:Nat)(d:List α)(c:α)(b:World),h d b->N d c->∃f,ab b (ao f) f [] b.z b∧et (Fence.wide.inRound l) 3 [] P body n b (ao f)
   (λm _ e=>KeepsFrom j b e∧((m=.normal∧h (d++[c]) e)∨(m=.ret∧t (d++[c]) e))) [.code (p++[1])] ⟨E c,f,[],b.z⟩)
  (a0:∀(D:Nat)(u:List α)(b:World),Sq u->h u b->j<=D->b.heap[D]?=some (.deferred (some []))->∃f,ab b (ao f) f [] b.z b∧aF (kJ D) P body n b (ao f) Q k ⟨s,f,[],b.z⟩)
  (a2:∀(D:Nat)(d:List α)(b:World),X7 d->t d b->j<=D->b.heap[D]?=some (.deferred (some []))->∀a,dy (kJ D) n s a->Q .ret a b) :
  aF [] P body n w0 S Q (.code p::k) ⟨s,bk,wn,j⟩:=by
 intro a w i H;simp only[sem,z];have X:w.z=j:=H.size;subst X;have ak:aa body (p++[1])=F:=by simp only[cg,z,aa]
 have a1:aa body (p++[0])=Xp:=by simp only[cg,z,aa]
 refine(wpIn_wide (n:=5)).1 ?_;refine Dd (encs:=λc=>#[enc c]) (N:=N) (gf:=gf) (lb:=lb) yq (i.eval W) R aq (λ_=>rfl) h t V Z WJ (h0 w H) (λc q=>dy [] n (E c) q) ?assign ?body ?done ?stop
 case assign=>
  intro l d c b o;have ac:dy [] n s { tmps:=a.tmps,defers:=[] }:=⟨i.size,rfl,i.val⟩;have r:=a3 c l b _ b (ac.put (aR c)) (ab.none b _);simp only[eB,a1]at r;have ad:({ tmps:=(#[pt].zip #[enc c]).foldl (λM (p,O)=>M.setIfInBounds p O) a.tmps,defers:=[] }:Act)=({ tmps:=a.tmps,defers:=[] }:Act).put (some pt) (enc c):=by
   simp[Act.put]
  rw[<-ad]at r;refine wpIn_mono r λm q e v=>?_;obtain⟨rfl,G,T⟩:=(show m=.normal∧_∧_ from v);exact⟨rfl,gU G (λ_ _ L=>L.elim),Y d b e o G,T⟩
 case body=>
  intro l d c q b o U an;obtain⟨f,B,C⟩:=aV l d c b o an;have r:=C q b U B;simp only[eB,ak]at r;exact wpIn_mono r λm a4 e v=>v
 case done=>
  intro D u b x y o A;obtain⟨f,B,C⟩:=a0 D u b y o x A;exact C { a with defers:={ target:=.collected D,args:=#[] }::a.defers } b ⟨i.size,by simp[i.df,kJ],i.val⟩ B
 case stop=>
  intro D d b x y o A;exact wpIn_ret (pL (a2 D d b y o x A { a with defers:={ target:=.collected D,args:=#[] }::a.defers } ⟨i.size,by simp[i.df,kJ],i.val⟩) k)
def S7:Code->Bool
 |.region _ _ false=>true
 |_=>false
theorem TW{c:Code}(h:S7 c=true):∃a,c=.region a (aj c) false:=by
 cases c with
 |region a ops b=>
  cases b with
  |false=>exact⟨a,rfl⟩
  |true=>cases h
 |_=>cases h
def lA(o:Oper):Bool:=match o.op with|.defer _=>false|_=>true
theorem Fl{o:Oper}(h:lA o=true):∀a,o.op≠.defer a:=λa b=>by
 unfold lA at h
 rw[b]at h
 cases h
theorem De{n:Nat}{a:String}{args:Array Value}{w:World}{R:Value->aI}(h:Rows P a args w R):RowsIn Fence.wide n P a args w R:=
 λb e _=>let ⟨d,f,r,c⟩:=h b e; ⟨d,f,r,stepsIn_wide.2 c⟩
@[reducible] def se(r:bi):Fence:={ Fence.wide with round:=r }
section
variable {ops:Array Oper}{m:Nat}{r:bi}{K:Act->aI}{Q b:Exit->Act->aI}{a:Act}{w:World}
theorem Fm{o:Oper}{R:Result Next}(e:∀c a w,c≠.normal->¬b c a w)(h:o.upon P a K b R):o.uponIn (se r) m P a K Q R:=by
 have f:(se r).depth.isSome=true->1<=m:=λh=>by cases h
 unfold Oper.upon at h;split at h
 ·exact h
 ·exact h
 ·exact h
 ·rename_i g k j;rw[Oper.uponIn_enter];refine⟨f,(show CallsIn Fence.wide (m-1) P g k j _ from callsIn_wide.2 (h.mono λc s d=>?_))⟩
  cases c with
  |returned n=>exact d
  |panicked l=>exact absurd d (e _ _ _ z1)
  |outgrown=>
   obtain⟨p,q,i⟩:=(show LetsOut b from d);exact absurd i (e _ _ _ z1)
 ·rw[Oper.uponIn_row];exact⟨f,De h⟩
 ·exact absurd h (e _ _ _ z1)
 ·exact h.elim
theorem uV{i:Nat}(o:∀c∈ops,lA c=true)(j:∀f a w,f≠.normal->¬b f a w){g:Act->aI}(l:∀a w,K a w->g a w)(h:wpOp P ops b i K a w):wpOpIn (se r) m P ops Q i g a w:=by
 refine wpOpIn_mono l ?_;unfold wpOp at h;unfold wpOpIn
 cases d:ops[i]? with
 |none=>
  rw[d]at h;exact h
 |some c=>
  rw[d]at h;have n:=o c (Array.mem_of_getElem? d);simp only at h ⊢;split
  ·rename_i e;rw[aA e]at h;rcases h with h|⟨_,p,q,k⟩
   ·refine⟨λ_ _=>trivial,?_⟩;rw[Oper.semAt_eq _ _ _ (Fl n)];exact Fm j h
   ·exact absurd k (j _ _ _ z1)
  ·rename_i e;rw[ay e]at h;exact⟨λ_ _=>trivial,h⟩
theorem xL(g:∀h∈ops,lA h=true)(f:∀d a w,d≠.normal->¬b d a w)(e:∀a w,b .normal a w->Q .normal a w):∀(li:aH)(a:Act)(w:World),wpOps P ops b li a w->wpOpsIn (se r) m P ops Q li a w
 |[],a,w,c=>e a w c
 |i::rest,a,w,c=>by
  rw[wpOps_cons]at c
  rw[wpOpsIn_cons]
  exact uV g f (xL g f e rest) c
theorem xM(h:∀j∈ops,lA j=true)(g:∀f a w,f≠.normal->¬b f a w)(e:∀a w,b .normal a w->Q .normal a w):∀(d:Nat)(ls:cj)(a:Act)(w:World),wpAny P .any ops b d ls a w->wpAnyIn (se r) m P .any ops Q d ls a w
 |0,_,a,w,c=>⟨c.1,e a w c.2⟩
 |d+1,_,a,w,c=>⟨λl=>e a w (c.1 l),λi k=>uV h g (xM h g e d _) (c.2 i k)⟩
end
def pM(ops:Array Oper):Bool:=ops.toList.all lA
theorem lB{ops:Array Oper}(h:pM ops=true):∀a∈ops,lA a=true:=λa b=>bE.1 h a (Array.mem_toList_iff.2 b)
def mi:Exit->Act->aI:=λ_ _ _=>False
theorem yW{J:Act->aI}:∀(b:Exit)(a:Act)(w:World),b≠.normal->¬sem P body mi [.inv J] b a w:=by
 intro b a w d c;cases b<;>first|exact d rfl|exact c
section
variable {m:Nat}{r:bi}{D:List Deferred}{w0:World}{S:br}{Q:Exit->Act->aI}{p:aH}{k:List KI}{st:St}
theorem KY{i:Nat}{g:aH}(y:pM (aj (aa body p))=true)
  (h:∀j:Act->aI,(∀(e:World)(b:br)(f:St),et (se r) m D P body n e b Q (.ops p g::k) f->aF D P body n e b mi [.inv j] f)->aF D P body n w0 S mi [.ops p [i],.inv j] st) :
  et (se r) m D P body n w0 S Q (.ops p (i::g)::k) st:=by
 intro a w t u;have c:=h (λa w=>eB (se r) m P body Q (.ops p g::k) .normal a w) (λe b f q o z v x=>q o z v x) a w t u;simp only[sem]at c;rw[wpOps_cons]at c;simp only[eB];rw[wpOpsIn_cons];exact uV (lB y) (λl a w s d=>yW (P:=P) (body:=body) l a w s d) (λa w d=>d) c
theorem Df(m:Nat)
  (h:∀(g:Act->aI)(b:Exit->Act->aI),(∀(e:World)(c:br)(f:St),aF D P body n e c Q k f->et Fence.wide m D P body n e c b [.inv g] f)->(∀a w,Q .ret a w->b .ret a w)->et Fence.wide m D P body n w0 S b [.code p,.inv g] st) :
  aF D P body n w0 S Q (.code p::k) st:=by
 intro a w q r;have d:=h (sem P body Q k .normal) (sem P body Q k) (λe c f l j v t u=>l j v t u) (λa w s=>pL s k) a w q r;have o:eB Fence.wide m P body (sem P body Q k) [.inv (sem P body Q k .normal)]=sem P body Q k:=by
  funext i a w;cases i<;>rfl
 simp only[eB]at d;rw[o]at d;simp only[sem];exact(wpIn_wide (n:=m)).1 d
end
section
variable {m l:Nat}{D:List Deferred}{w0:World}{S:br}{Q:Exit->Act->aI}{p:aH}{k:List KI}{st:St}
theorem EP{l0:aH}(v:S7 (aa body p)=true)(z:pM (aj (aa body p))=true)(t:List.range (aj (aa body p)).size=l0)
  (h:∀f:Act->aI,(∀(d:World)(b:br)(e:St),et (Fence.wide.inRound l) m D P body n d b Q k e->aF D P body n d b mi [.inv f] e)->aF D P body n w0 S mi [.ops p l0,.inv f] st) :
  et (Fence.wide.inRound l) m D P body n w0 S Q (.code p::k) st:=by
 subst t;intro a w s u;obtain⟨B,q⟩:=TW v;have g:=h (λa w=>eB (Fence.wide.inRound l) m P body Q k .normal a w) (λd b e o j A x y=>o j A x y) a w s u;simp only[sem]at g;simp only[eB];rw[q];refine wpIn_region ?_;exact xL (lB z) (λi a w r c=>yW (P:=P) (body:=body) i a w r c) (λa w c=>c) _ a w g
theorem jW{f0:Nat}{ls:cj}(v:jf (aa body p)=true)(A:P.follows .mixedOrders=true)(B:pM (aj (aa body p))=true)(x:(aj (aa body p)).size=f0)(u:Array.replicate (aj (aa body p)).size false=ls)
  (h:∀g:Act->aI,(∀(e:World)(c:br)(f:St),et (Fence.wide.inRound l) m D P body n e c Q k f->aF D P body n e c mi [.inv g] f)->aF D P body n w0 S mi [.any p f0 ls,.inv g] st) :
  et (Fence.wide.inRound l) m D P body n w0 S Q (.code p::k) st:=by
 subst u x;intro a w t b;obtain⟨E,r⟩:=iU v;have i:=h (λa w=>eB (Fence.wide.inRound l) m P body Q k .normal a w) (λe c f q o C y z=>q o C y z) a { w with drawn:=w.drawn+1 } t ⟨b.size,b.zq,b.own,b.nd,b.x2.drew,b.Ww⟩;simp only[sem]at i;simp only[eB];rw[r];refine wpIn_region_any A ?_;exact xM (lB B) (λj a w s d=>yW (P:=P) (body:=body) j a w s d) (λa w d=>d) _ _ a _ i
end
end
theorem yw{S S' T:br}{a b c:World}(h:au S a b)(e:au S' b c)(hs:∀d,d<a.z->S' d->T d)(f:∀d,S d->T d):au T a c:=(h.mono (λd _ h=>f d h)).trans e hs
variable {B j:Nat}{W a:World}{r:bi}{o:ar}{l:List ar}{pre:aH}
theorem my(h:W.grownBy a r)(i:∀d,r=some d->B<=d∧∃o:Obj,W.heap[d]?=some o∧o.isCells=false){k:Nat}{o:Obj}(c:W.heap[k]?=some o)(b:k<B∨o.isCells=true):a.heap[k]?=some o:=by
 refine(h.block k (dp.1 c).1 (λg=>?_)).trans c;obtain⟨j,l,e,f⟩:=i k g.symm;rw[c]at e;cases e;rcases b with b|b
 ·omega
 ·rw[b]at f;cases f
theorem mr{w0:World}{S:br}{bk:ax}(m:w0.z<=B)(hm:ab w0 S bk [] W.z W)(b:W.grownBy a r)(g:∀c,r=some c->B<=c∧∃o:Obj,W.heap[c]?=some o∧o.isCells=false) :
  ab w0 S bk [] a.z a:=
 ⟨rfl,λi j=>my b g (hm.zq i j) (.inr rfl),hm.own,hm.nd,⟨b.os.trans hm.x2.os,b.tape.trans hm.x2.tape,b.output.trans hm.x2.output,az hm.x2.size b.size,λd h k=>by
  have e:=hm.x2.block d h k
  obtain⟨o,f⟩:∃o,w0.heap[d]?=some o:=⟨_,fi h⟩
  rw[f]at e
  rw[f]
  exact my b g e (.inl yq)⟩,λ_ l=>by cases l⟩
theorem ln{v8:Nat}{e:TypeId}{z:Nat}{A:aY}{n cp:Nat}{cs:av}(h:ah W v8 e z A n cp cs)(i:W.grownBy a r)(j:∀b,r=some b->B<=b∧∃o:Obj,W.heap[b]?=some o∧o.isCells=false) :
  ah a v8 e z A n cp cs:=by
 refine⟨h.1,h.2.imp_right ?_⟩;rintro⟨c,l,m,k,d,f,g⟩;exact⟨c,l,m,k,d,my i j f (.inr rfl),g⟩
def pw(d:World)(S:br)(E:aY->Nat->Nat->ax)(u:TypeId)(y:Nat)(H:aH->av)(c:Nat)(q:TypeId)(s:aY)(n G:Nat)(zL:aH->List ar)(pre:aH)(W:World):Prop:=
 ∃a b,ab d S (E a pre.length b) [] W.z W∧ah W d.z u y a pre.length b (H pre)∧ah W c q 13 s n G (bP (zL pre))
section
variable {d:World}{S:br}{E:aY->Nat->Nat->ax}{u:TypeId}{y:Nat}{H:aH->av}{c:Nat}{q:TypeId}{s:aY}{n G:Nat}{zL:aH->List ar}
theorem pw.own{B:Nat}(j:d.z<=B):OwnFrom B (pw d S E u y H c q s n G zL):=by
 rintro l W a r ⟨f,k,g,h,i⟩ b e;exact⟨f,k,mr j g b e,ln h b e,ln i b e⟩
theorem pw.same{pre:aH}{W a:World}(h:pw d S E u y H c q s n G zL pre W)(e:au z8 W a):pw d S E u y H c q s n G zL pre a:=by
 obtain⟨f,m,b,i,j⟩:=h;exact⟨f,m,⟨rfl,λg k=>(b.zq g k).x2 e (λh=>h),b.own,b.nd,b.x2.trans e (λ_ _ h=>h.elim),λ_ l=>by cases l⟩,i.x2 e (λ_ _ h=>h),j.x2 e (λ_ _ h=>h)⟩
end
theorem nz{c:Nat}{q:TypeId}{A:aY}{n cp:Nat}(h:ah W c q 13 A n cp (bP l))(f:l[j]?=some o) :
  ∃a,A=some ⟨a,0,none⟩∧a<W.z∧c<=a∧∀(b:Nat)(d:Value),o.cells[b]?=some d->W.cell? ⟨a,0+j*13+b,none⟩=some d:=by
 obtain⟨a,e,m,r,_⟩:=h.cell (j:=j*13+0) (qE f yq);refine⟨a,e,r,m,λb d g=>?_⟩;obtain⟨s,i,_,_,p⟩:=h.cell (j:=j*13+b) ((qE f (by have k:=(cF.1 g).1; exact k)).trans g);rw[e]at i;cases i;rw[show 0+j*13+b=j*13+b by omega];exact p
def fg(ya:Int)(pre:aH)(l:List ar):List ar:=l.mapIdx (λa o=>if a∈pre then{ o with ES:=ya }else o)
theorem nA(ya:Int)(pre:aH)(l:List ar):(fg ya pre l).length=l.length:=by simp[fg]
theorem Ks(ya:Int)(l:List ar):fg ya [] l=l:=by
 apply List.ext_getElem?;intro a;simp[fg]
theorem xz{ya:Int}(h:l[j]?=some o)(a:j ∉ pre):(fg ya pre l)[j]?=some o:=by
 simp[fg,h,a]
theorem EK{ya:Int}(h:l[j]?=some o)(d:j ∉ pre):fg ya (pre++[j]) l=(fg ya pre l).set j { o with ES:=ya }:=by
 apply List.ext_getElem?;intro b;by_cases a:b=j
 ·subst a;have c:b<(fg ya pre l).length:=by rw[nA]; exact(cF.1 h).1
  rw[List.getElem?_set_self c];simp[fg,h]
 ·rw[List.getElem?_set_ne (Ne.symm a)];simp[fg,a]
def mg(l:List ar)(pre:aH):bB:=pre.map (λa=>match l[a]? with|some o=>o.to|none=>0)
def n1(l:bB):av:=l.map (Value.int .i64)
theorem CJ(l:bB):(n1 l).length=l.length:=by simp[n1]
theorem KC(h:l[j]?=some o):n1 (mg l pre)++[.int .i64 o.to]=n1 (mg l (pre++[j])):=by
 simp[mg,n1,h]
def kz(l:bB):bB:=l.mergeSort (λa b=>decide (a<=b))
theorem uk(l:bB):(kz l).Perm l:=List.mergeSort_perm _ _
theorem KD(l:bB):(kz l).length=l.length:=(uk l).length_eq
section
variable {P:Program}
theorem E6(w:World)(t e y:TypeId)(z:Nat)(a:Value)(g k m A:Nat)(f:TypeId)(cs:av)(b:Nat)(v:P.underlying t=some (.slice e))(n:(P.info? e).map (λc=>(c.zero,c.size,c.bytes))=some (some a,z,b))
  (x:a.cells.size=z) (F:0<z) (D:a.cells.toList.all Value.oneCell'=true) (l:A2 w g f cs) (hm:1<=m) (u:k*z+m*z<=cs.length) :
  ∃j h,(Builtin.clear_ #[t] y #[.slice (some ⟨g,k*z,none⟩) m A]).run P w=.ok (.tuple #[]) h∧A2 h g f (cs.take (k*z)++j)∧(cs.take (k*z)++j).length=cs.length∧au (λr=>r=g) w h:=by
 obtain⟨G,B,q⟩:=gv.1 n;simp only[bw]at q;obtain⟨C,E,_⟩:=q;have i:(Builtin.zeroCells a.cells m).toList.length=m*z:=by simp[Builtin.zeroCells,x,Nat.mul_comm]
 have d:=run_storeCells_at P g (k*z) f (Builtin.zeroCells a.cells m).toList 0 cs.toArray w l (by simp only[Nat.add_zero]; rw[i]; simpa using u) (λH o=>by
  simp only[Builtin.zeroCells,Array.toList_map,aT]at o;obtain⟨c,n,rfl⟩:=o;have s:c%a.cells.size<a.cells.size:=Nat.mod_lt _ yq;rw[getElem!_pos a.cells _ s];exact bE.1 D _ z1)
 simp only[Nat.add_zero]at d;rw[i]at d;simp only[eA]at d;refine⟨(Builtin.zeroCells a.cells m).toList++cs.drop (k*z+m*z),w.setRow g (cs.take (k*z)++((Builtin.zeroCells a.cells m).toList++cs.drop (k*z+m*z))).toArray,?_,gZ l _,?_,f9 w g _⟩
 ·obtain⟨p,rfl⟩:∃p,m=p+1:=⟨m-1,yq⟩;simp[Builtin.clear_,run_underlying v,zeroValue,typeInfo,B,C,d,Result.andThen]
 ·rw[bM,bM,i,dZ,List.length_drop];omega
end
section
variable {D:List Deferred}{P:Program}{n:Nat}{w0:World}{S:br}{body:Code}{Q:Exit->Act->aI}
theorem iF{p:aH}{i:Nat}{l:aH}{k:List KI}{st:St}{x:Sem Unit}{w:World}{S':br}(X:aI)
  (a:eZ (aj (aa body p)) st.sl i=some none) (c:ex (aj (aa body p)) st.sl i=some (XG x))
  (y:∀h,ab w0 S st.bk st.wn st.sz h->∃b,x.run P h=.ok () b∧X b∧ab w S' st.bk [] b.z b)
  (t:∀W,X W->ab w S' st.bk [] W.z W->aF D P body n W (ao st.bk) Q (.ops p l::k) ⟨st.sl,st.bk,[],W.z⟩):aF D P body n w0 S Q (.ops p (i::l)::k) st:=by
 intro j g e v;simp only[sem];rw[wpOps_cons];unfold eZ at a;unfold ex at c;split at a
 ·rename_i o f;simp only[f,aB]at c;split at a
  ·rename_i s;split at a
   ·rename_i u;simp only[aB]at a;have z:Region.wanted o (yielded (aj (aa body p)) j.tmps)=true:=by simp[Region.wanted,s]
    simp only[wpOp,f,aA z];refine .inl ?_;obtain⟨b,m,q,d⟩:=y g v;have r:(execOp j.eval o).run P g=.ok .skip b:=by
     rw[e.RS u,c];simp only[XG,Sem.run_bind,m,dS,Sem.run_pure]
    simp only[Oper.wp,r,Oper.upon_skip];rw[a];exact t b q d _ _ e d.again
   ·cases a
  ·cases a
 ·cases a
theorem em{p:aH}{i f0:Nat}{ls ls':cj}{k:List KI}{st:St}{f:FuncId}{args:av}{dst:bi}{ob:List Prop}{w:World}{S':br}{Y:Type}(v:Y->Value)(Ex:Y->ax)(X:Y->aI)(o:Y->bu)
  (m:Region.ready .any (aj (aa body p)) ls=[i]) (x:ls.setIfInBounds i true=ls') (h:gg P (aj (aa body p)) st.sl i=some (f,args,dst,ob)) (z:J4 ob) (A:∀a,gw n st.sl dst (v a)=some (o a))
  (s:∀c,ab w0 S st.bk st.wn st.sz c->Calls P f args.toArray c (λd b=>∃a,d=.returned (v a)∧X a b∧ab w S' (Ex a) [] b.z b))
  (u:∀a W,X a W->ab w S' (Ex a) [] W.z W->aF D P body n W (ao (Ex a)) Q (.any p f0 ls'::k) ⟨o a,Ex a,[],W.z⟩) :
  aF D P body n w0 S Q (.any p (f0+1) ls::k) st:=by
 subst x;intro B c g y;simp only[sem];refine⟨λh=>by rw[m]at h; (cases h),λj l=>?_⟩;rw[m,aG]at l;subst l;refine ij h z g ((s c y).mono λd b t=>?_);obtain⟨a,q,r,e⟩:=t;exact⟨v a,q,u a b r e _ _ (g.put (A a)) e.again⟩
end
def EJ(a:Int)(o:ar):av:=[.int .i64 a,.int .i64 o.to,.int .i64 o.id,.bool false,.int .i64 o.q.kind,.int .i64 o.q.Al,.int .i64 o.q.BV,.int .i64 o.q.seq,.int .i64 o.q.mask,.int .i64 o.q.node,.int .i64 o.q.oe,.int .i64 o.q.os,.string o.q.block,.int .i64 0,.int .i64 0,.int .i64 0,.bool false,.int .i64 0,.int .i64 0,.int .i64 0,.string ⟨#[]⟩,.bool false,.int .i64 0,.int .i64 0,.int .i64 0,.string ⟨#[]⟩]
def aJ(a:Int)(l:List ar):av:=(l.map (EJ a)).flatten
def mf(l:List ar)(pre:aH):List ar:=pre.filterMap (λa=>l[a]?)
variable {l:List ar}{o:ar}{ya:Int}
theorem Ku{a:Int}{pre:aH}{j:Nat}(h:l[j]?=some o):aJ a (mf l pre)++EJ a o=aJ a (mf l (pre++[j])):=by
 simp[mf,aJ,h]
def fd(ya:Int)(zL:List ar):List ar:=zL.filter (λo=>decide (ya-o.ES>=2))
def fP(ya:Int)(zL:List ar):List ar:=zL.map (λo=>if ya-o.ES>=2 then{ o with ES:=ya }else o)
theorem xB{ok:ar->Bool}{l:List ar}:∀(a:Nat),a<=l.length->mf l (cc ok l a)=(l.take a).filter ok
 |0,_=>by simp[mf,cc]
 |a+1,f=>by
  have b:l[a]?=some l[a]:=cx (by omega)
  have e:=xB (ok:=ok) (l:=l) a (by omega)
  rw[ml b,List.take_add_one,b,List.filter_append,<-e]
  cases c:ok l[a]
  ·simp[c]
  ·have d:mf l (cc ok l a++[a])=mf l (cc ok l a)++[l[a]]:=by simp[mf,b]
   simp[c,d]
theorem EL{zL:List ar}:mf zL (cc (λo=>decide (ya-o.ES>=2)) zL zL.length)=fd ya zL:=by
 rw[xB _ (bT _),List.take_length];rfl
theorem CF{l:List ar}:∀{pre:aH},(∀b∈pre,b<l.length)->(mf l pre).length=pre.length
 |[],_=>rfl
 |a::pre,c=>by
  have f:a<l.length:=c a (by simp)
  have g:l[a]?=some l[a]:=cx f
  have d:=CF (l:=l) (pre:=pre) (λb e=>c b (by simp[e]))
  simp only[mf]at d ⊢
  simp[g,d]
theorem oq{ok:ar->Bool}{i:Nat}(h:l[i]?=some o):i∈cc ok l l.length↔ok o=true:=by
 have a:=(cF.1 h).1;have b:l[i]=o:=by rw[cx a]at h; exact ap h
 simp[cc,a,b]
theorem CE{zL:List ar}:fg ya (cc (λo=>decide (ya-o.ES>=2)) zL zL.length) zL=fP ya zL:=by
 apply List.ext_getElem?;intro c;unfold fg fP;rw[List.getElem?_mapIdx,ew]
 cases b:zL[c]? with
 |none=>rfl
 |some o=>
  simp only[Option.map_some];by_cases a:ya-o.ES>=2
  ·rw[aA ((oq b).2 (by simpa using a)),aA a]
  ·rw[ay (λd=>a (by simpa using(oq b).1 d)),ay a]
theorem Mw{x:Nat}(h:l[x]?=some o):(bP l).set (x*13+12) (.int .i64 ya)=bP (l.set x { o with ES:=ya }):=by
 induction l generalizing x with
 |nil=>simp at h
 |cons a l c=>
  show(a.cells++bP l).set (x*13+12) _=_
  cases x with
  |zero=>
   simp only[List.getElem?_cons_zero,aB]at h;subst h;rfl
  |succ x=>
   have b:a.cells.length=13:=rfl;rw[List.set_append_right _ _ (by rw[b]; omega),b,show(x+1)*13+12-13=x*13+12 by omega,c (by simpa using h)];rfl
theorem Kt{x:Nat}{r:av}(h:l[x]?=some o)(ya:Int) :
  (bP l++r).take (x*13+12)++(Value.int .i64 ya).cells.toList++(bP l++r).drop (x*13+12+(Value.int .i64 ya).cells.size)=bP (l.set x { o with ES:=ya })++r:=by
 have b:=(cF.1 h).1;have a:x*13+12<(bP l).length:=by rw[jt]; omega
 show(bP l++r).take (x*13+12)++[Value.int .i64 ya]++(bP l++r).drop (x*13+12+1)=_
 rw[<-Mw h,<-List.set_append_left _ _ a,List.set_eq_take_append_cons_drop,aA (by rw[bM]; omega)];simp
variable {w w0 a:World}{cs:av}{es:List TypeId}{v8 z n cp b:Nat}{A:aY}{S:br}{bk:ax}{wn:List Wn}
theorem bS{e b:TypeId}{x:Nat}(h:fm w e x)(a:fm w b x):e=b:=by
 obtain⟨d,c,h⟩:=h;obtain⟨g,f,a⟩:=a;rw[h]at a;cases a;rfl
theorem aw{g:Nat}{t:TypeId}(h:A2 w g t cs):fm w t g:=⟨_,_,h⟩
def cI(es:List TypeId)(w:World)(y:Nat):Prop:=∃a,es.contains a=true∧fm w a y
theorem aN{e:TypeId}{y:Nat}(c:es.contains e=false)(h:fm w e y):¬cI es w y:=λ⟨d,a,b⟩=>by
 rw[bS b h,c]at a
 cases a
theorem bW{e:TypeId}(h:ah w v8 e z A n cp cs):∀a,dg A a->cI [e] w a:=λa b=>⟨e,by simp,h.ty a b⟩
theorem ag(hm:ab w0 S bk wn b w):∀a,ao bk a->cI ((bk.filter (·.rw)).map (·.t)) w a:=by
 rintro a ⟨c,d,e,rfl⟩;exact⟨c.t,by simpa using⟨c,⟨d,e⟩,rfl⟩,aw (hm.zq c d)⟩
theorem ah.y4{e:TypeId}{T:br}(h:ah w v8 e z A n cp cs)(d:au T w a)(c:∀b,T b->cI es w b)(f:es.contains e=false):ah a v8 e z A n cp cs:=
 h.x2 d (λb i g=>aN f (h.ty b i) (c b g))
theorem bI{T:br}(hm:ab w0 S bk wn b w)(e:∀c,T c->cI es w c)(f:bk.all (λa=>!es.contains a.t)=true):∀a∈bk,¬T a.g:=λa d g=>
 aN (by simpa using bE.1 f a d) (aw (hm.zq a d)) (e _ g)
structure Yi(c:CM):Prop where
 X2:c.zL.length<=8
 last:0<=c.last
 asked:∀o∈c.zL,0<=o.asked∧o.asked<=1099511627776
 ES:∀o∈c.zL,0<=o.ES∧o.ES<=1099511627776
theorem jz(n:Int):0<=af n∧af n<=1099511627776:=by
 unfold af jC mv;split<;>split<;>omega
theorem eH{n:Int}(h:0<=n∧n<=1099511627776):af n=n:=by
 unfold af jC mv;split<;>split<;>omega
section
variable {f i:TypeId}{w a:World}{v8 d:Nat}{c:CM}{T:br}{es:List TypeId}
end
theorem RP{c:CM}{ya e:Int}{q:ck}(h:Yi c)(f:c.zL.length<8):Yi (d6 c ya e q):=by
 have d:=jz ya;refine⟨by simp[d6]; omega,by have:=h.last; simp only[d6]; omega,λb a=>?_,λb a=>?_⟩
 ·simp only[d6,dG,aG]at a;rcases a with a|rfl
  ·exact h.asked b a
  ·exact d
 ·simp only[d6,dG,aG]at a;rcases a with a|rfl
  ·exact h.ES b a
  ·exact d
theorem N0{c:CM}{x:Nat}(h:Yi c):Yi { c with zL:=c.zL.eraseIdx x }:=
 ⟨by have:=h.X2; have:=List.length_eraseIdx_le c.zL x; simp only; omega,h.last,λa b=>h.asked a (List.mem_of_mem_eraseIdx b),λa b=>h.ES a (List.mem_of_mem_eraseIdx b)⟩
theorem T3{lf E2:Int}{a R:List ar}{o:ar}(k:o.id=E2)(l:o.to=lf)(m:∀b∈a,b.id≠E2) :
  (∀c b,(a++o::R)[c]?=some b->((b.id==E2)&&(b.to==lf))=true->cc (λo=>(o.id==E2)&&(o.to==lf)) (a++o::R) c=[]->c=a.length∧b=o) ∧
   cc (λo=>(o.id==E2)&&(o.to==lf)) (a++o::R) (a++o::R).length≠[]:=by
 have g:(a++o::R)[a.length]?=some o:=by simp
 have j:((o.id==E2)&&(o.to==lf))=true:=by simp[k,l]
 constructor
 ·intro c b f i h;have n:=(cF.1 f).1;rcases Nat.lt_trichotomy c a.length with d|d|d
  ·rw[ip d]at f;simp only[ch,dC]at i;exact absurd i.1 (m b (aS f))
  ·subst d;rw[g]at f;exact⟨rfl,(ap f).symm⟩
  ·have e:a.length∈cc (λo=>(o.id==E2)&&(o.to==lf)) (a++o::R) c:=by
    unfold cc;rw[dR,bn];refine⟨d,?_⟩;rw[g];exact j
   rw[h]at e;cases e
 ·intro h;have e:=(oq (ok:=λo=>(o.id==E2)&&(o.to==lf)) g).2 j;rw[h]at e;cases e
theorem NZ(a R:List ar)(o:ar):(a++o::R).eraseIdx a.length=a++R:=by
 rw[List.eraseIdx_append_of_length_le (bT _)];simp
theorem ah.kT{e:TypeId}{Ex:ax}{g:List Wn}{f:Nat}(h:ah w v8 e z A n cp cs)(hm:ab w (ao bk) Ex g f a)(c:ab w0 S bk wn b w)(d:((bk.filter (·.rw)).map (·.t)).contains e=false:=by exact rfl):ah a v8 e z A n cp cs:=h.y4 hm.x2 (ag c) d
theorem ah.kU{e:TypeId}(h:ah w v8 e z A n cp cs)(hm:au (ao bk) w a)(c:ab w0 S bk wn b w)(d:((bk.filter (·.rw)).map (·.t)).contains e=false:=by exact rfl):ah a v8 e z A n cp cs:=h.y4 hm (ag c) d
structure yO where
 v:Int
structure Nb(x:yO):Prop where
 v:I64 x.v
def yO.cells(x:yO):av:=[.int .i64 x.v]
def M1(w:World)(A:aY)(n:Nat)(f:Nat->yO):Prop:=
 ∀a,a<n->Nb (f a)∧∃b d,A=some ⟨b,d,none⟩∧b<w.z∧∀c,c<1->w.cell? ⟨b,d+a*1+c,none⟩=(f a).cells[c]?
theorem oM{w W:World}{bk:ax}{wn:List Wn}{e:Nat}(h:ab w z8 bk wn e W){y:Nat}(d:ao bk y):w.z<=y:=by
 obtain⟨a,b,c,rfl⟩:=d;exact(h.own a b c).elim (λh=>h.elim) id
theorem xf(a:Int)(l:List ar)(o:ar):aJ a l++EJ a o=aJ a (l++[o]):=by simp[aJ]
variable {l:List ar}{ya:Int}
theorem Vo{b:Int}{a c t:Int}{q:ck}(d:af ya=t):d6 ⟨b,a,l⟩ ya c q=⟨b,a+1,l++[⟨c,a+1,q,t,t⟩]⟩:=by simp[d6,d]
theorem si(h:∀a∈l,ya-a.ES<2):fd ya l=[]:=by
 unfold fd;rw[List.filter_eq_nil_iff];intro a b;have:=h a b;simp;omega
theorem sj(h:∀a∈l,ya-a.ES<2):fP ya l=l:=by
 unfold fP
 conv=>rhs; rw[<-List.map_id l]
 refine ft (λa b=>?_);have:=h a b;rw[ay yq];rfl
theorem KE{a b k:Nat}(c:a<2^k)(d:b<2^k):a^^^b<2^k:=Nat.xor_lt_two_pow c d
theorem E7{a b:Int}(k:Nat)(c:0<=a∧a<((2^k:Nat):Int))(d:0<=b∧b<((2^k:Nat):Int)):0<=jo a b∧jo a b<((2^k:Nat):Int):=by
 have:=KE (a:=a.toNat) (b:=b.toNat) (k:=k) yq yq;unfold jo;omega
section
variable {P:Program}
variable {D:List Deferred}{body:Code}{n:Nat}{w0:World}{S:br}{Q:Exit->Act->aI}
theorem fh{body:Code}{p:aH}{i:Nat}{l:aH}{k:List KI}{st:St}{f:FuncId}{args:av}{dst:bi}{ob:List Prop}{w:World}{S':br}{Y:Type}(v:Y->Value)(Ex:Y->ax)(X:Y->aI)(m:Y->bu)
  (h:gg P (aj (aa body p)) st.sl i=some (f,args,dst,ob)) (x:J4 ob) (y:∀a,gw n st.sl dst (v a)=some (m a))
  (r:∀d,ab w0 S st.bk st.wn st.sz d->Calls P f args.toArray d (λe c=>∃a,e=.returned (v a)∧X a c∧ab w S' (Ex a) [] c.z c))
  (t:∀a b,X a b->ab w S' (Ex a) [] b.z b->aF D P body n b (ao (Ex a)) Q (.ops p l::k) ⟨m a,Ex a,[],b.z⟩):aF D P body n w0 S Q (.ops p (i::l)::k) st:=by
 intro z d j u;simp only[sem];rw[wpOps_cons];refine ij h x j ((r d u).mono λe c s=>?_);obtain⟨a,o,q,g⟩:=s;refine⟨v a,o,?_⟩;exact t a c q g _ _ (j.put (y a)) g.again
theorem Kx{k:List KI}{d:bu}{bk:ax}{g:Nat}(h:∀a,ab w0 S bk [] a.z a->aF D P body n a (ao bk) Q k ⟨d,bk,[],a.z⟩):aF D P body n w0 S Q k ⟨d,bk,[],g⟩:=by
 intro i b f c;have e:ab w0 S bk [] b.z b:=by rw[c.size]; exact c
 exact h b e i b f e.again
def uT:List Bool->ax->ax
 |b::d,a::c=>⟨a.g,a.t,a.rw&&b,a.cs⟩::uT d c
 |_,_=>[]
theorem uU:∀(e:List Bool)(d:ax){b:Bk},b∈uT e d->∃c∈d,c.g=b.g∧c.t=b.t∧c.cs=b.cs∧(b.rw=true->c.rw=true)
 |[],_,b,a=>by simp[uT]at a
 |_::_,[],b,a=>by simp[uT]at a
 |i::e,c::d,b,a=>by
  simp only[uT,bj]at a
  rcases a with rfl|a
  ·exact⟨c,by simp,rfl,rfl,rfl,λa=>by simp at a; exact a.1⟩
  ·obtain⟨f,g,h⟩:=uU e d a
   exact⟨f,cz _ g,h⟩
theorem Nt:∀(b:List Bool)(a:ax),((uT b a).map (·.g)).Sublist (a.map (·.g))
 |[],a=>by simp[uT]
 |_::_,[]=>by simp[uT]
 |c::b,d::a=>by
  simp only[uT,List.map_cons]
  exact(Nt b a).cons_cons _
theorem ab.YR{w0 w:World}{S:br}{bk:ax}{wn:List Wn}{f:Nat}(a:List Bool)(h:ab w0 S bk wn f w):ab w0 S (uT a bk) [] f w:=
 ⟨h.size,λm d=>by
  obtain⟨b,e,c,g,i,_⟩:=uU a bk d
  have:=h.zq b e
  rw[c,g,i]at this
  exact this,λm d k=>by
  obtain⟨b,e,c,_,_,j⟩:=uU a bk d
  have:=h.own b e (j k)
  rw[c]at this
  exact this,h.nd.sublist (Nt a bk),h.x2,λn l=>by cases l⟩
theorem dH{k:List KI}{f:bu}{bk Ex:ax}{wn:List Wn}{g:Nat}(e:List Bool)(i:uT e bk=Ex)(h:∀a,ab w0 S bk wn g a->ab w0 S Ex [] a.z a->aF D P body n a (ao Ex) Q k ⟨f,Ex,[],a.z⟩):aF D P body n w0 S Q k ⟨f,bk,wn,g⟩:=by
 subst i;intro l d j c;have b:=c.YR e;rw[<-c.size]at b;exact h d c b l d j b.again
section
variable {ops:Array Oper}{b:bu}{vs:List (Option Value)}{C:Nat->Value->aI}{ms:List (ax)}{wn:List Wn}{a:Nat}{Dt:List (bi)}{J:Nat}
end
end
def YC(dst:bi)(v:Value)(a:bu):bu:=match dst with
 |some b=>(b,v)::a
 |none=>a
theorem Ip{D:List Deferred}{P:Program}{n:Nat}{w0:World}{S:br}{Q:Exit->Act->aI}{body:Code}{p:aH}{i:Nat}{l:aH}{k:List KI}{b:bu}{bk:ax}{wn:List Wn}{z:Nat}{f:FuncId}{args:av}{dst:bi}{ob:List Prop}{w:World}{S':br}{Y:Type}(v:Y->Value)(Ex:Y->ax)(X:Y->aI)
  (h:gg P (aj (aa body p)) b i=some (f,args,dst,ob)) (o:J4 ob)
  (j:∀e,ab w0 S bk wn z e->Calls P f args.toArray e (λg d=>∃a,g=.returned (v a)∧X a d∧ab w S' (Ex a) [] d.z d))
  (m:∀a c,X a c->ab w S' (Ex a) [] c.z c->aF D P body n c (ao (Ex a)) Q (.ops p l::k) ⟨YC dst (v a) b,Ex a,[],c.z⟩) (q:∀a,gw n b dst (v a)=some (YC dst (v a) b):=by exact λ_=>rfl):aF D P body n w0 S Q (.ops p (i::l)::k) ⟨b,bk,wn,z⟩:=fh v Ex X (λa=>YC dst (v a) b) h o q j m
section
variable {P:Program}{D:List Deferred}{body:Code}{n:Nat}{w0:World}{S:br}{Q:Exit->Act->aI}
variable {ops:Array Oper}{b:bu}{vs:List (Option Value)}{ms:List (ax)}{wn:List Wn}{a:Nat}{Dt:List (bi)}{J:Nat}
end
def sf(z0:Nat)(sp:List (Nat×TypeId×Nat×av)):Nat->Value->aI:=λc d e=>
 ∃a,List.lookup c sp=some a∧∃b,z0<=b∧d=.slice (some ⟨b,0,none⟩) a.2.1 a.2.1∧A2 e b a.1 a.2.2
theorem pN{f:Nat}{g:List (Nat×TypeId×Nat×av)}{bk:ax}(p:∀a∈bk,a.g<f):∀b c d e,sf f g b c d->au (ao bk) d e->sf f g b c e:=
 λb c d e ⟨i,j,h,k,l,m⟩ o=>⟨i,j,h,k,l,m.x2 o (λ⟨a,n,_,q⟩=>by have:=p a n; omega)⟩
section
variable {P:Program}{D:List Deferred}{body:Code}{n:Nat}{w0:World}{S:br}{Q:Exit->Act->aI}
variable {ops:Array Oper}{b:bu}{vs:List (Option Value)}{ms:List (ax)}{wn:List Wn}{a:Nat}{Dt:List (bi)}{J:Nat}
theorem qP{t:ax}(G:oJ ms=List.replicate (J+1) (t.map λo=>(o.g,o.rw))){i:Nat}{h:OH}{ob:List Prop}{rs:List (Nat×Nat×Nat)}{e:TypeId}{L:Nat}{l:av}{s:List (Nat×TypeId×Nat×av)}(F:List.lookup i s=some (e,L,l))(hs:cM Dt i=none)(B:d8 vs i=none)
  (he:∀j,(List.range (J+1)).map (mG P ops b vs ms wn j i h)=(List.range (J+1)).map (λf=>(ms[f]?).map λc=>(ob,aX rs,Value.slice (some ⟨j,0,none⟩) L L,c++[⟨j,e,true,l⟩],j+1))) (A:J4 ob) :
  eQ (wpOp P ops Q) D n ops b Dt J (MG w0 S ms wn a) (ao t) (PvG vs (sf a s)) i:=by
 intro f K g H I _ _ x y z v;obtain⟨c,k,r,q⟩:=z;have p:=congrArg (λl=>l[f]?) (he g.z);simp only[ew,ek (show f<J+1 by omega),Option.map_some,aB,mG,k]at p;have w:=j3 (nJ G k);refine iK (w0:=g) (S:=ao c) p A (dX _) (fC x _ y) q.again (λm d=>?_);have u:=d.zq ⟨g.z,e,true,l⟩ z1;have E:=d.less;have C:ab g (ao c) c wn m.z m:=by rw[d.size]; exact E
 refine v _ m ?_ (w▸d.x2) ⟨c,?_,az r d.x2.size,q.W4 C rfl⟩
 ·simp only[PvG,B];exact⟨_,F,_,r,rfl,u⟩
 ·unfold f4;rw[hs];exact k
theorem xP{w:ax}{i k d:Nat}{f:List (Nat×TypeId×Nat×av)}(u:k∈aM ops i)(q:bV ops k=some d)(C:d8 vs k=none)(A:List.lookup i f=List.lookup k f)(hs:cM Dt i=none)(v:d8 vs i=none)
  (x:∀c,eZ ops [(d,c)] i=some (bV ops i)) (z:∀c,ex ops [(d,c)] i=some (Wx (pure c))) :
  eQ (wpOp P ops Q) D n ops b Dt J (MG w0 S ms wn a) (ao w) (PvG vs (sf a f)) i:=by
 refine RE λE G l _ _ _ g s t=>?_;obtain⟨c,B,h⟩:=s k u d q;simp only[PvG,C]at h;obtain⟨m,o,p⟩:=h;refine⟨_,_,c,l,⟨g.size,g.df,λj F e=>?_⟩,x c,z c,rfl,?_,au.refl _ _,?_⟩
 ·simp only[gh]at e;split at e
  ·rename_i r;have y:d=j:=bH r;subst y;simp only[aB]at e;subst e;exact B
  ·cases e
 ·simp only[PvG,v];exact⟨m,A.trans o,p⟩
 ·unfold f4;rw[hs];exact t
theorem Fr{p:aH}{k:List KI}{st:St}{vs:List (Option Value)}(C:Nat->Value->aI){ms:List (ax)}{Dt:List (bi)}{J:Nat}(E:aH){V9:bu}{Ex:ax}(h m i o:Nat)
  (t:jf (aa body p)=true) (Y:P.follows .mixedOrders=true) (K:gH n (aj (aa body p)) [] (aj (aa body p)).size J Dt=true)
  (ac:∀k c l f,C k c l->au (ao st.bk) l f->C k c f)
  (aV:∀a,a<(aj (aa body p)).size->eQ (wpOp P (aj (aa body p)) (sem P body Q k)) D n (aj (aa body p)) (J3 (aj (aa body p)) st.sl a) Dt J (MG w0 S ms st.wn st.sz) (ao st.bk) (PvG vs C) a)
  (h0:ms[0]?=some st.bk) (L:ms[J]?=some Ex) (aR:st.wn=[]) (W:h<(aj (aa body p)).size) (X:i<(aj (aa body p)).size) (T:bV (aj (aa body p)) h=some m) (U:bV (aj (aa body p)) i=some o) (an:d8 vs h=none) (aq:d8 vs i=none)
  (Z:j1 (slG (aj (aa body p)) vs (XB (aj (aa body p)) st.sl) (List.range (aj (aa body p)).size)) E=V9)
  (M:∀c j d,C h c d->C i j d->st.sz<=d.z->ab w0 S Ex [] d.z d->aF D P body n d (ao Ex) Q k ⟨(m,c)::(o,j)::V9,Ex,[],d.z⟩):aF D P body n w0 S Q (.code p::k) st:=by
 intro R l v e;obtain⟨a3,t⟩:=iU t;subst Z;simp only[sem];rw[t];refine wp_region_any Y ?_;rw[gj];have r:∀a,(Array.replicate (aj (aa body p)).size false).getD a false=false:=λa=>by
  simp only[Array.getD];split
  ·simp
  ·rfl
 refine Iv K (λk c l f w q=>?_) aV ?_ _ _ 0 R _ z1 ⟨v.size,v.df,λH c N _=>v.val H c N,λk q=>(by rw[r]at q; cases q),z1,λa a0 b=>(by rw[r]at b; cases b),λa a1 _=>(by rw[r]; exact⟨λz=>(by cases z),λz=>yq⟩),Nat.zero_le _,st.bk,h0,bC e.size.symm,rfl,e.zq,e.own,e.nd,e.x2.drew,e.Ww⟩
 ·unfold PvG at *;split at w
  ·exact w
  ·exact ac _ _ _ _ w q
 ·intro I f g V y;obtain⟨a2,B,O,g⟩:=g;rw[L]at B;cases B;have s:=fC V _ y;obtain⟨c,ak,G⟩:=y h (bn.2 W) m T;obtain⟨j,ad,F⟩:=y i (bn.2 X) o U;simp only[PvG,an]at G;simp only[PvG,aq]at F;rw[aR]at g;refine M c j f G F O g I f ⟨s.size,s.df,λa A b=>?_⟩ g.again;simp only[gh]at b;split at b
  ·rename_i u;have x:m=a:=bH u;subst x;simp only[aB]at b;subst b;exact ak
  ·split at b
   ·rename_i u;have x:o=a:=bH u;subst x;simp only[aB]at b;subst b;exact ad
   ·exact s.val a A (dU E a A b)
end
theorem fk{w:World}{v8 g:Nat}{e:TypeId}{z n:Nat}{cs:av}(c:v8<=g)(b:A2 w g e cs)(a:cs.length=n*z)(d:n<=100000):ah w v8 e z (some ⟨g,0,none⟩) n n cs:=
 jn (r:=[]) c (by rw[dD]; exact b) (bT _) (by simp only[maxLen]; omega) a (by rw[dD]; exact a)
variable {ops:Array Oper}{n J i:Nat}{Dt:List (bi)}{D:List Deferred}{b:bu}{ls:cj}{P:Program}{w0:World}{S:br}
theorem jx:∀(ls:cj)(i:Nat),i∈Region.ready .any ops ls↔ls.getD i true=false∧i<ops.size∧∀f∈aM ops i,ls.getD f false=true:=by
 intro ls i;rw[mem_ready];constructor
 ·rintro⟨c,k,h,a⟩;refine⟨c,(dp.1 h).1,λf g=>?_⟩;simp only[aM,h,aT,dR]at g;obtain⟨b,⟨e,d⟩,rfl⟩:=g;exact a b (by simpa using e) d
 ·rintro⟨c,a,j⟩;refine⟨c,ops[i],fi a,λb e d=>j _ ?_⟩;simp only[aM,fi a,aT,dR];exact⟨b,⟨by simpa using e,d⟩,rfl⟩
theorem xO(e:gH n ops [] ops.size J Dt=true):∀(ls:cj),ls.size=ops.size->Region.ready .any ops ls=[]->∀i,i<ops.size->ls.getD i false=true:=by
 simp only[gH,ch]at e;obtain⟨⟨⟨⟨⟨⟨p,g⟩,_⟩,r⟩,d⟩,h⟩,q⟩:=e;rw[bE]at g d h;have f:∀i,i<ops.size->∀a∈aM ops i,a<i:=λi b a c=>by
  have:=bE.1 (d i (bn.2 b)) a c;simpa[Nat.blt_eq]using this
 intro ls o k i
 induction i using Nat.strongRecOn with
 |_ i m=>
  intro b
  cases l:ls.getD i false with
  |true=>rfl
  |false=>
   have j:ls.getD i true=false:=by simpa[Array.getD,o,b]using l
   have:i∈Region.ready .any ops ls:=(jx ls i).2 ⟨j,b,λa c=>m a (f i b a c) (Nat.lt_trans (f i b a c) b)⟩;rw[k]at this;cases this
theorem Nu{V:Nat->(Act->aI)->Act->aI}{M:Nat->aI}{T:br}{Pv:Nat->Value->aI}(ac:gH n ops [] ops.size J Dt=true)(bt:∀c u w q,Pv c u w->au T w q->Pv c u q)(b6:eQ V D n ops (J3 ops b i) Dt J M T Pv i){j:Nat}{a:Act}{w:World}{K:Act->aI}(d:KZ D n ops b Dt J M Pv ls j a w)(a5:i∈Region.ready .any ops ls)(a4:∀a9 W q,KZ D n ops b Dt J M Pv (ls.setIfInBounds i true) a9 W q->K W q):V i K a w:=by
 simp only[gH,ch]at ac;obtain⟨⟨⟨⟨⟨⟨a0,X⟩,_⟩,a2⟩,a1⟩,L⟩,b9⟩:=ac;rw[bE]at X a1 L;obtain⟨a3,s,U⟩:=(jx ls i).1 a5;obtain⟨_,ak⟩:=eE a3;have R:ops[i]?=some ops[i]:=fi s;have b7:∀g,bV ops i=some g->g<n:=λg f=>by
  have bd:ops[i].dst=some g:=by simpa[bV,R]using f
  have b4:g∈ops.toList.filterMap (·.dst):=List.mem_filterMap.2 ⟨ops[i],z1,bd⟩;have v:=X g b4;simp only[ch]at v;simpa[Nat.blt_eq]using v.1
 have bg:dy D n (J3 ops b i) a:=by
  refine⟨d.J2,d.XA,λz u O=>?_⟩;obtain⟨p,N⟩:=fN (λ_ _ _=>rfl) b O;refine d.v8 z u p (λc t f=>?_);have k:c<ops.size:=by
   unfold bV at f;rcases Nat.lt_or_ge c ops.size with l|l
   ·exact l
   ·rw[Array.getElem?_eq_none l]at f;cases f
  have v:=bE.1 N c (bn.2 k);rw[f]at v;simp only[eqO,Nat.beq_refl,Bool.not_true,Bool.false_or,dN]at v;obtain⟨y,C,b1⟩:=v;have b2:=bH b1;subst b2;have Y:=d.closed c t i C;simp only[Array.getD,d.size,s,dif_pos]at Y;have h:=(dp.1 ak).2;exact absurd (h.symm.trans Y) (by decide)
 have aV:¬ls.getD i false=true:=by
  simp only[Array.getD,d.size,s,dif_pos];have:=(dp.1 ak).2;simpa using this
 have H:∀e,cM Dt i=some e->j=e∧e<J:=by
  intro e B;have h:=L i (bn.2 s);rw[B]at h;simp only[ch,ej,dN,bE]at h;obtain⟨⟨bb,P⟩,_⟩:=h;have bs:e<J:=by simpa[Nat.blt_eq]using bb
  have cb:¬e<j:=by
   rw[<-d.MN i e B];exact aV
  have cf:e<=j:=by
   rcases P with P|⟨c,k,E⟩
   ·have:=bH P;omega
   ·unfold eqO at E;split at E
    ·rename_i x a7;have r:=bH E;subst r;have:=(d.MN c _ a7).1 (U c k);omega
    ·cases E
  exact⟨yq,bs⟩
 have b3:∀c e,cM Dt c=some e->i∈aM ops c->j<=e:=λc e o m=>by
  rcases Nat.lt_or_ge e j with p|p
  ·exact absurd (d.closed c ((d.MN c e o).2 p) i m) aV
  ·exact p
 refine b6 j a w _ d.le H b3 bg (λc k g f=>d.Wy c g (U c k) f) d.mem (λu q a8 k a6=>a4 (f4 Dt i j) _ q ?_);have b5:∀c,c≠i->(ls.setIfInBounds i true).getD c false=true->ls.getD c false=true:=λc k I=>by rwa [getD_set_ne false (Ne.symm k)]at I
 have S:∀c,ls.getD c false=true->(ls.setIfInBounds i true).getD c false=true:=λc I=>getD_set_true I;have b8:(ls.setIfInBounds i true).getD i false=true:=by simp[Array.getD,d.size,s]
 refine⟨?_,?_,λz A O an=>?_,λc t y C=>?_,by simp[d.size],λc g t f=>?_,λc e o=>?_,?_,a6⟩
 ·cases bV ops i<;>simp[Act.put,d.J2]
 ·cases bV ops i<;>simp[Act.put,d.XA]
 ·have p:=d.v8 z A O (λc k=>an c (S c k));have N:=an i b8
  cases Q:bV ops i with
  |none=>exact p
  |some r=>
   have F:r≠z:=by
    rintro rfl;exact N Q
   simp only[Act.put];rw[gX F];exact p
 ·by_cases ad:c=i
  ·subst ad;exact S y (U y C)
  ·exact S y (d.closed c (b5 c ad t) y C)
 ·by_cases m:c=i
  ·subst m;refine⟨u,?_,a8⟩;rw[f];have B:=d.J2;have bl:=b7 g f;simp[Act.put,B,bl]
  ·have bk:ls.getD c false=true:=by rwa [getD_set_ne false (Ne.symm m)]at t
   obtain⟨A,aq,b0⟩:=d.Wy c g bk f;refine⟨A,?_,bt c A w q b0 k⟩
   cases Q:bV ops i with
   |none=>exact aq
   |some r=>
    have F:r≠g:=by
     rintro rfl;have aR:c<ops.size:=by
      unfold bV at f;rcases Nat.lt_or_ge c ops.size with l|l
      ·exact l
      ·rw[Array.getElem?_eq_none l]at f;cases f
     have h:ops[c].dst=some r:=by simpa[bV,fi aR]using f
     have Z:ops[i].dst=some r:=by simpa[bV,R]using Q
     exact m (iV a0 (by simp[fi aR]) (by simp[R]) h Z)
    simp only[Act.put];rw[gX F];exact aq
 ·unfold f4;by_cases m:i=c
  ·subst m;rw[o];have:=H e o;simp only[Array.getD,Array.size_setIfInBounds,d.size,s,dif_pos];simp;omega
  ·rw[getD_set_ne false m,d.MN c e o]
   cases G:cM Dt i with
   |none=>exact Iff.rfl
   |some x=>
    have Z:=H x G;have F:e≠x:=by
     rintro rfl;have h:=L i (bn.2 s);rw[G]at h;simp only[ch,bE]at h;have t:c<ops.size:=by
      have ca:=bH a2;rcases Nat.lt_or_ge c ops.size with l|l
      ·exact l
      ·unfold cM at o;rw[List.getElem?_eq_none yq]at o;cases o
     have:=h.2 c (bn.2 t);simp only[eqO,o,Nat.beq_refl,Bool.not_true]at this;exact m (bH (by simpa using this)).symm
    show e<j↔e<j+1
    omega
 ·unfold f4
  cases G:cM Dt i with
  |none=>exact d.le
  |some x=>
   have:=H x G;show j+1<=J;omega
def uW(ops:Array Oper)(h:Nat):Nat->Nat->Bool
 |0,_=>false
 |b+1,i=>(aM ops i).any λa=>Nat.beq a h||uW ops h b a
def Iu(ops:Array Oper)(a:aH)(e:Nat):Bool:=(List.range ops.size).all λi=>(e::a).any (Nat.beq i)||a.all λb=>uW ops b ops.size i
theorem uX{ops:Array Oper}{ls:cj}{h:Nat}(g:∀a,ls.getD a false=true->∀i∈aM ops a,ls.getD i false=true):∀(c i:Nat),(∀a∈aM ops i,ls.getD a false=true)->uW ops h c i=true->ls.getD h false=true
 |0,_,_,b=>by simp[uW]at b
 |c+1,i,f,b=>by
  simp only[uW,dN,ej]at b
  obtain⟨a,e,d|d⟩:=b
  ·rw[<-bH d]
   exact f a e
  ·exact uX g c a (g a (f a e)) d
theorem RD{p:Nat->(Act->aI)->Act->aI}{M:Nat->aI}{T:br}{Pv:Nat->Value->aI}{Q:Act->aI}(H:aH)(e:Nat)(v:gH n ops [] ops.size J Dt=true)(O:∀d t c o,Pv d t c->au T c o->Pv d t o)(R:∀i∈e::H,eQ p D n ops (J3 ops b i) Dt J M T Pv i)(L:Iu ops H e=true)(z:∀a∈H,a<ops.size)(u:∀g ls h f c,ls.toList.count false=g->(∀a∈H,ls.getD a false=true)->(∀d,ls.getD d false=true->d∈e::H)->KZ D n ops b Dt J M Pv ls h f c->Fo p ops Q g ls f c) :
  ∀(g:Nat)(ls:cj)(h:Nat)(f:Act)(c:World),ls.toList.count false=g->(∀d,ls.getD d false=true->d∈e::H)->KZ D n ops b Dt J M Pv ls h f c->Fo p ops Q g ls f c:=by
 intro g
 induction g with
 |zero=>
  intro ls h f c s m j;refine u 0 ls h f c s (λa l=>?_) m j
  cases E:ls.getD a false with
  |true=>rfl
  |false=>
   have q:ls.getD a true=false:=by simpa[Array.getD,j.size,z a l]using E
   have k:=eE q;have:=jy k.2;omega
 |succ g G=>
  intro ls h f c s m j;by_cases r:∀a∈H,ls.getD a false=true
  ·exact u _ ls h f c s r m j
  ·refine⟨λC=>absurd (λa l=>xO v ls j.size C a (z a l)) r,λi w=>?_⟩;obtain⟨q,N,S⟩:=(jx ls i).1 w;have x:i∈e::H:=by
    have k:=bE.1 L i (bn.2 N);simp only[ej,dN,bE]at k;rcases k with⟨U,F,P⟩|k
    ·rw[bH P];exact F
    ·exact absurd (λa l=>uX j.closed _ i S (k a l)) r
   have V:=jy (eE q).2;refine Nu v O (R i x) j w (λI A o K=>G _ I A o yq (λd B=>?_) K);by_cases y:d=i
   ·subst y;exact x
   ·exact m d (by rwa [getD_set_ne false (Ne.symm y)]at B)
theorem Fp{p:br}{L:List jU}(e:aH)(h:∀b∈L,p b.i)(l:aH)(n:J4 (l.map p))(j:e.all (λi=>L.any (λb=>Nat.beq b.i i)||l.any (Nat.beq i))=true):∀i∈e,p i:=by
 intro i a;have f:=bE.1 j i a;simp only[ej,dN]at f;rcases f with⟨b,k,c⟩|⟨g,m,c⟩
 ·rw[<-bH c];exact h b k
 ·rw[bH c];have:∀(l:aH),J4 (l.map p)->∀i∈l,p i:=by
   intro l
   induction l with
   |nil=>intro _ i a; cases a
   |cons q l o=>
    intro d i a;rcases bj.1 a with rfl|a
    ·exact d.1
    ·exact o d.2 i a
  exact this l n g m
theorem S8{f:cj}{N:Nat}{a:aH}(p:ls.size=N)(m:(List.range N).map (λi=>a.any (Nat.beq i))=f.toList)(h:∀g∈a,ls.getD g false=true)(j:∀c,ls.getD c false=true->c∈a):ls=f:=by
 apply Array.toList_inj.1;rw[<-m];apply List.ext_getElem (by simp[p]);intro i l _;have o:i<ls.size:=by simpa using l
 rw[List.getElem_map,List.getElem_range];have b:ls.getD i false=ls[i]:=by simp[Array.getD,o]
 cases d:a.any (Nat.beq i)with
 |true=>
  obtain⟨s,n,q⟩:=dN.1 d;have r:=bH q;subst r;have:=h i n;rw[b]at this;simpa using this
 |false=>
  cases e:ls[i]with
  |false=>simpa using e
  |true=>
   have k:=j i (b.trans e);have:a.any (Nat.beq i)=true:=dN.2 ⟨i,k,z1⟩;rw[d]at this;cases this
theorem Fq{body:Code}{Q:Exit->Act->aI}{p:aH}{k:List KI}{st:St}{vs:List (Option Value)}(C:Nat->Value->aI)(H:aH)(e:Nat)(t ac:aH){YD YE:bu}(m o:Nat)(Xj L:cj)(R U:Nat)(E:jf (aa body p)=true)(bl:P.follows .mixedOrders=true)(B:gH n (aj (aa body p)) [] (aj (aa body p)).size 0 Dt=true)(bs:∀k c v g,C k c v->au (ao st.bk) v g->C k c g)(b8:∀i∈e::H,eQ (wpOp P (aj (aa body p)) (sem P body Q k)) D n (aj (aa body p)) (J3 (aj (aa body p)) st.sl i) Dt 0 (MG w0 S [st.bk] st.wn st.sz) (ao st.bk) (PvG vs C) i)(a6:Iu (aj (aa body p)) H e=true)(bt:H.all (λa=>Nat.blt a (aj (aa body p)).size)=true)(bd:H.any (Nat.beq m)=true)(a7:bV (aj (aa body p)) m=some o)(b1:d8 vs m=none)(bg:(List.range (aj (aa body p)).size).map (λi=>H.any (Nat.beq i))=Xj.toList)(bk:(List.range (aj (aa body p)).size).map (λi=>(e::H).any (Nat.beq i))=L.toList)(a9:Xj.toList.count false=R)(bb:L.toList.count false=U)(b4:j1 (slG (aj (aa body p)) vs (XB (aj (aa body p)) st.sl) H) t=YD)(b5:j1 (slG (aj (aa body p)) vs (XB (aj (aa body p)) st.sl) (e::H)) ac=YE)(l:∀c h,C m c h->st.sz<=h.z->ab w0 S st.bk [] h.z h->aF D P body n h (ao st.bk) Q (.any p R Xj::k) ⟨(o,c)::YD,st.bk,[],h.z⟩∧aF D P body n h (ao st.bk) Q (.any p U L::k) ⟨(o,c)::YE,st.bk,[],h.z⟩):aF D P body n w0 S Q (.code p::k) st:=by
 intro an v F s;obtain⟨cf,E⟩:=iU E;subst b4 b5;simp only[sem];rw[E];refine wp_region_any bl ?_;rw[gj];have x:∀i,(Array.replicate (aj (aa body p)).size false).getD i false=false:=λi=>by
  simp only[Array.getD];split
  ·simp
  ·rfl
 have b6:∀a∈H,a<(aj (aa body p)).size:=λa l=>by simpa[Nat.blt_eq]using bE.1 bt a l
 refine RD (M:=MG w0 S [st.bk] st.wn st.sz) (T:=ao st.bk) (Pv:=PvG vs C) H e B (λk c v g I b=>?_) b8 a6 b6 ?_ _ _ 0 an _ z1 (λk b=>by rw[x]at b; cases b) ⟨F.size,F.df,λz c G _=>F.val z c G,λk b=>(by rw[x]at b; cases b),z1,λi N j=>(by rw[x]at j; cases j),λi ca _=>(by rw[x]; exact⟨λa=>(by cases a),λa=>yq⟩),Nat.zero_le _,st.bk,rfl,bC s.size.symm,rfl,s.zq,s.own,s.nd,s.x2.drew,s.Ww⟩
 ·unfold PvG at *;split at I
  ·exact I
  ·exact bs _ _ _ _ I b
 ·intro b9 ls aq w g ad y W d;have a3:aq=0:=by have:=d.le; omega
  subst a3;obtain⟨cb,a1,a5,f⟩:=d.mem;cases a1;replace f:ab w0 S st.bk [] g.z g:=⟨f.size,f.zq,f.own,f.nd,f.x2,λaR J=>by cases J⟩;have b3:m∈H:=by
   obtain⟨aR,J,b2⟩:=dN.1 bd;rw[bH b2];exact J
  obtain⟨c,b0,Y⟩:=d.Wy m o (y m b3) a7;simp only[PvG,b1]at Y;have b7:dy D n (XB (aj (aa body p)) st.sl) w:=by
   refine⟨d.J2,d.XA,λz c G=>?_⟩;obtain⟨B,q⟩:=fN (λ_ _ _=>rfl) st.sl G;refine d.v8 z c B (λk _ r=>?_);simp only[bE,Bool.not_eq_true']at q;have b:k<(aj (aa body p)).size:=by
    unfold bV at r;rcases Nat.lt_or_ge k (aj (aa body p)).size with A|A
    ·exact A
    ·rw[Array.getElem?_eq_none A]at r;cases r
   have V:=q k (bn.2 b);rw[r]at V;simp[eqO]at V
  have ak:∀(u:aH)(t:aH),(∀a∈u,ls.getD a false=true)->dy D n ((o,c)::j1 (slG (aj (aa body p)) vs (XB (aj (aa body p)) st.sl) u) t) w:=λu t a4=>by
   have q:=fC b7 u (λk b N r=>d.Wy k N (a4 k b) r);refine⟨q.size,q.df,λi O j=>?_⟩;simp only[gh]at j;split at j
   ·rename_i a2;have a8:o=i:=bH a2;subst a8;simp only[aB]at j;subst j;exact b0
   ·exact q.val i O (dU t i O j)
  obtain⟨aV,a0⟩:=l c g Y a5 f
  cases Z:ls.getD e false with
  |true=>
   have X:∀a∈e::H,ls.getD a false=true:=λa l=>by
    rcases bj.1 l with rfl|l
    ·exact Z
    ·exact y a l
   have K:=S8 d.size bk X W;subst K;rw[<-ad,bb]at *;have:=a0 w g (ak _ ac X) f.again;simp only[sem]at this;rwa [gj]at this
  |false=>
   have K:=S8 d.size bg y (λk b=>by
    rcases bj.1 (W k b)with rfl|a
    ·rw[Z]at b;cases b
    ·exact a)
   subst K;rw[<-ad,a9]at *;have:=aV w g (ak _ t y) f.again;simp only[sem]at this;rwa [gj]at this
theorem K0{t:Exit->Act->aI}{vs:List (Option Value)}{C:Nat->Value->aI}{ms:List (ax)}{wn:List Wn}{E:Nat}{q:ax}(k s:Nat)(G:cM Dt k=some s)(F:i∈aM ops k)(K:oJ ms=List.replicate (J+1) (q.map λl=>(l.g,l.rw))){h:OH}{ob:List Prop}{rs:List (Nat×Nat×Nat)}{v:Value}(hs:cM Dt i=none)(o:d8 vs i=some v)(he:∀p,(List.range (s+1)).map (mG P ops b vs ms wn p i h)=(List.range (s+1)).map (qO vs ms p i ob rs))(A:J4 ob):eQ (wpOp P ops t) D n ops b Dt J (MG w0 S ms wn E) (ao q) (PvG vs C) i:=by
 intro j M d L N _ I x y z u;have O:=I k s G F;obtain⟨a,f,B,m⟩:=z;have e:=congrArg (λr=>r[j]?) (he d.z);simp only[ew,ek (show j<s+1 by omega),Option.map_some,aB,mG,qO,f]at e;rw[o]at e;have w:=j3 (nJ K f);refine iK (w0:=d) (S:=ao a) e A (dX _) (fC x _ y) m.again (λg c=>?_);have H:ab d (ao a) a wn g.z g:=by rw[c.size]; exact c
 refine u v g (by simp only[PvG,o]) (w▸c.x2) ⟨a,?_,az B c.x2.size,m.W4 H rfl⟩;unfold f4;rw[hs];exact f
theorem Nv{body:Code}{Q:Exit->Act->aI}{p:aH}{f0:Nat}{ls':cj}{k:List KI}{st:St}{dst:bi}{x:Sem Value}{w:World}{S':br}{Y:Type}(v:Y->Value)(Ex:ax)(X:Y->aI)(o:Y->bu)(A:ls.setIfInBounds i true=ls')(b:eZ (aj (aa body p)) st.sl i=some dst)(f:ex (aj (aa body p)) st.sl i=some (Wx x))(C:∀a,gw n st.sl dst (v a)=some (o a))(E:∀e,ab w0 S st.bk st.wn st.sz e->∃a c,x.run P e=.ok (v a) c∧X a c∧ab w S' Ex [] c.z c)(y:∀a d,X a d->ab w S' Ex [] d.z d->aF D P body n d (ao Ex) Q (.any p f0 ls'::k) ⟨o a,Ex,[],d.z⟩):K1 D P body n w0 S Q p f0 k ls st i:=by
 intro g e l B;subst A;unfold eZ at b;unfold ex at f;split at b
 ·rename_i h m;simp only[m,aB]at f;split at b
  ·rename_i u;split at b
   ·rename_i z;simp only[aB]at b;have F:Region.wanted h (yielded (aj (aa body p)) g.tmps)=true:=by simp[Region.wanted,u]
    simp only[wpOp,m,aA F];refine .inl ?_;obtain⟨a,c,q,r,j⟩:=E e B;have s:(execOp g.eval h).run P e=.ok (.value (v a)) c:=by
     rw[l.RS z,f];simp only[Wx,Sem.run_bind,q,dS,Sem.run_pure]
    simp only[Oper.wp,s,Oper.upon_value];rw[b];have t:=y a c r j _ _ (l.put (C a)) j.again;simpa only[sem]using t
   ·cases b
  ·cases b
 ·cases b
def ba(L:ct):av:=L.map λa=>sT a
variable {w:World}{g i:Nat}
theorem va{α:Type}{f:α->Value}{L:List α}{s:α}(d:∀(a:Nat)(b:Value),(L.map f)[a]?=some b->w.cell? ⟨g,0+a,none⟩=some b)(hs:L[i]?=some s) :
  ∀(a:Nat)(b:Value),[f s][a]?=some b->w.cell? ⟨g,0+i*1+a,none⟩=some b:=by
 intro a b c
 match a,c with
 |0,c=>
  simp only[List.getElem?_cons_zero,aB]at c;subst c;rw[Nat.mul_one,Nat.add_zero];exact d i _ (by simp[hs])
 |a+1,c=>simp at c
theorem ju{L:ct}{s:ByteArray}(b:∀(a:Nat)(v:Value),(ba L)[a]?=some v->w.cell? ⟨g,0+a,none⟩=some v)(hs:L[i]?=some s) :
  ∀(a:Nat)(v:Value),[Value.string s][a]?=some v->w.cell? ⟨g,0+i*1+a,none⟩=some v:=va (f:=λs=>Value.string s) b hs
theorem dl{a:World}{o:Nat}{v:Value}(c:au z8 w a)(b:g<w.z)(h:w.cell? ⟨g,o,none⟩=some v):a.cell? ⟨g,o,none⟩=some v:=by
 have:=c.block g b (λh=>h);simp only[World.cell?,this]at *;exact h
theorem xT{α:Type}{l:List α}{k:Nat}{b:α}(h:l[k]?=some b):l.set k b=l:=by
 apply List.ext_getElem?;intro i;by_cases a:i=k
 ·subst a;rw[List.getElem?_set_self (cF.1 h).1,h]
 ·rw[List.getElem?_set_ne (Ne.symm a)]
section
variable {α:Type}{f:α->av}{z:Nat}
def ai(f:α->av)(l:List α):av:=(l.map f).flatten
theorem iM(b:∀a,(f a).length=z)(l:List α):(ai f l).length=l.length*z:=by
 induction l with
 |nil=>simp[ai]
 |cons a l c=>
  show(f a++ai f l).length=_
  rw[bM,c,b,List.length_cons,Nat.succ_mul,Nat.add_comm]
theorem ff(a:∀x,(f x).length=z){l:List α}{i j:Nat}{x:α}(h:l[i]?=some x)(c:j<z):(ai f l)[i*z+j]?=(f x)[j]?:=by
 induction l generalizing i with
 |nil=>simp at h
 |cons b l d=>
  show(f b++ai f l)[i*z+j]?=_
  cases i with
  |zero=>
   simp only[List.getElem?_cons_zero,aB]at h;subst h;rw[Nat.zero_mul,bG,ip (by rw[a]; exact c)]
  |succ i=>
   rw[jY (by rw[a,Nat.succ_mul]; omega),a,show(i+1)*z+j-z=i*z+j by rw[Nat.succ_mul]; omega];exact d (by simpa using h)
theorem eU(l:List α)(x:α):ai f l++f x=ai f (l++[x]):=by simp[ai]
theorem gF(b:∀a,(f a).length=z){l:List α}{i:Nat}{y:α}(h:i<l.length):(ai f l).take (i*z)++f y++(ai f l).drop (i*z+z)=ai f (l.set i y):=by
 induction l generalizing i with
 |nil=>simp at h
 |cons a l g=>
  show(f a++ai f l).take (i*z)++f y++(f a++ai f l).drop (i*z+z)=_
  cases i with
  |zero=>
   rw[Nat.zero_mul,bG,List.take_zero,List.nil_append,List.drop_left' (b a)];rfl
  |succ i=>
   have e:(i+1)*z=z+i*z:=by rw[Nat.succ_mul,Nat.add_comm]
   have c:(f a++ai f l).take (z+i*z)=f a++(ai f l).take (i*z):=by rw[<-b a,List.take_length_add_append]
   have d:(f a++ai f l).drop (z+(i*z+z))=(ai f l).drop (i*z+z):=by rw[<-b a,List.drop_length_add_append]
   rw[e,Nat.add_assoc,c,d,eA,eA];show f a++_=f a++ai f (l.set i y);rw[<-g (by simpa using h),eA]
theorem xe{l:av}{k:Nat}{v:Value}(h:k<l.length):l.take k++[v]++l.drop (k+1)=l.set k v:=by
 rw[List.set_eq_take_append_cons_drop,aA h];simp
theorem xU(a:∀x,(f x).length=z){l:List α}{i j:Nat}{x y:α}{v:Value}(h:l[i]?=some x)(k:j<z)(g:(f x).set j v=f y):(ai f l).take (i*z+j)++[v]++(ai f l).drop (i*z+j+1)=ai f (l.set i y):=by
 have b:=(cF.1 h).1;have e:i*z+j<(ai f l).length:=by
  rw[iM a];have:(i+1)*z<=l.length*z:=Nat.mul_le_mul_right z b;rw[Nat.succ_mul]at this;omega
 rw[xe e,<-gF a b];have d:(ai f l)=(ai f l).take (i*z)++f x++(ai f l).drop (i*z+z):=by
  have:=gF a (y:=x) b;rw[this,xT h]
 have c:((ai f l).take (i*z)).length=i*z:=by rw[dZ]; omega
 conv=>lhs; rw[d]
 rw[List.set_append_left _ _ (by rw[bM,c,a]; omega),List.set_append_right _ _ (by rw[c]; omega),c,Nat.add_sub_cancel_left,g]
end
theorem fj{P:Program}{v8:Nat}{t e:TypeId}{z n cp:Nat}{cs:av}{v:Value}(o m:Nat)(h:ah w v8 e z (ae g) n cp cs)(hm:v.cells.size=m)(C:o+m<=n*z)(hs:(P.info? t).map (·.size)=some m)(l:∀i∈v.cells.toList,i.oneCell'=true) :
  ∃b,(Instr.storeAt t (pt g o) v).run P w=.ok () b∧ah b v8 e z (ae g) n cp (cs.take o++v.cells.toList++cs.drop (o+m))∧au (dg (ae g)) w b∧b.z=w.z:=by
 have B:=h.len;rcases h.zq with⟨c,_⟩|⟨u,a,c,p,d,r,q,D⟩
 ·cases c
 ·cases c
  have f:=jB (P:=P) w t g o e (cs++a) v (by rw[hm]; exact hs) d (by rw[hm,bM]; omega) l;have j:(cs++a).take o++v.cells.toList++(cs++a).drop (o+v.cells.size)=(cs.take o++v.cells.toList++cs.drop (o+m))++a:=by
   rw[hm,List.take_append_of_le_length yq,List.drop_append_of_le_length yq,eA _ _ a]
  rw[j]at f;have k:(cs.take o++v.cells.toList++cs.drop (o+m)).length=n*z:=by
   have x:v.cells.toList.length=m:=hm;simp only[bM,dZ,List.length_drop];omega
  exact⟨_,f,jn p (gZ d _) r q k (by have y:=@bM _ (List.take o cs++v.cells.toList++List.drop (o+m) cs) a; have A:=@bM _ cs a; omega),(f9 w g _).mono (λs _ h=>⟨_,rfl,h⟩),by simp[World.setRow,World.z]⟩
theorem dj{α:Type}{f:α->av}{v8:Nat}{e:TypeId}{z n cp:Nat}{l:List α}(c:∀x,(f x).length=z)(h:ah w v8 e z (ae g) n cp (ai f l)){x:α}(o:l[i]?=some x):∀(a:Nat)(b:Value),(f x)[a]?=some b->w.cell? ⟨g,0+i*z+a,none⟩=some b:=by
 intro a b d;have p:a<z:=by rw[<-c x]; exact(cF.1 d).1
 have j:=ff c o p;obtain⟨q,k,_,_,m⟩:=h.cell (j.trans d);cases k;rw[bG];exact m
structure cQ where
 (ep hd un ou:Int)
def cQ.cells(l:cQ):av:=[.int .i64 l.ep,.int .i64 l.hd,.int .i64 l.un,.int .i64 l.ou]
theorem pS(l:cQ):l.cells.length=4:=rfl
def bo(n:Int):av:=[i6 n]
def fQ(a b:bB):bB:=List.zipWith jo a b
def kt(j:Nat)(a b:bB):bB:=(fQ a b).take j++a.drop j
def eF(l:bB)(L:ct):bB:=L.foldl (λl a=>fQ l (aK a)) l
def iE(a b:ByteArray):ByteArray:=bX (fQ (aK a) (aK b))
theorem S6{a b:Int}(c:0<=a∧a<=255)(d:0<=b∧b<=255):0<=jo a b∧jo a b<=255:=by
 have:=E7 (a:=a) (b:=b) 8 yq yq;omega
variable {a b:bB}{n j:Nat}
theorem iZ(h:a.length=b.length):(fQ a b).length=a.length:=by simp[fQ,h]
theorem kL(i:u4 a)(j:u4 b):u4 (fQ a b):=λn f=>by
 obtain⟨c,d,e,rfl⟩:∃c d,(c,d)∈a.zip b∧jo c d=n:=by
  rw[fQ,<-List.map_uncurry_zip_eq_zipWith,aT]at f;obtain⟨⟨c,d⟩,g,h⟩:=f;exact⟨c,d,g,h⟩
 exact S6 (i c (List.of_mem_zip e).1) (j d (List.of_mem_zip e).2)
theorem yj(a b:bB):kt 0 a b=a:=by simp[kt]
theorem EB(c:a.length=n)(d:b.length=n):kt n a b=fQ a b:=by
 have:=iZ (c.trans d.symm);rw[kt,eX yq,List.drop_of_length_le yq,dD]
theorem EC(c:a.length=n)(d:b.length=n)(e:j<=n):(kt j a b).length=n:=by
 have:=iZ (c.trans d.symm);simp only[kt,bM,dZ,List.length_drop];omega
theorem Q9(d:a.length=n)(e:b.length=n)(f:j<n):(kt j a b)[j]?=some (a[j]?.getD 0):=by
 have:=iZ (d.trans e.symm);have c:((fQ a b).take j).length=j:=by rw[dZ];omega
 rw[kt,jY yq,c,Nat.sub_self,List.getElem?_drop,Nat.add_zero,cx yq,Option.getD_some]
theorem ED(e:a.length=n)(f:b.length=n)(h:j<n):(kt j a b).set j (jo (a[j]?.getD 0) (b[j]?.getD 0))=kt (j+1) a b:=by
 have g:=iZ (e.trans f.symm);have c:((fQ a b).take j).length=j:=by rw[dZ];omega
 have d:(fQ a b)[j]?=some (jo (a[j]?.getD 0) (b[j]?.getD 0)):=by
  rw[fQ,List.getElem?_zipWith,cx (show j<a.length by omega),cx (show j<b.length by omega)];rfl
 unfold kt;rw[List.set_append_right _ _ yq,c,Nat.sub_self,List.take_add_one,d,List.drop_eq_getElem_cons (show j<a.length by omega),List.set_cons_zero];simp
theorem HP(l:bB)(L:ct){i:Nat}{s:ByteArray}(h:L[i]?=some s):eF l (L.take (i+1))=fQ (eF l (L.take i)) (aK s):=by
 unfold eF;rw[List.take_add_one,h,List.foldl_append];rfl
theorem HQ{l:bB}(h:u4 l)(i:Nat):0<=l[i]?.getD 0∧l[i]?.getD 0<=255:=by
 cases a:l[i]? with
 |none=>simp
 |some b=>exact h b (aS a)
end Go.Proofs.YtcmpkkapkdlfhaaGreat
