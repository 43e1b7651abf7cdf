import Derived.Test.YtpilmccjjbgmiaaPlatM
import Derived.Test.YtpilmccjjbgmiaaEngZ
import Derived.Laws.AppendOwn
import Derived.Lib.AppendStr
import Derived.Maps.AppendAt
import Derived.Laws.BytesArg
namespace Go.Proofs.Ytpilmccjjbgmiaa
open Go.RowKit
def dstAtG (ops:Array Oper) (sl:List (Nat × Value)) (i:Nat):Option (Option Nat × Prop):=
 match ops[i]? with
 | none=>none
 | some o=>match known sl o with
  | false=>none
  | true=>match o.guard with
   | none=>some (o.dst,True)
   | some (j,want)=>match (ops[j]?).bind (·.dst) with
    | none=>none
    | some t=>match getS sl t with
     | some (.bool c)=>some (o.dst,c = want)
     | _=>none
theorem dstAtG_wanted {D:List Deferred} {n:Nat} {ops:Array Oper} {sl:List (Nat × Value)} {i:Nat} {dst:Option Nat} {ob:Prop} {a:Act} (h:dstAtG ops sl i = some (dst,ob)) (ho:ob) (hf:FrOk D n sl a) :
  ∃ o,ops[i]? = some o ∧ known sl o = true ∧ o.dst = dst ∧ Region.wanted o (yielded ops a.tmps) = true:=by
 unfold dstAtG at h
 split at h
 ·cases h
 ·rename_i o hoi
  split at h
  ·cases h
  ·rename_i hk
   split at h
   ·rename_i hg
    simp only [Option.some.injEq,Prod.mk.injEq] at h
    exact ⟨o,hoi,hk,h.1,by simp [Region.wanted,hg]⟩
   ·rename_i j want hg
    split at h
    ·cases h
    ·rename_i t ht
     split at h
     ·rename_i c hcc
      simp only [Option.some.injEq,Prod.mk.injEq] at h
      obtain ⟨e3,e4⟩:=h
      subst e4
      have h1:c = want:=ho
      have hy:yielded ops a.tmps j = some c:=by
       have:=hf.val t _ hcc
       simp [yielded,ht,this]
      exact ⟨o,hoi,hk,e3,by simp [Region.wanted,hg,hy,h1]⟩
     ·cases h
section
variable {D:List Deferred} {P:Program} {body:Code} {n:Nat} {w0:World} {S:Nat → Prop} {Q:Exit → Act → World → Prop}
end
end Go.Proofs.Ytpilmccjjbgmiaa
namespace Go.Proofs.Ytpilmccjjbgmiaa
open Go.RowKit
section
variable {D:List Deferred} {P:Program} {body:Code} {n:Nat} {w0:World} {S:Nat → Prop} {Q:Exit → Act → World → Prop}
theorem edge_callW {p:List Nat} {f0 i:Nat} {k:List KI} {ls ls':Array Bool} {st:St} {f:FuncId} {args:List Value} {dst:Option Nat} {ob:List Prop} {w:World} {S':Nat → Prop} (v:Value) (ks:List Nat) (X:World → Prop) {sl sl':List (Nat × Value)}
  (hl:ls.setIfInBounds i true = ls') (h:callAt P (opsOf (getCode body p)) st.sl i = some (f,args,dst,ob)) (ho:All ob) (hp:putS n st.sl dst v = some sl) (hk:keepS sl ks = sl')
  (hc:∀ wx,MemOk w0 S st.bk st.wn st.sz wx → Calls P f args.toArray wx (fun e w'=>e = .returned v ∧ X w' ∧ MemOk w S' st.bk [] w'.heap.size w'))
  (hh:∀ W,X W → MemOk w S' st.bk [] W.heap.size W → Holds D P body n W (Turned st.bk) Q (.any p f0 ls' :: k) ⟨sl',st.bk,[],W.heap.size⟩):Edge D P body n w0 S Q p f0 k ls st i:=by
 subst hl hk
 intro a w1 hf hm
 refine callAt_wpOp h ho hf ((hc w1 hm).mono fun e w' he=>?_)
 obtain ⟨h2,h3,h4⟩:=he
 refine ⟨v,h2,?_⟩
 have h6:=hf.put hp
 have h7:=hh w' h3 h4 _ _ ⟨h6.size,h6.df,fun i v hi=>h6.val i v (getS_keepS ks i v hi)⟩ h4.again
 simpa only [sem] using h7
end
end Go.Proofs.Ytpilmccjjbgmiaa
namespace Go.Proofs.Ytpilmccjjbgmiaa
open Go.RowKit Go.Lib
def OwnR (w:World) (base:Nat) (e:TypeId) (z:Nat) (A:Option Addr) (n cp:Nat) (cs:List Value):Prop:=w.ownsRow base e z (.slice A n cp) n cs
def ownS (A:Option Addr) (x:Nat):Prop:=∃ a,A = some a ∧ x = a.block
theorem OwnR.kept {w w':World} {base:Nat} {e:TypeId} {z:Nat} {A:Option Addr} {n cp:Nat} {cs:List Value} {T:Nat → Prop} (h:OwnR w base e z A n cp cs) (hk:Kept T w w') (hT:∀ x,ownS A x → ¬ T x):OwnR w' base e z A n cp cs:=by
 refine ⟨h.1,h.2.imp_right ?_⟩
 rintro ⟨g,cap,cur,hv,h1,h2,h3⟩
 have hg:g < w.heap.size:=(Array.getElem?_eq_some_iff.1 h2).1
 simp only [Value.slice.injEq] at hv
 exact ⟨g,cap,cur,by simp [hv],h1,(hk.block g hg (hT g ⟨_,hv.1,rfl⟩)).trans h2,h3⟩
theorem OwnR.own {w:World} {base:Nat} {e:TypeId} {z:Nat} {A:Option Addr} {n cp:Nat} {cs:List Value} (h:OwnR w base e z A n cp cs):∀ x,ownS A x → base ≤ x ∧ x < w.heap.size:=by
 rintro x ⟨a,rfl,rfl⟩
 rcases h.2 with ⟨hv,_⟩ | ⟨g,cap,cur,hv,h1,h2,_⟩
 ·simp at hv
 ·simp only [Value.slice.injEq,Option.some.injEq] at hv
  rw [hv.1]
  exact ⟨h1,(Array.getElem?_eq_some_iff.1 h2).1⟩
theorem OwnR.nil (w:World) (base:Nat) (e:TypeId) (z:Nat):OwnR w base e z none 0 0 []:=World.ownsRow_nil w base e z
theorem OwnR.below {w:World} {base base':Nat} {e:TypeId} {z:Nat} {A:Option Addr} {n cp:Nat} {cs:List Value} (h:OwnR w base e z A n cp cs) (hb:base' ≤ base):OwnR w base' e z A n cp cs:=
 ⟨h.1,h.2.imp_right fun ⟨g,cap,cur,hv,h1,h2⟩=>⟨g,cap,cur,hv,Nat.le_trans hb h1,h2⟩⟩
theorem OwnR.blk {w:World} {base:Nat} {e:TypeId} {z:Nat} {A:Option Addr} {n cp:Nat} {cs:List Value} (h:OwnR w base e z A n cp cs) :
  (A = none ∧ n = 0 ∧ cp = 0 ∧ cs = []) ∨ ∃ g r,A = some ⟨g,0,none⟩ ∧ base ≤ g ∧ Blk w g e (cs ++ r) ∧ n ≤ cp ∧ cp ≤ maxLen ∧ (cs ++ r).length = cp * z:=by
 have hl:=h.1
 rcases h.2 with ⟨hv,hn⟩ | ⟨g,cap,cur,hv,h1,h2,h3,h4,h5,h6⟩
 ·simp only [Value.slice.injEq] at hv
  obtain ⟨rfl,_,rfl⟩:=hv
  subst hn
  exact .inl ⟨rfl,rfl,rfl,List.eq_nil_of_length_eq_zero (by simpa using hl)⟩
 ·simp only [Value.slice.injEq] at hv
  obtain ⟨rfl,_,rfl⟩:=hv
  have e1:cs ++ cur.toList.drop (n * z) = cur.toList:=by rw [← h6,List.take_append_drop]
  refine .inr ⟨g,cur.toList.drop (n * z),rfl,h1,?_,h3,h4,by rw [e1]; simpa using h5⟩
  unfold Blk
  rw [e1,h2]
theorem kept_grownS {w w':World} {v:Value} (h:w.grownBy w' v.ownBlock) {A:Option Addr} {n cp:Nat} (hv:v = .slice A n cp):Kept (ownS A) w w':=by
 subst hv
 refine ⟨h.os,h.tape,h.output,h.size,fun k hk hn=>h.block k hk (fun e=>?_)⟩
 cases A with
 | none=>simp [Value.ownBlock] at e
 | some a=>simp only [Value.ownBlock,Option.some.injEq] at e; exact hn ⟨a,rfl,e⟩
theorem ones_all {l:List Value} (h:l.all Value.oneCell' = true):∀ u ∈ l,u.oneCell' = true:=List.all_eq_true.1 h
theorem MemOk.offA {w wx w':World} {S S' T:Nat → Prop} {bk:List Bk} {wn:List Wn} {sz:Nat} (hm:MemOk w S bk wn sz wx) (hS:∀ x,S x → S' x) (hk:Kept T wx w') (hT:∀ x,T x → S' x ∨ w.heap.size ≤ x) (hb:∀ b ∈ bk,¬ T b.g):MemOk w S' bk [] w'.heap.size w':=
 ⟨rfl,fun b h=>(hm.blk b h).kept hk (hb b h),fun b h hr=>(hm.own b h hr).imp_left (hS _),hm.nd,(hm.kept.mono (fun k _ h=>hS k h)).trans hk (fun k hk' h=>(hT k h).resolve_right (by omega)),fun x hx=>by cases hx⟩
section
variable {P:Program}
theorem run_appendR (w:World) (base:Nat) (t ty e:TypeId) (zv:Value) (z by_:Nat) (A:Option Addr) (n cp:Nat) (cs:List Value) (a:Addr) (m c:Nat) (xs:List Value) (ht:P.underlying t = some (.slice e)) (hi:(P.info? e).map (fun i=>(i.zero,i.size,i.bytes)) = some (some zv,z,by_))
  (hzz:zv.cells.size = z) (hz0:0 < z) (h:OwnR w base e z A n cp cs) (hl:xs.length = m * z) (hc:∀ j x,xs[j]? = some x → w.cell? (a.add j) = some x) (ho:∀ u ∈ xs,u.oneCell' = true) (hn:n + m ≤ 100000) (hby:by_ ≤ 1000) (hb:base ≤ w.heap.size) :
  ∃ A' cp' w',(Builtin.append_ #[t,t] ty #[.slice A n cp,.slice (some a) m c]).run P w = .ok (.slice A' (n + m) cp') w' ∧ OwnR w' base e z A' (n + m) cp' (cs ++ xs) ∧ Kept (ownS A) w w' ∧ (∀ x,ownS A' x → ownS A x ∨ w.heap.size ≤ x):=by
 obtain ⟨inf,hi1,hi2⟩:=Option.map_eq_some_iff.1 hi
 simp only [Prod.mk.injEq] at hi2
 obtain ⟨hz,hs,hby2⟩:=hi2
 obtain ⟨v',w',h1,h2,h3,h4,h5⟩:=run_append_own_at (P:=P) w base t ty e inf zv z by_ ht hi1 hz hs hby2 hzz hz0 (.slice A n cp) n cs h a m c xs hl hc ho (by simp only [maxLen]; omega)
  (Nat.le_trans (Nat.mul_le_mul hn hby) (by decide)) hb
 have hk:=kept_grownS h3 rfl
 rcases h2.2 with ⟨rfl,hx⟩ | ⟨g',cap',cur,rfl,hr⟩
 ·refine ⟨none,0,w',?_,?_,hk,fun x ⟨a,ha,_⟩=>by cases ha⟩
  ·rw [h1,hx]
  ·unfold OwnR
   rw [hx] at h2 ⊢
   exact h2
 ·refine ⟨some ⟨g',0,none⟩,cap',w',h1,h2,hk,?_⟩
  rintro x ⟨a',ha,rfl⟩
  simp only [Option.some.injEq] at ha
  subst ha
  rcases h5 with h6 | h6
  ·left
   cases A with
   | none=>simp [Value.ownBlock] at h6
   | some a0=>simp only [Value.ownBlock,Option.some.injEq] at h6; exact ⟨a0,rfl,h6⟩
  ·right
   simp only [Value.ownBlock,Option.some.injEq] at h6
   exact Nat.le_of_eq h6.symm
variable {D:List Deferred} {n:Nat} {w0:World} {S:Nat → Prop} {Y:Type} {body:Code} {Q:Exit → Act → World → Prop}
theorem holds_anyV {p:List Nat} {i f0:Nat} {ls ls':Array Bool} {k:List KI} {st:St} {dst:Option Nat} {x:Sem Value} {w:World} {S':Nat → Prop} (v:Y → Value) (bk':List Bk) (X:Y → World → Prop) (sl:Y → List (Nat × Value))
  (hl:ls.setIfInBounds i true = ls') (hr0:Region.ready .any (opsOf (getCode body p)) ls = [i])
  (hd:dstAt (opsOf (getCode body p)) st.sl i = some dst) (hx:semAt (opsOf (getCode body p)) st.sl i = some (asV x)) (hp:∀ c,putS n st.sl dst (v c) = some (sl c))
  (hr:∀ wx,MemOk w0 S st.bk st.wn st.sz wx → ∃ c w',x.run P wx = .ok (v c) w' ∧ X c w' ∧ MemOk w S' bk' [] w'.heap.size w')
  (hh:∀ c W,X c W → MemOk w S' bk' [] W.heap.size W → Holds D P body n W (Turned bk') Q (.any p f0 ls' :: k) ⟨sl c,bk',[],W.heap.size⟩):Holds D P body n w0 S Q (.any p (f0 + 1) ls :: k) st:=by
 intro a wx hf hm
 subst hl
 simp only [sem]
 refine ⟨fun h=>(by rw [hr0] at h; cases h),fun j hj=>?_⟩
 rw [hr0,List.mem_singleton] at hj
 subst hj
 unfold dstAt at hd
 unfold semAt at hx
 split at hd
 ·rename_i o ho
  simp only [ho,Option.some.injEq] at hx
  split at hd
  ·rename_i hg
   split at hd
   ·rename_i hk
    simp only [Option.some.injEq] at hd
    have hw:Region.wanted o (yielded (opsOf (getCode body p)) a.tmps) = true:=by simp [Region.wanted,hg]
    simp only [wpOp,ho,if_pos hw]
    refine .inl ?_
    obtain ⟨c,w',h2,h3,h4⟩:=hr wx hm
    have h5:(execOp a.eval o).run P wx = .ok (.value (v c)) w':=by
     rw [hf.rho hk,hx]
     simp only [asV,Sem.run_bind,h2,Result.andThen_ok,Sem.run_pure]
    simp only [Oper.wp,h5,Oper.upon_value]
    rw [hd]
    have h6:=hh c w' h3 h4 _ _ (hf.put (hp c)) h4.again
    simpa only [sem] using h6
   ·cases hd
  ·cases hd
 ·cases hd
end
end Go.Proofs.Ytpilmccjjbgmiaa
