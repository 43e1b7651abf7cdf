import Derived.Test.YtpilmccjjbgmiaaEngD
import Derived.StillTail
import Derived.Deep.Quiet
namespace Go.Proofs.Ytpilmccjjbgmiaa
open Go.RowKit
section
variable {P:Program} {ops:Array Oper} {md:Region.Mode} {C:World → Prop}
def headB (md:Region.Mode) (ops:Array Oper):Nat → Nat → Array Bool → Option (Array Bool)
 | 0,_,listed=>some listed
 | f + 1,k,listed=>match ((Region.ready md ops listed).contains k && Region.free md ops listed k) with
  | true=>headB md ops f (k + 1) (listed.setIfInBounds k true)
  | false=>none
end
inductive QH where
 | op (h:OH)
 | call (v:Value)
def MemC (w0:World) (S:Nat → Prop) (bk:List Bk) (wn:List Wn) (sz:Nat) (w:World):Prop:=sz ≤ w.heap.size ∧ MemOk w0 S bk wn w.heap.size w
def qExec (P:Program) (n:Nat) (w0:World) (S:Nat → Prop) (o:Oper) (st:St):QH → Option Out
 | .op h=>match known st.sl o with
  | false=>none
  | true=>match h.ov with
   | 0=>match runR P st.wn st.bk (execOp (rho st.sl) o) h.hs with
    | some ⟨.value v,_,_,es⟩=>match putS n st.sl o.dst v with
     | some sl=>some ⟨[],es,{ st with sl:=sl }⟩
     | none=>none
    | _=>none
   | k + 1=>match ov P (rho st.sl) k o.op with
    | some (v,p)=>match putS n st.sl o.dst v with
     | some sl=>some ⟨[p],[],{ st with sl:=sl }⟩
     | none=>none
    | none=>none
 | .call v=>match known st.sl o with
  | false=>none
  | true=>match runP P (execOp (rho st.sl) o) with
   | some (.enter f args)=>match putS n st.sl o.dst v with
    | some sl=>some ⟨[∀ w,MemC w0 S st.bk st.wn st.sz w → Calls P f args w (RetK v w)],[],{ st with sl:=sl }⟩
    | none=>none
   | _=>none
def qList (P:Program) (n:Nat) (w0:World) (S:Nat → Prop):List Oper → St → List QH → Option Out
 | [],st,_=>some ⟨[],[],st⟩
 | _ :: _,_,[]=>none
 | o :: l,st,h :: hs=>match o.guard with
  | some _=>none
  | none=>match qExec P n w0 S o st h with
   | none=>none
   | some r=>match qList P n w0 S l r.st hs with
    | none=>none
    | some r'=>some ⟨r.ob ++ r'.ob,r.eqs ++ r'.eqs,r'.st⟩
section
variable {D:List Deferred} {P:Program} {n:Nat} {w0:World} {S:Nat → Prop} {ops:Array Oper}
theorem qExec_st {o:Oper} {st:St} {h:QH} {r:Out} (he:qExec P n w0 S o st h = some r):r.st.bk = st.bk ∧ r.st.wn = st.wn ∧ r.st.sz = st.sz:=by
 unfold qExec at he
 split at he
 ·split at he
  ·cases he
  ·split at he
   ·split at he
    ·split at he
     ·simp only [Option.some.injEq] at he; subst he; exact ⟨rfl,rfl,rfl⟩
     ·cases he
    ·cases he
   ·split at he
    ·split at he
     ·simp only [Option.some.injEq] at he; subst he; exact ⟨rfl,rfl,rfl⟩
     ·cases he
    ·cases he
 ·split at he
  ·cases he
  ·split at he
   ·split at he
    ·simp only [Option.some.injEq] at he; subst he; exact ⟨rfl,rfl,rfl⟩
    ·cases he
   ·cases he
theorem qExec_sound {o:Oper} {st:St} {h:QH} {r:Out} (he:qExec P n w0 S o st h = some r) (ho:All r.ob) (hg:Good r.eqs) {a:Act} (hf:FrOk D n st.sl a) {K:Act → Prop}
  (hK:∀ a',FrOk D n r.st.sl a' → K a'):o.quiet P a (MemC w0 S st.bk st.wn st.sz) K:=by
 unfold qExec at he
 split at he
 ·rename_i h0
  split at he
  ·cases he
  ·rename_i hk
   have e:=hf.rho hk
   split at he
   ·split at he
    ·rename_i v bk sz es hr
     split at he
     ·rename_i sl hsl
      simp only [Option.some.injEq] at he
      subst he
      refine ⟨v,fun w hw=>?_,hK _ (hf.put hsl)⟩
      have h1:=runR_sound P _ _ _ hr hg _ w hw.2
      simp only [Oper.quietAt,e,h1,Oper.quietUpon]
      exact ⟨trivial,trivial⟩
     ·cases he
    ·cases he
   ·split at he
    ·rename_i v p hov
     split at he
     ·rename_i sl hsl
      simp only [Option.some.injEq] at he
      subst he
      refine ⟨v,fun w hw=>?_,hK _ (hf.put hsl)⟩
      have h1:=ov_sound hov ho.1 w
      simp only [Oper.quietAt,e,h1,Oper.quietUpon]
      exact ⟨trivial,trivial⟩
     ·cases he
    ·cases he
 ·rename_i v
  split at he
  ·cases he
  ·rename_i hk
   have e:=hf.rho hk
   split at he
   ·rename_i f args hr
    split at he
    ·rename_i sl hsl
     simp only [Option.some.injEq] at he
     subst he
     refine ⟨v,fun w hw=>?_,hK _ (hf.put hsl)⟩
     have h1:=runP_sound P _ _ hr w
     simp only [Oper.quietAt,e,h1,Oper.quietUpon]
     exact ⟨trivial,(ho.1 w hw).mono fun _ _ he=>⟨he.1,Nat.le_trans hw.1 he.2.size,(hw.2.same he.2).2⟩⟩
    ·cases he
   ·cases he
variable {body:Code} {Q:Exit → Act → World → Prop}
def isDraw:Code → Bool
 | .region _ _ true=>true
 | _=>false
theorem draw_of {c:Code} (h:isDraw c = true):∃ id,c = .region id (opsOf c) true:=by
 cases c <;> simp only [isDraw,Bool.false_eq_true] at h
 rename_i id ops d
 cases d
 ·cases h
 ·exact ⟨id,rfl⟩
def Out.prune (ks:List Nat):Option Out → Option Out
 | some r=>some ⟨r.ob,r.eqs,Go.Proofs.Ytpilmccjjbgmiaa.prune ks [] r.st⟩
 | none=>none
theorem out_prune {ks:List Nat} {x:Option Out} {o:Out} (h:Out.prune ks x = some o):∃ r,x = some r ∧ r.ob = o.ob ∧ r.eqs = o.eqs ∧ Go.Proofs.Ytpilmccjjbgmiaa.prune ks [] r.st = o.st:=by
 cases x with
 | none=>cases h
 | some r=>
  simp only [Out.prune,Option.some.injEq] at h
  subst h
  exact ⟨r,rfl,rfl,rfl,rfl⟩
def PanicOk (Q:Exit → Act → World → Prop):Prop:=∀ c (a a':Act) w,a.defers = a'.defers → Q (.panic c) a w → Q (.panic c) a' w
theorem panicOk_body {fn:Func} {R:Ending → World → Prop}:PanicOk (bodyPost P fn R):=fun _ _ _ _ h hq=>⟨h ▸ hq.1,hq.2⟩
theorem panicOk_sem (h:PanicOk Q):∀ (k:List KI),PanicOk (sem P body Q k)
 | []=>h
 | x :: k=>fun c a a' w hd hq=>by
  have ih:=panicOk_sem h k c a a' w hd
  cases x <;> exact ih hq
def takeS (P:Program) (n:Nat) (ops:Array Oper) (ls:Array Bool) (st:St) (i:Nat):Option (List (Nat × Value)):=
 match ops[i]? with
 | none=>none
 | some o=>match (Region.noSelect ops && (Region.ready .any ops ls).contains i && Region.free .any ops ls i && o.guard.isNone && known st.sl o) with
  | false=>none
  | true=>match runP P (execOp (rho st.sl) o) with
   | some (.value v)=>putS n st.sl o.dst v
   | _=>none
theorem put_defers (a:Act) (d:Option Nat) (v:Value):(a.put d v).defers = a.defers:=by cases d <;> rfl
theorem holds_take {p:List Nat} {k:List KI} {st:St} {f i:Nat} {ls:Array Bool} {sl:List (Nat × Value)} (hQ:PanicOk Q)
  (h:takeS P n (opsOf (getCode body p)) ls st i = some sl) (hh:Holds D P body n w0 S Q (.any p f (ls.setIfInBounds i true) :: k) ⟨sl,st.bk,st.wn,st.sz⟩) :
  Holds D P body n w0 S Q (.any p (f + 1) ls :: k) st:=by
 intro a w hf hm
 unfold takeS at h
 split at h
 ·cases h
 ·rename_i o ho
  split at h
  ·cases h
  ·rename_i hb
   simp only [Bool.and_eq_true] at hb
   obtain ⟨⟨⟨⟨b1,b2⟩,b3⟩,b4⟩,b5⟩:=hb
   split at h
   ·rename_i v hv
    have hrun:=runP_sound P _ _ hv
    have hg:o.guard = none:=by simpa using b4
    have hy:Yields P (opsOf (getCode body p)) o v a:=.inl ⟨by simp [Region.wanted,hg],fun w=>by rw [hf.rho b5]; exact hrun w⟩
    simp only [sem]
    refine wpAny_first ho (Region.noSelect_spec b1) (fun c a w hq=>panicOk_sem hQ k c _ _ w (put_defers a o.dst v) hq) f ls a w (Region.free_spec ho b3) (by simpa using b2) hy ?_
    exact hh _ w (hf.put h) hm
   ·cases h
def tailX (P:Program) (n:Nat) (ops:Array Oper):Nat → Array Bool → St → List (Nat × Bool × OH) → Option (Out × Nat × Array Bool)
 | f,ls,st,[]=>some (⟨[],[],st⟩,f,ls)
 | 0,_,_,_ :: _=>none
 | f + 1,ls,st,(i,true,_) :: r=>match takeS P n ops ls st i with
  | some sl=>tailX P n ops f (ls.setIfInBounds i true) ⟨sl,st.bk,st.wn,st.sz⟩ r
  | none=>none
 | f + 1,ls,st,(i,false,h) :: r=>match Region.ready .any ops ls with
  | [j]=>match Nat.beq i j with
   | true=>match opStep P n ops st i h with
    | some o=>match tailX P n ops f (ls.setIfInBounds i true) o.st r with
     | some (o',f',ls')=>some (⟨o.ob ++ o'.ob,o.eqs ++ o'.eqs,o'.st⟩,f',ls')
     | none=>none
    | none=>none
   | false=>none
  | _=>none
theorem tailX_sound {p:List Nat} {k:List KI} (hQ:PanicOk Q):∀ (r:List (Nat × Bool × OH)) (f:Nat) (ls:Array Bool) (st:St) (o:Out) (f':Nat) (ls':Array Bool),tailX P n (opsOf (getCode body p)) f ls st r = some (o,f',ls') → All o.ob → Good o.eqs →
  Holds D P body n w0 S Q (.any p f' ls' :: k) o.st → Holds D P body n w0 S Q (.any p f ls :: k) st
 | [],f,ls,st,o,f',ls',h,_,_,hh=>by
  cases f <;> (simp only [tailX,Option.some.injEq,Prod.mk.injEq] at h; obtain ⟨rfl,rfl,rfl⟩:=h; exact hh)
 | (i,true,_) :: r,0,ls,st,o,f',ls',h,_,_,hh=>by cases h
 | (i,true,_) :: r,f + 1,ls,st,o,f',ls',h,ho,hg,hh=>by
  simp only [tailX] at h
  split at h
  ·rename_i sl hsl
   exact holds_take hQ hsl (tailX_sound hQ r f _ _ o f' ls' h ho hg hh)
  ·cases h
 | (i,false,_) :: r,0,ls,st,o,f',ls',h,_,_,hh=>by cases h
 | (i,false,h0) :: r,f + 1,ls,st,o,f',ls',h,ho,hg,hh=>by
  simp only [tailX] at h
  split at h
  ·rename_i j hr
   split at h
   ·rename_i hij
    have hij':i = j:=Nat.eq_of_beq_eq_true hij
    subst hij'
    split at h
    ·rename_i o1 h1
     split at h
     ·rename_i o2 f2 ls2 h2
      simp only [Option.some.injEq,Prod.mk.injEq] at h
      obtain ⟨rfl,rfl,rfl⟩:=h
      obtain ⟨q1,q2⟩:=all_append ho
      have h3:=tailX_sound (k:=k) hQ r f _ _ o2 f2 ls2 h2 q2 (fun e he=>hg e (List.mem_append_right _ he)) hh
      intro a w hf hm
      simp only [sem]
      refine ⟨fun h=>by rw [hr] at h; (cases h),fun j hj=>?_⟩
      rw [hr,List.mem_singleton] at hj
      subst hj
      exact opStep_sound h1 q1 (fun e he=>hg e (List.mem_append_left _ he)) hf hm (fun a' w' hf' hm'=>h3 a' w' hf' hm')
     ·cases h
    ·cases h
   ·cases h
  ·cases h
def tailP (ks:List Nat):Option (Out × Nat × Array Bool) → Option (Out × Nat × Array Bool)
 | some (o,f,ls)=>some (⟨o.ob,o.eqs,prune ks [] o.st⟩,f,ls)
 | none=>none
theorem holds_tail {p:List Nat} {k:List KI} {st st':St} {f f':Nat} {ls ls':Array Bool} {ob:List Prop} {rs:List (Nat × Nat × Nat)} (hQ:PanicOk Q) (r:List (Nat × Bool × OH)) (ks:List Nat)
  (h:tailP ks (tailX P n (opsOf (getCode body p)) f ls st r) = some (⟨ob,dupR rs,st'⟩,f',ls')) (ho:All ob)
  (hh:Holds D P body n w0 S Q (.any p f' ls' :: k) st'):Holds D P body n w0 S Q (.any p f ls :: k) st:=by
 cases hx:tailX P n (opsOf (getCode body p)) f ls st r with
 | none=>rw [hx] at h; cases h
 | some x=>
  obtain ⟨o,f1,ls1⟩:=x
  rw [hx] at h
  simp only [tailP,Option.some.injEq,Prod.mk.injEq,Out.mk.injEq] at h
  obtain ⟨⟨h1,h2,h3⟩,h4,h5⟩:=h
  subst h4 h5
  refine tailX_sound hQ r f ls st o f1 ls1 hx (by rw [h1]; exact ho) (by rw [h2]; exact dupR_good rs) ?_
  refine holds_prune ks [] ?_
  rw [h3]
  exact hh
theorem holds_done {p:List Nat} {k:List KI} {st:St} {f:Nat} {ls:Array Bool} (hr:Region.ready .any (opsOf (getCode body p)) ls = []) (hh:Holds D P body n w0 S Q k st):Holds D P body n w0 S Q (.any p f ls :: k) st:=by
 intro a w hf hm
 simp only [sem]
 cases f with
 | zero=>exact ⟨hr,hh a w hf hm⟩
 | succ f=>exact ⟨fun _=>hh a w hf hm,fun j hj=>by rw [hr] at hj; (cases hj)⟩
end
end Go.Proofs.Ytpilmccjjbgmiaa
