import Derived.Test.YtkffgdfbdmgncaaEngC
import Derived.KernelRfl
namespace Go.Proofs.Ytkffgdfbdmgncaa
open Go.RowKit
def keepS (sl : List (Nat × Value)) : List Nat → List (Nat × Value)
 | []=>[]
 | i :: r=>match getS sl i with
  | some v=>(i,v) :: keepS sl r
  | none=>keepS sl r
def maskL {α : Type} : List Bool → List α → List α
 | _,[]=>[]
 | [],l=>l
 | true :: m,x :: l=>x :: maskL m l
 | false :: m,_ :: l=>maskL m l
def prune (ks : List Nat) (mb : List Bool) (st : St) : St:=⟨keepS st.sl ks,maskL mb st.bk,st.wn,st.sz⟩
def dupN (g r : Nat) : Nat → List ((Nat × Nat) × (Nat × Nat))
 | 0=>[]
 | n + 1=>((g,r),(g,r)) :: dupN g (r + 1) n
def dupR : List (Nat × Nat × Nat) → List ((Nat × Nat) × (Nat × Nat))
 | []=>[]
 | (g,r,n) :: l=>dupN g r n ++ dupR l
theorem dupN_good (g : Nat) : ∀ (n r : Nat),Good (dupN g r n)
 | 0,_,_,h=>by cases h
 | n + 1,r,e,h=>by
  rcases List.mem_cons.1 h with rfl | h
  ·rfl
  ·exact dupN_good g n (r + 1) e h
theorem dupR_good : ∀ (l : List (Nat × Nat × Nat)),Good (dupR l)
 | [],_,h=>by cases h
 | (g,r,n) :: l,e,h=>by
  rcases List.mem_append.1 h with h | h
  ·exact dupN_good g n r e h
  ·exact dupR_good l e h
theorem maskL_sub {α : Type} : ∀ (m : List Bool) (l : List α),(maskL m l).Sublist l
 | _,[]=>by simp [maskL]
 | [],_ :: _=>List.Sublist.refl _
 | true :: m,_ :: l=>(maskL_sub m l).cons_cons _
 | false :: m,_ :: l=>(maskL_sub m l).cons _
theorem getS_keepS {sl : List (Nat × Value)} : ∀ (ks : List Nat) (i : Nat) (v : Value),getS (keepS sl ks) i = some v → getS sl i = some v
 | [],_,_,h=>by cases h
 | j :: ks,i,v,h=>by
  simp only [keepS] at h
  split at h
  ·rename_i u hu
   simp only [getS] at h
   split at h
   ·rename_i he
    have he' : j = i:=Nat.eq_of_beq_eq_true he
    subst he'
    rw [hu]
    exact h
   ·exact getS_keepS ks i v h
  ·exact getS_keepS ks i v h
section
variable {D : List Deferred} {P : Program} {body : Code} {n : Nat} {w0 : World} {S : Nat → Prop} {Q : Exit → Act → World → Prop}
theorem MemOk.sub {bk bk' : List Bk} {wn : List Wn} {sz : Nat} {w : World} (h : MemOk w0 S bk wn sz w) (hs : bk'.Sublist bk) : MemOk w0 S bk' wn sz w:=
 ⟨h.size,fun b hb=>h.blk b (hs.subset hb),fun b hb=>h.own b (hs.subset hb),h.nd.sublist (hs.map _),h.kept,h.win⟩
theorem holds_prune {k : List KI} {st : St} (ks : List Nat) (mb : List Bool) (h : Holds D P body n w0 S Q k (prune ks mb st)) : Holds D P body n w0 S Q k st:=
 fun a w hf hm=>h a w ⟨hf.size,hf.df,fun i v hi=>hf.val i v (getS_keepS ks i v hi)⟩ (hm.sub (maskL_sub mb st.bk))
def Res.prune (ks : List Nat) (mb : List Bool) : Option Res → Option Res
 | some r=>some { r with st:=Go.Proofs.Ytkffgdfbdmgncaa.prune ks mb r.st }
 | none=>none
theorem holds_go {f : Nat} {hs : List OH} {k : List KI} {st : St} (ks : List Nat) (mb : List Bool) {ob : List Prop} {rs : List (Nat × Nat × Nat)} {k' : List KI} {st' : St}
  (h : Res.prune ks mb (exec P body n f hs k st) = some ⟨ob,dupR rs,k',st'⟩) (ho : All ob) (hh : Holds D P body n w0 S Q k' st') : Holds D P body n w0 S Q k st:=by
 cases he : exec P body n f hs k st with
 | none=>rw [he] at h; cases h
 | some r=>
  rw [he] at h
  simp only [Res.prune,Option.some.injEq,Res.mk.injEq] at h
  obtain ⟨h1,h2,h3,h4⟩:=h
  refine exec_sound f hs k st r he (by rw [h1]; exact ho) (by rw [h2]; exact dupR_good rs) ?_
  rw [h3]
  refine holds_prune ks mb ?_
  rw [h4]
  exact hh
def bodyOf (fn : Func) : Code:=fn.body.getD .skip
theorem hgo (f : Nat) (hs : List OH) {k : List KI} {st : St} (ks : List Nat) (ob : List Prop) (rs : List (Nat × Nat × Nat)) (k' : List KI) (st' : St) (ho : All ob) (hh : Holds D P body n w0 S Q k' st')
  (h : Res.prune ks [] (exec P body n f hs k st) = some ⟨ob,dupR rs,k',st'⟩:=by kernel_rfl) : Holds D P body n w0 S Q k st:=holds_go ks [] h ho hh
theorem body_of {fn : Func} (h : fn.body.isSome = true) : fn.body = some (bodyOf fn):=by
 obtain ⟨c,hc⟩:=Option.isSome_iff_exists.1 h
 simp [bodyOf,hc]
def enumS : Nat → List Value → List (Nat × Value)
 | _,[]=>[]
 | i,v :: l=>(i,v) :: enumS (i + 1) l
theorem getS_enumS : ∀ (l : List Value) (i j : Nat) (v : Value),getS (enumS i l) j = some v → i ≤ j ∧ l[j - i]? = some v
 | [],_,_,_,h=>by cases h
 | u :: l,i,j,v,h=>by
  simp only [enumS,getS] at h
  split at h
  ·rename_i he
   have he' : i = j:=Nat.eq_of_beq_eq_true he
   subst he'
   simpa using h
  ·rename_i he
   have he' : i ≠ j:=Nat.ne_of_beq_eq_false he
   obtain ⟨h1,h2⟩:=getS_enumS l (i + 1) j v h
   refine ⟨by omega,?_⟩
   obtain ⟨d,hd⟩ : ∃ d,j - i = d + 1:=⟨j - i - 1,by omega⟩
   rw [hd,List.getElem?_cons_succ,← h2]
   congr 1
   omega
theorem calls_of_holds {fid : FuncId} {fn : Func} {l : List Value} {w : World} {R : Ending → World → Prop} {bk : List Bk} {wn : List Wn}
  (hf : P.funcs[fid]? = some fn) (hb : fn.body = some body) (hn : fn.ntmps = n) (hl : l.length ≤ n) (hm : MemOk w S bk wn w.heap.size w)
  (h : Holds [] P body n w S (bodyPost P fn R) [.code []] ⟨enumS 0 l,bk,wn,w.heap.size⟩) : Calls P fid l.toArray w R:=by
 refine calls_of_wp hf hb ?_
 have hg : getCode body [] = body:=by cases body <;> rfl
 have h1:=h { tmps:=l.toArray ++ Array.replicate (fn.ntmps - l.toArray.size) undef,defers:=[] } w
  ⟨by simp; omega,rfl,fun i v hi=>by
   obtain ⟨_,h2⟩:=getS_enumS l 0 i v hi
   simp only [Nat.sub_zero] at h2
   have hlt:=(List.getElem?_eq_some_iff.1 h2).1
   rw [Array.getElem?_append_left (by simpa using hlt)]
   simpa using h2⟩ hm
 simp only [sem,hg] at h1
 exact wp_mono h1 fun e a w h2=>h2
def resL (P : Program) (wn : List Wn) (bk : List Bk) (sl : List (Nat × Value)) : List ResultVar → List (List MH) → Option (List Value × List ((Nat × Nat) × (Nat × Nat)))
 | [],_=>some ([],[])
 | .tmp t :: r,hs=>match getS sl t with
  | some v=>match resL P wn bk sl r hs with
   | some (vs,es)=>some (v :: vs,es)
   | none=>none
  | none=>none
 | .cell c ty :: r,h :: hs=>match getS sl c with
  | some (.pointer (some ad))=>match runR P wn bk (loadVar ty ad) h with
   | some o=>match resL P wn bk sl r hs with
    | some (vs,es)=>some (o.v :: vs,o.eqs ++ es)
    | none=>none
   | none=>none
  | _=>none
 | .cell _ _ :: _,[]=>none
def resF (tmps : Array Value) : ResultVar → Sem Value
 | .tmp t=>pure (tmps.getD t undef)
 | .cell c t=>do loadVar t (← asAddr (tmps.getD c undef))
theorem results_resF (fn : Func) (tmps : Array Value) : results fn tmps = (fn.results.mapM (resF tmps) >>= fun vs=>pure (if h : vs.size = 1 then vs[0] else .tuple vs)):=by
 have e : (fun x=>match x with
   | ResultVar.tmp t=>(pure (tmps.getD t undef) : Sem Value)
   | ResultVar.cell c t=>do loadVar t (← asAddr (tmps.getD c undef))) = resF tmps:=by
  funext x
  cases x <;> rfl
 rw [← e]
 rfl
def oneOf : List Value → Value
 | [v]=>v
 | l=>.tuple l.toArray
theorem resL_run {bk : List Bk} {wn : List Wn} {sz : Nat} {sl : List (Nat × Value)} {a : Act} {w : World} (hf : FrOk D n sl a) (hm : MemOk w0 S bk wn sz w) :
  ∀ (l : List ResultVar) (hs : List (List MH)) (vs : List Value) (es : List ((Nat × Nat) × (Nat × Nat))),resL P wn bk sl l hs = some (vs,es) → Good es →
  (l.mapM (resF a.tmps)).run P w = .ok vs w
 | [],_,vs,es,h,_=>by
  simp only [resL,Option.some.injEq,Prod.mk.injEq] at h
  obtain ⟨rfl,rfl⟩:=h
  rfl
 | .tmp t :: r,hs,vs,es,h,hg=>by
  simp only [resL] at h
  split at h
  ·rename_i v hv
   split at h
   ·rename_i vs' es' hr
    simp only [Option.some.injEq,Prod.mk.injEq] at h
    obtain ⟨rfl,rfl⟩:=h
    have h1:=resL_run hf hm r hs vs' es' hr hg
    have h2 : a.tmps.getD t undef = v:=by
     have:=hf.val t v hv
     simp [this]
    rw [List.mapM_cons]
    simp only [Sem.run_bind,resF,Sem.run_pure,h1,h2,Result.andThen_ok]
   ·cases h
  ·cases h
 | .cell c ty :: r,[],vs,es,h,_=>by simp [resL] at h
 | .cell c ty :: r,x :: hs,vs,es,h,hg=>by
  simp only [resL] at h
  split at h
  ·rename_i ad hv
   split at h
   ·rename_i o ho
    split at h
    ·rename_i vs' es' hr
     simp only [Option.some.injEq,Prod.mk.injEq] at h
     obtain ⟨rfl,rfl⟩:=h
     have h1:=resL_run hf hm r hs vs' es' hr (fun e he=>hg e (List.mem_append_right _ he))
     have h2 : a.tmps.getD c undef = .pointer (some ad):=by
      have:=hf.val c _ hv
      simp [this]
     have h3:=runR_sound P _ _ _ ho (fun e he=>hg e (List.mem_append_left _ he)) sz w hm
     rw [List.mapM_cons]
     have h4 : (asAddr (.pointer (some ad))).run P w = .ok ad w:=rfl
     simp only [Sem.run_bind,resF,Sem.run_pure,h1,h2,h4,h3,Result.andThen_ok]
    ·cases h
   ·cases h
  ·cases h
theorem results_of {fn : Func} {bk : List Bk} {wn : List Wn} {sz : Nat} {sl : List (Nat × Value)} {a : Act} {w : World} (hf : FrOk D n sl a) (hm : MemOk w0 S bk wn sz w)
  {hs : List (List MH)} {vs : List Value} {rs : List (Nat × Nat × Nat)} (h : resL P wn bk sl fn.results.toList hs = some (vs,dupR rs)) : (results fn a.tmps).run P w = .ok (oneOf vs) w:=by
 have h1:=resL_run hf hm _ hs vs _ h (dupR_good rs)
 have h2 : ∀ (f : ResultVar → Sem Value),fn.results.mapM f = Functor.map List.toArray (fn.results.toList.mapM f):=by
  intro f
  rw [Array.mapM_eq_mapM_toList]
 rw [results_resF,h2,← bind_pure_comp,Sem.run_bind,Sem.run_bind,h1]
 simp only [Result.andThen_ok,Sem.run_pure]
 match vs with
 | []=>rfl
 | [v]=>rfl
 | v :: u :: l=>simp [oneOf]
theorem holds_ret {fn : Func} {R : Ending → World → Prop} {p : List Nat} {k : List KI} {st : St} {vs : List Value} {rs : List (Nat × Nat × Nat)} (hs : List (List MH))
  (hc : getCode body p = .ret) (h : resL P st.wn st.bk st.sl fn.results.toList hs = some (vs,dupR rs)) (hR : ∀ w,MemOk w0 S st.bk st.wn st.sz w → R (.returned (oneOf vs)) w) : Holds [] P body n w0 S (bodyPost P fn R) (.code p :: k) st:=by
 intro a w hf hm
 simp only [sem,hc]
 refine wp_ret ?_
 have h1 : ∀ (k : List KI),bodyPost P fn R .ret a w → sem P body (bodyPost P fn R) k .ret a w:=by
  intro k hb
  induction k with
  | nil=>exact hb
  | cons x k ih=>cases x <;> exact ih
 exact h1 k ⟨hf.df,_,results_of hf hm h,hR w hm⟩
theorem hrt {fn : Func} {R : Ending → World → Prop} {p : List Nat} {k : List KI} {st : St} (hs : List (List MH)) (vs : List Value) (rs : List (Nat × Nat × Nat)) (hR : ∀ w,MemOk w0 S st.bk st.wn st.sz w → R (.returned (oneOf vs)) w)
  (hc : getCode body p = .ret:=by kernel_rfl) (h : resL P st.wn st.bk st.sl fn.results.toList hs = some (vs,dupR rs):=by kernel_rfl) : Holds [] P body n w0 S (bodyPost P fn R) (.code p :: k) st:=holds_ret hs hc h hR
def callAt (P : Program) (ops : Array Oper) (sl : List (Nat × Value)) (i : Nat) : Option (FuncId × List Value × Option Nat × List Prop):=
 match ops[i]? with
 | none=>none
 | some o=>match known sl o with
  | false=>none
  | true=>match runP P (execOp (rho sl) o) with
   | some (.enter f args)=>match o.guard with
    | none=>some (f,args.toList,o.dst,[])
    | some (j,want)=>match (ops[j]?).bind (·.dst) with
     | none=>none
     | some t=>match getS sl t with
      | some (.bool c)=>some (f,args.toList,o.dst,[c = want])
      | _=>none
   | _=>none
theorem callAt_wpOp {ops : Array Oper} {sl : List (Nat × Value)} {i : Nat} {f : FuncId} {args : List Value} {dst : Option Nat} {ob : List Prop} {a : Act} {w : World} {K : Act → World → Prop} {Q' : Exit → Act → World → Prop}
  (h : callAt P ops sl i = some (f,args,dst,ob)) (ho : All ob) (hf : FrOk D n sl a) (hc : Calls P f args.toArray w (fun e w'=>∃ v,e = .returned v ∧ K (a.put dst v) w')) : wpOp P ops Q' i K a w:=by
 unfold callAt at h
 split at h
 ·cases h
 ·rename_i o hoi
  split at h
  ·cases h
  ·rename_i hk
   split at h
   ·rename_i f' args' hr
    have hrun : ∀ w,(execOp a.eval o).run P w = .ok (.enter f' args') w:=by
     rw [hf.rho hk]
     exact runP_sound P _ _ hr
    have key : ∀ (_ : f' = f) (_ : args'.toList = args) (_ : o.dst = dst) (_ : Region.wanted o (yielded ops a.tmps) = true),wpOp P ops Q' i K a w:=by
     intro e1 e2 e3 hw
     have e4 : args' = args.toArray:=by rw [← e2]
     simp only [wpOp,hoi,if_pos hw]
     refine .inl ?_
     simp only [Oper.wp,hrun,Oper.upon_enter]
     rw [e1,e4]
     refine hc.mono fun e w' he=>?_
     obtain ⟨v,rfl,h2⟩:=he
     rw [e3]
     exact h2
    split at h
    ·rename_i hg
     simp only [Option.some.injEq,Prod.mk.injEq] at h
     obtain ⟨e1,e2,e3,_⟩:=h
     exact key e1 e2 e3 (by simp [Region.wanted,hg])
    ·rename_i j want hg
     split at h
     ·cases h
     ·rename_i t ht
      split at h
      ·rename_i c hcc
       simp only [Option.some.injEq,Prod.mk.injEq] at h
       obtain ⟨e1,e2,e3,e4⟩:=h
       subst e4
       have h1 : c = want:=ho.1
       have hy : yielded ops a.tmps j = some c:=by
        have:=hf.val t _ hcc
        simp [yielded,ht,this]
       exact key e1 e2 e3 (by simp [Region.wanted,hg,hy,h1])
      ·cases h
   ·cases h
theorem holds_call {p : List Nat} {i : Nat} {l : List Nat} {k : List KI} {st : St} {f : FuncId} {args : List Value} {dst : Option Nat} {ob : List Prop}
  (h : callAt P (opsOf (getCode body p)) st.sl i = some (f,args,dst,ob)) (ho : All ob)
  (hc : ∀ w,MemOk w0 S st.bk st.wn st.sz w → Calls P f args.toArray w (fun e w'=>∃ v sl bk wn sz,e = .returned v ∧ putS n st.sl dst v = some sl ∧ MemOk w0 S bk wn sz w' ∧ Holds D P body n w0 S Q (.ops p l :: k) ⟨sl,bk,wn,sz⟩)) :
  Holds D P body n w0 S Q (.ops p (i :: l) :: k) st:=by
 intro a w hf hm
 simp only [sem]
 rw [wpOps_cons]
 refine callAt_wpOp h ho hf ((hc w hm).mono fun e w' he=>?_)
 obtain ⟨v,sl,bk,wn,sz,rfl,h1,h2,h3⟩:=he
 exact ⟨v,rfl,h3 _ _ (hf.put h1) h2⟩
theorem holds_callX {p : List Nat} {i : Nat} {l : List Nat} {k : List KI} {st : St} {f : FuncId} {args : List Value} {dst : Option Nat} {ob : List Prop} {X : Type} (C : X → Prop) (v : X → Value) (bk : X → List Bk) (sl : X → List (Nat × Value))
  (h : callAt P (opsOf (getCode body p)) st.sl i = some (f,args,dst,ob)) (ho : All ob) (hp : ∀ x,putS n st.sl dst (v x) = some (sl x))
  (hc : ∀ w,MemOk w0 S st.bk st.wn st.sz w → Calls P f args.toArray w (fun e w'=>∃ x,C x ∧ e = .returned (v x) ∧ st.sz ≤ w'.heap.size ∧ MemOk w0 S (bk x) st.wn w'.heap.size w'))
  (hh : ∀ x,C x → ∀ sz,st.sz ≤ sz → Holds D P body n w0 S Q (.ops p l :: k) ⟨sl x,bk x,st.wn,sz⟩) :
  Holds D P body n w0 S Q (.ops p (i :: l) :: k) st:=
 holds_call h ho fun w hm=>(hc w hm).mono fun e w' he=>by
  obtain ⟨x,h1,h2,h3,h4⟩:=he
  exact ⟨v x,sl x,bk x,st.wn,w'.heap.size,h2,hp x,h4,hh x h1 _ h3⟩
theorem holds_callM {p : List Nat} {i : Nat} {l : List Nat} {k : List KI} {st : St} {f : FuncId} {args : List Value} {dst : Option Nat} {ob : List Prop} (v : Value) (bk : List Bk) {sl : List (Nat × Value)}
  (h : callAt P (opsOf (getCode body p)) st.sl i = some (f,args,dst,ob)) (ho : All ob) (hp : putS n st.sl dst v = some sl)
  (hc : ∀ w,MemOk w0 S st.bk st.wn st.sz w → Calls P f args.toArray w (fun e w'=>e = .returned v ∧ st.sz ≤ w'.heap.size ∧ MemOk w0 S bk st.wn w'.heap.size w'))
  (hh : ∀ sz,st.sz ≤ sz → Holds D P body n w0 S Q (.ops p l :: k) ⟨sl,bk,st.wn,sz⟩) :
  Holds D P body n w0 S Q (.ops p (i :: l) :: k) st:=
 holds_call h ho fun w hm=>(hc w hm).mono fun e w' he=>by
  obtain ⟨h2,h3,h4⟩:=he
  exact ⟨v,sl,bk,st.wn,w'.heap.size,h2,hp,h4,hh _ h3⟩
def RetK (v : Value) (w : World) (e : Ending) (w' : World) : Prop:=e = .returned v ∧ Kept (fun _=>False) w w'
theorem holds_callP {p : List Nat} {i : Nat} {l : List Nat} {k : List KI} {st : St} {f : FuncId} {args : List Value} {dst : Option Nat} {ob : List Prop} (v : Value) {sl : List (Nat × Value)}
  (h : callAt P (opsOf (getCode body p)) st.sl i = some (f,args,dst,ob)) (ho : All ob) (hp : putS n st.sl dst v = some sl)
  (hc : ∀ w,MemOk w0 S st.bk st.wn st.sz w → Calls P f args.toArray w (RetK v w))
  (hh : ∀ sz,st.sz ≤ sz → Holds D P body n w0 S Q (.ops p l :: k) ⟨sl,st.bk,st.wn,sz⟩) :
  Holds D P body n w0 S Q (.ops p (i :: l) :: k) st:=
 holds_call h ho fun w hm=>(hc w hm).mono fun e w' he=>by
  obtain ⟨h2,h3⟩:=he
  have h4 : st.sz ≤ w'.heap.size ∧ MemOk w0 S st.bk st.wn w'.heap.size w':=
   ⟨hm.size ▸ h3.size,rfl,fun b hb=>(hm.blk b hb).kept h3 id,hm.own,hm.nd,hm.kept.trans h3 (fun _ _ x=>x.elim),hm.win⟩
  exact ⟨v,sl,st.bk,st.wn,w'.heap.size,h2,hp,h4.2,hh _ h4.1⟩
theorem hcp {p : List Nat} {i : Nat} {l : List Nat} {k : List KI} {st : St} (v : Value) (f : FuncId) (args : List Value) (dst : Option Nat) (ob : List Prop) {sl : List (Nat × Value)} (ho : All ob) (hp : putS n st.sl dst v = some sl)
  (hc : ∀ w,MemOk w0 S st.bk st.wn st.sz w → Calls P f args.toArray w (RetK v w))
  (hh : ∀ sz,st.sz ≤ sz → Holds D P body n w0 S Q (.ops p l :: k) ⟨sl,st.bk,st.wn,sz⟩) (h : callAt P (opsOf (getCode body p)) st.sl i = some (f,args,dst,ob):=by kernel_rfl) :
  Holds D P body n w0 S Q (.ops p (i :: l) :: k) st:=holds_callP v h ho hp hc hh
def isLoop : Code → Bool
 | .loop _=>true
 | _=>false
theorem holds_loop {p : List Nat} {k : List KI} {st : St} (I : Nat → St → Prop) (m0 : Nat) (hl : isLoop (getCode body p) = true) (h0 : I m0 st)
  (round : ∀ m st',I m st' → ∀ J : Act → World → Prop,(∀ m' st'',m' < m → I m' st'' → Holds D P body n w0 S Q (.inv J :: k) st'') → Holds D P body n w0 S Q (.code (p ++ [0]) :: .inv J :: k) st') :
  Holds D P body n w0 S Q (.code p :: k) st:=by
 obtain ⟨c,hc⟩ : ∃ c,getCode body p = .loop c:=by
  cases h : getCode body p <;> rw [h] at hl <;> first | exact ⟨_,rfl⟩ | cases hl
 intro a w hf hm
 simp only [sem,hc]
 refine wp_loop_ghost (fun m a w=>∃ st',I m st' ∧ FrOk D n st'.sl a ∧ MemOk w0 S st'.bk st'.wn st'.sz w) m0 ⟨st,h0,hf,hm⟩ ?_
 rintro m a w ⟨st',hI,hf',hm'⟩
 have h1:=round m st' hI (fun a' w'=>∃ m',m' < m ∧ ∃ st',I m' st' ∧ FrOk D n st'.sl a' ∧ MemOk w0 S st'.bk st'.wn st'.sz w') (fun m' st'' hlt hI' a' w' hf'' hm''=>⟨m',hlt,st'',hI',hf'',hm''⟩) a w hf' hm'
 simp only [sem,getCode_append,hc,getCode] at h1
 refine wp_mono h1 fun e a w h2=>?_
 cases e <;> exact h2
theorem holds_wins {k : List KI} {st : St} (wn : List Wn) (hw : MemOk w0 S st.bk st.wn st.sz = MemOk w0 S st.bk st.wn st.sz → ∀ x ∈ wn,¬ S x.g ∧ x.g < w0.heap.size ∧ ∀ j v,x.cs[j]? = some v → w0.cell? ⟨x.g,x.o + j,none⟩ = some v)
  (h : Holds D P body n w0 S Q k ⟨st.sl,st.bk,wn,st.sz⟩) : Holds D P body n w0 S Q k st:=
 fun a w h1 h2=>h a w h1 ⟨h2.size,h2.blk,h2.own,h2.nd,h2.kept,hw rfl⟩
theorem MemOk.start {bk : List Bk} {wn : List Wn} {w : World} {S : Nat → Prop} (hb : ∀ b ∈ bk,Blk w b.g b.t b.cs) (ho : ∀ b ∈ bk,b.rw = true → S b.g) (hn : (bk.map (·.g)).Nodup)
  (hw : ∀ x ∈ wn,¬ S x.g ∧ x.g < w.heap.size ∧ ∀ j v,x.cs[j]? = some v → w.cell? ⟨x.g,x.o + j,none⟩ = some v) : MemOk w S bk wn w.heap.size w:=
 ⟨rfl,hb,fun b h1 h2=>.inl (ho b h1 h2),hn,Kept.refl _ _,hw⟩
theorem MemOk.none (w : World) (S : Nat → Prop) : MemOk w S [] [] w.heap.size w:=
 MemOk.start (fun _ h=>by cases h) (fun _ h=>by cases h) (by simp) (fun _ h=>by cases h)
theorem blks_of {w : World} : ∀ (bk : List Bk),All (bk.map fun b=>Blk w b.g b.t b.cs) → ∀ b ∈ bk,Blk w b.g b.t b.cs
 | [],_,_,h=>by cases h
 | x :: r,h,b,hb=>by
  rcases List.mem_cons.1 hb with rfl | hb
  ·exact h.1
  ·exact blks_of r h.2 b hb
theorem MemOk.at_ {bk : List Bk} {wn : List Wn} {sz : Nat} {w : World} (h : MemOk w0 S bk wn sz w) (i : Nat) {b : Bk} (hi : bk[i]? = some b) : Blk w b.g b.t b.cs:=h.blk b (List.mem_of_getElem? hi)
theorem MemOk.same {bk : List Bk} {wn : List Wn} {sz : Nat} {w w' : World} (h : MemOk w0 S bk wn sz w) (hk : Kept (fun _=>False) w w') : sz ≤ w'.heap.size ∧ MemOk w0 S bk wn w'.heap.size w':=
 ⟨h.size ▸ hk.size,rfl,fun b hb=>(h.blk b hb).kept hk id,h.own,h.nd,h.kept.trans hk (fun _ _ x=>x.elim),h.win⟩
theorem MemOk.add {bk : List Bk} {wn : List Wn} {sz : Nat} {w w' : World} (h : MemOk w0 S bk wn sz w) (hk : Kept (fun _=>False) w w') (nb : List Bk) (hb : All (nb.map fun b=>Blk w' b.g b.t b.cs)) (hg : ∀ b ∈ nb,sz ≤ b.g) (hn : (nb.map (·.g)).Nodup) :
  sz ≤ w'.heap.size ∧ MemOk w0 S (bk ++ nb) wn w'.heap.size w':=by
 have hs:=h.same hk
 refine ⟨hs.1,rfl,fun b hb'=>?_,fun b hb' hr=>?_,?_,hs.2.kept,h.win⟩
 ·rcases List.mem_append.1 hb' with h1 | h1
  ·exact hs.2.blk b h1
  ·exact blks_of nb hb b h1
 ·rcases List.mem_append.1 hb' with h1 | h1
  ·exact h.own b h1 hr
  ·right
   have h2:=hg b h1
   have h3:=h.kept.size
   have h4:=h.size
   omega
 ·rw [List.map_append,List.nodup_append]
  refine ⟨h.nd,hn,fun a ha b hb'=>?_⟩
  obtain ⟨x,hx,rfl⟩:=List.mem_map.1 ha
  obtain ⟨y,hy,rfl⟩:=List.mem_map.1 hb'
  have h1:=h.lt hx
  have h2:=hg y hy
  omega
theorem MemOk.set1 {bk : List Bk} {wn : List Wn} {sz : Nat} {w w' : World} (h : MemOk w0 S bk wn sz w) (i : Nat) {b : Bk} {cs : List Value} (hi : bk[i]? = some b) (hr : b.rw = true) (hk : Kept (fun x=>x = b.g) w w') (hb : Blk w' b.g b.t cs) :
  sz ≤ w'.heap.size ∧ MemOk w0 S (bk.set i { b with cs:=cs }) wn w'.heap.size w':=by
 have hbm : b ∈ bk:=List.mem_of_getElem? hi
 refine ⟨h.size ▸ hk.size,rfl,fun c hc=>?_,fun c hc hr'=>?_,by rw [map_set_g hi]; exact h.nd,h.kept.trans hk (fun x hx e=>?_),h.win⟩
 ·obtain ⟨j,hj⟩:=List.mem_iff_getElem?.1 hc
  rw [List.getElem?_set] at hj
  split at hj
  ·split at hj
   ·simp only [Option.some.injEq] at hj
    subst hj
    exact hb
   ·cases hj
  ·rename_i hne
   exact (h.blk c (List.mem_of_getElem? hj)).kept hk (fun he=>hne (nodup_get h.nd hi hj he.symm))
 ·obtain ⟨j,hj⟩:=List.mem_iff_getElem?.1 hc
  rw [List.getElem?_set] at hj
  split at hj
  ·split at hj
   ·simp only [Option.some.injEq] at hj
    subst hj
    exact h.own b hbm hr
   ·cases hj
  ·exact h.own c (List.mem_of_getElem? hj) hr'
 ·subst e
  exact (h.own b hbm hr).resolve_right (by omega)
end
end Go.Proofs.Ytkffgdfbdmgncaa
