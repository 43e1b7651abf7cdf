import Derived.Test.YtkffgdfbdmgncaaEngY
namespace Go.Proofs.Ytkffgdfbdmgncaa
open Go.RowKit
def asU (x:Sem Unit):Sem Next:=x >>= fun _=>pure .skip
section
variable {D:List Deferred} {P:Program} {n:Nat} {w0:World} {S:Nat → Prop}
theorem run_storeG (w:World) (t:TypeId) (g o:Nat) (tt:TypeId) (cs:List Value) (v:Value) (hs:(P.info? t).map (·.size) = some v.cells.size) (hB:Blk w g tt cs) (hle:o + v.cells.size ≤ cs.length) (hone:∀ u ∈ v.cells.toList,u.oneCell' = true) :
  (Instr.storeAt t (.pointer (some ⟨g,o,none⟩)) v).run P w = .ok () (w.setRow g (cs.take o ++ v.cells.toList ++ cs.drop (o + v.cells.size)).toArray):=by
 obtain ⟨inf,hi,hz⟩:=Option.map_eq_some_iff.1 hs
 have h1:=run_storeCells_at P g o tt v.cells.toList 0 cs.toArray w hB (by simpa using hle) hone
 simp only [Nat.add_zero,Array.length_toList] at h1
 simp only [Instr.storeAt,Instr.sureAddr,storeVar]
 simp [sizeOf,typeInfo,hi,hz,h1]
theorem holds_opS {body:Code} {Q:Exit → Act → World → Prop} {p:List Nat} {i:Nat} {l:List Nat} {k:List KI} {st:St} {x:Sem Unit} (bk:List Bk) {sl:List (Nat × Value)}
  (hd:dstAt (opsOf (getCode body p)) st.sl i = some none) (hx:semAt (opsOf (getCode body p)) st.sl i = some (asU x)) (hsl:st.sl = sl)
  (hr:∀ w,MemOk w0 S st.bk st.wn st.sz w → ∃ w',x.run P w = .ok () w' ∧ st.sz ≤ w'.heap.size ∧ MemOk w0 S bk st.wn w'.heap.size w')
  (hh:∀ sz,st.sz ≤ sz → Holds D P body n w0 S Q (.ops p l :: k) ⟨sl,bk,st.wn,sz⟩):Holds D P body n w0 S Q (.ops p (i :: l) :: k) st:=by
 intro a w hf hm
 subst hsl
 simp only [sem]
 rw [wpOps_cons]
 unfold dstAt at hd
 unfold semAt at hx
 split at hd
 ·rename_i o ho
  simp only [ho,Option.some.injEq] at hx
  split at hd
  ·rename_i hg
   split at hd
   ·rename_i hk
    simp only [Option.some.injEq] at hd
    have hw:Region.wanted o (yielded (opsOf (getCode body p)) a.tmps) = true:=by simp [Region.wanted,hg]
    simp only [wpOp,ho,if_pos hw]
    refine .inl ?_
    obtain ⟨w',h2,h3,h4⟩:=hr w hm
    have h5:(execOp a.eval o).run P w = .ok .skip w':=by
     rw [hf.rho hk,hx]
     simp only [asU,Sem.run_bind,h2,Result.andThen_ok,Sem.run_pure]
    simp only [Oper.wp,h5,Oper.upon_skip]
    rw [hd]
    exact hh _ h3 _ _ hf h4
   ·cases hd
  ·cases hd
 ·cases hd
def FB (w:World) (g:Nat) (t:TypeId) (L:List Int):Prop:=∃ r:List Value,w.heap[g]? = some (.cells (intsV L ++ r).toArray t ((intsV L ++ r).length,(intsV L ++ r).length + 1))
theorem FB.lt {w:World} {g:Nat} {t:TypeId} {L:List Int} (h:FB w g t L):g < w.heap.size:=by
 obtain ⟨r,h⟩:=h
 exact (Array.getElem?_eq_some_iff.1 h).1
theorem FB.kept {w w':World} {g:Nat} {t:TypeId} {L:List Int} {T:Nat → Prop} (h:FB w g t L) (hk:Kept T w w') (hT:¬ T g):FB w' g t L:=by
 have hl:=h.lt
 obtain ⟨r,h⟩:=h
 exact ⟨r,(hk.block g hl hT).trans h⟩
theorem FB.cell {w:World} {g:Nat} {t:TypeId} {L:List Int} (h:FB w g t L) {i:Nat} {v:Int} (hv:L[i]? = some v):w.cell? ⟨g,i,none⟩ = some (.int .u8 v):=by
 obtain ⟨r,h⟩:=h
 have hi:=(List.getElem?_eq_some_iff.1 hv).1
 have e:(intsV L ++ r)[i]? = some (.int .u8 v):=by
  rw [List.getElem?_append_left (by simpa [intsV] using hi)]
  simp [intsV,hv]
 simp only [World.cell?,h]
 simpa using e
theorem run_newBytes (w:World) (src dst e:TypeId) (s:ByteArray) (hs:P.underlying src = some .string) (hd:P.underlying dst = some (.slice e)) (he:P.underlying e = some (.int .u8)) :
  ∃ c w',(convert src dst (.string s)).run P w = .ok (.slice (some ⟨w.heap.size,0,none⟩) s.size c) w' ∧ FB w' w.heap.size e (intsOf s) ∧ Kept (fun _=>False) w w':=by
 refine ⟨_,_,run_bytes_of_string w src dst e s hs hd he,⟨List.replicate (grownCap w s.size 0 e - s.size) (.int .u8 0),?_⟩,((Kept.refl _ w).drew).alloc _⟩
 have e1:(intsV (intsOf s) ++ List.replicate (grownCap w s.size 0 e - s.size) (Value.int .u8 0)).toArray = bytesRow s (grownCap w s.size 0 e):=by
  unfold bytesRow
  apply Array.toList_inj.1
  simp [intsV,intsOf]
 have e2:(intsV (intsOf s) ++ List.replicate (grownCap w s.size 0 e - s.size) (Value.int .u8 0)).length = (bytesRow s (grownCap w s.size 0 e)).size:=by
  rw [← e1]
  simp
 rw [e2,e1]
 show (w.heap.push _)[w.heap.size]? = _
 simp
theorem holds_loopW {body:Code} {Q:Exit → Act → World → Prop} {p:List Nat} {k:List KI} {st:St} {w:World} {S':Nat → Prop} (I:Nat → St → World → Prop) (m0:Nat) (hl:isLoop (getCode body p) = true)
  (h0:∀ W,MemOk w0 S st.bk st.wn st.sz W → I m0 st W ∧ MemOk w S' st.bk [] st.sz W)
  (round:∀ m st' W,I m st' W → MemOk w S' st'.bk [] W.heap.size W → ∀ J:Act → World → Prop,(∀ m' st'' a' W',m' < m → I m' st'' W' → FrOk D n st''.sl a' → MemOk w S' st''.bk [] st''.sz W' → J a' W') →
   Holds D P body n W (Turned st'.bk) Q (.code (p ++ [0]) :: .inv J :: k) ⟨st'.sl,st'.bk,[],W.heap.size⟩) :
  Holds D P body n w0 S Q (.code p :: k) st:=by
 obtain ⟨c,hc⟩:∃ c,getCode body p = .loop c:=by
  cases h:getCode body p <;> rw [h] at hl <;> first | exact ⟨_,rfl⟩ | cases hl
 intro a wx hf hm
 simp only [sem,hc]
 obtain ⟨hI0,hm0⟩:=h0 wx hm
 refine wp_loop_ghost (fun m a W=>∃ st',I m st' W ∧ FrOk D n st'.sl a ∧ MemOk w S' st'.bk [] st'.sz W) m0 ⟨st,hI0,hf,hm0⟩ ?_
 rintro m a W ⟨st',hI,hf',hm'⟩
 have hmW:MemOk w S' st'.bk [] W.heap.size W:=by rw [hm'.size]; exact hm'
 have h1:=round m st' W hI hmW (fun a' w'=>∃ m',m' < m ∧ ∃ st',I m' st' w' ∧ FrOk D n st'.sl a' ∧ MemOk w S' st'.bk [] st'.sz w') (fun m' st'' a' W' hlt hI' hf'' hm''=>⟨m',hlt,st'',hI',hf'',hm''⟩) a W hf' hmW.again
 simp only [sem,getCode_append,hc,getCode] at h1
 refine wp_mono h1 fun e a w h2=>?_
 cases e <;> exact h2
end
end Go.Proofs.Ytkffgdfbdmgncaa
