import Derived.Test.YtkffgdfbdmgncaaMem
import Derived.ProofKit
import Derived.Deep.Slices
namespace Go.Proofs.Ytkffgdfbdmgncaa
open Go.RowKit Go.WideShapes Go.ChangeShapes Go.Deep
def okKind:Nat → Value → Prop
 | 0,v=>∃ a,v = .int .i64 a ∧ (Lit.int .i64 a).wf = true
 | 1,v=>∃ b,v = .bool b
 | 2,v=>∃ s:ByteArray,v = .string s ∧ s.size ≤ maxLen
 | _,v=>∃ A n c,v = .slice A n c
def flatFields (P:Program) (g:TypeId → Option (List Nat)):List Field → Nat → Option (List Nat)
 | [],_=>some []
 | f :: r,o=>
  match g f.type,flatFields P g r (o + P.cellsOf f.type) with
  | some l,some m=>if f.offset = o ∧ P.cellsOf f.type = l.length then some (l ++ m) else none
  | _,_=>none
def flat (P:Program):Nat → TypeId → Option (List Nat)
 | 0,_=>none
 | n + 1,t=>
  match P.underlying t with
  | some (.int .i64)=>some [0]
  | some .bool=>some [1]
  | some .string=>some [2]
  | some (.slice _)=>some [3]
  | some (.struct fs)=>flatFields P (flat P n) fs.toList 0
  | _=>none
section
variable {H:Type} {enc:TypeId × Value → H} {P:Program} {w:World} {base:Nat} {spare:Nat → Bool} {held:Bool}
theorem flatFields_spec (g:TypeId → Option (List Nat)) (cs:List Value)
  (hg:∀ (t:TypeId) (L:List Nat) (cs:List Value) (m:Nat) (x:DataW H × List MemPlace),g t = some L → DataW.trod enc P w base spare held m t cs = some x → ∀ (j k:Nat),L[j]? = some k → ∃ v,cs[j]? = some v ∧ okKind k v) :
  ∀ (fs:List Field) (o:Nat) (L:List Nat),flatFields P g fs o = some L →
   (∀ (i:Nat) (f:Field),fs[i]? = some f → ∃ m x,DataW.trod enc P w base spare held m f.type ((cs.drop f.offset).take (P.cellsOf f.type)) = some x) →
   ∀ (j k:Nat),L[j]? = some k → ∃ v,cs[o + j]? = some v ∧ okKind k v
 | [],o,L,h,_,j,k,hj=>by
  simp only [flatFields,Option.some.injEq] at h
  subst h
  simp at hj
 | f :: r,o,L,h,ht,j,k,hj=>by
  simp only [flatFields] at h
  split at h
  ·rename_i l m hl hm
   split at h
   ·rename_i hc
    obtain ⟨hc1,hc2⟩:=hc
    simp only [Option.some.injEq] at h
    subst h
    by_cases hlt:j < l.length
    ·obtain ⟨mm,x,hx⟩:=ht 0 f rfl
     rw [List.getElem?_append_left hlt] at hj
     obtain ⟨v,hv,hk⟩:=hg _ _ _ _ _ hl hx j k hj
     refine ⟨v,?_,hk⟩
     rw [List.getElem?_take,if_pos (by omega),List.getElem?_drop,hc1] at hv
     exact hv
    ·rw [List.getElem?_append_right (by omega)] at hj
     obtain ⟨v,hv,hk⟩:=flatFields_spec g cs hg r _ _ hm (fun i f' hf'=>ht (i + 1) f' hf') (j - l.length) k hj
     exact ⟨v,by rw [← hv]; congr 1; omega,hk⟩
   ·cases h
  ·cases h
theorem flat_spec:∀ (n:Nat) (t:TypeId) (L:List Nat) (cs:List Value) (m:Nat) (x:DataW H × List MemPlace),flat P n t = some L → DataW.trod enc P w base spare held m t cs = some x →
  ∀ (j k:Nat),L[j]? = some k → ∃ v,cs[j]? = some v ∧ okKind k v
 | 0,_,_,_,_,_,h,_,_,_,_=>by cases h
 | n + 1,t,L,cs,m,x,h,hx,j,k,hj=>by
  simp only [flat] at h
  split at h
  ·rename_i hu
   simp only [Option.some.injEq] at h
   subst h
   obtain ⟨a,rfl,_,wa⟩:=DataW.trod_int hu hx
   match j,hj with
   | 0,hj=>simp at hj; subst hj; exact ⟨_,rfl,a,rfl,wa⟩
   | j + 1,hj=>simp at hj
  ·rename_i hu
   simp only [Option.some.injEq] at h
   subst h
   obtain ⟨b,rfl,_⟩:=DataW.trod_bool hu hx
   match j,hj with
   | 0,hj=>simp at hj; subst hj; exact ⟨_,rfl,b,rfl⟩
   | j + 1,hj=>simp at hj
  ·rename_i hu
   simp only [Option.some.injEq] at h
   subst h
   obtain ⟨s,rfl,_,hs⟩:=DataW.trod_string hu hx
   match j,hj with
   | 0,hj=>simp at hj; subst hj; exact ⟨_,rfl,s,rfl,hs⟩
   | j + 1,hj=>simp at hj
  ·rename_i e hu
   simp only [Option.some.injEq] at h
   subst h
   rcases open_slice hu hx with ⟨hcs,_⟩ | ⟨a,len',cap',m',n',D,Pl,hcs,_⟩
   ·match j,hj with
    | 0,hj=>simp at hj; subst hj; exact ⟨_,by rw [hcs]; rfl,none,0,0,rfl⟩
    | j + 1,hj=>simp at hj
   ·match j,hj with
    | 0,hj=>simp at hj; subst hj; exact ⟨_,by rw [hcs]; rfl,_,_,_,rfl⟩
    | j + 1,hj=>simp at hj
  ·rename_i fs hu
   obtain ⟨xs,m',_,_,_,hlen,hf⟩:=DataW.trod_struct hu hx
   obtain ⟨v,hv,hk⟩:=flatFields_spec (flat P n) cs (fun t L cs m x=>flat_spec n t L cs m x) fs.toList 0 L h (fun i f hi=>by
    have hi':fs[i]? = some f:=by simpa using hi
    have hil:i < xs.length:=by rw [hlen]; exact (Array.getElem?_eq_some_iff.1 hi').1
    exact ⟨m',xs[i],(hf i f hi').trans (List.getElem?_eq_getElem hil)⟩) j k hj
   exact ⟨v,by simpa using hv,hk⟩
  ·cases h
theorem open_agg {r:Reach} {b0:Nat} {t:TypeId} {v:Value} {d:DataW H} {p:List MemPlace} {n:Nat} {L:List Nat} {fs:Array Field} (ht:P.underlying t = some (.struct fs)) (hL:flat P n t = some L) (hC:P.cellsOf t = L.length)
  (hv:Value.okWide P w r b0 t v) (h:DataW.Trod enc P w base spare held t v d p) :
  ∃ cs:Array Value,v = .agg cs ∧ cs.size = L.length ∧ ∀ (j k:Nat),L[j]? = some k → ∃ c,cs[j]? = some c ∧ okKind k c:=by
 unfold Value.okWide at hv
 simp only [ht] at hv
 obtain ⟨cs,rfl,hs,_⟩:=hv
 obtain ⟨fuel,hf⟩:=h
 refine ⟨cs,rfl,hs.trans hC,fun j k hj=>?_⟩
 obtain ⟨c,hc,hk⟩:=flat_spec n t L _ fuel _ hL hf j k hj
 exact ⟨c,by simpa [Value.cells] using hc,hk⟩
theorem agg_eq {cs:Array Value} {l:List Value} (hs:cs.size = l.length) (h:∀ (j:Nat),j < l.length → cs[j]? = l[j]?):cs = l.toArray:=by
 apply Array.ext_getElem?
 intro i
 by_cases hi:i < l.length
 ·rw [h i hi]
  simp
 ·rw [Array.getElem?_eq_none (by omega)]
  simp
  omega
end
end Go.Proofs.Ytkffgdfbdmgncaa
