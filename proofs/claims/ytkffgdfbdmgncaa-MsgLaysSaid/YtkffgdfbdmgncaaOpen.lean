import Derived.Test.YtkffgdfbdmgncaaMsgTells
import Derived.Test.YtkffgdfbdmgncaaFit12
import Derived.Test.YtkffgdfbdmgncaaPost
import Derived.ProofKit
import Derived.Deep.Slices
namespace Go.Proofs.Ytkffgdfbdmgncaa
open Go.RowKit
theorem putT_size {l:LetM} (h:rightL l = true):28 ≤ (putT l).size ∧ (putT l).size ≤ 128:=by
 have h3:=(fldsM_ok h).2.2
 rw [putT_right h,size_frameT,len_layT]
 omega
def lys_v1 (x:Raw12):List Value:=[i6 x.fr,i6 x.dst,i6 x.id,i6 x.st,i6 x.ep,i6 x.ou,.bool x.ans,i6 x.ask.kind,i6 x.ask.stripe,i6 x.ask.epoch,i6 x.ask.seq,i6 x.ask.mask,i6 x.ask.node,i6 x.ask.oe,i6 x.ask.os,sT x.ask.block,i6 x.rc.flags,i6 x.rc.fence,i6 x.rc.epoch,i6 x.rc.seq,i6 x.rc.ie,i6 x.rc.is,i6 x.rc.mask,sT x.rc.block,sT x.rc.staged]
def lys_v2 (y:LetM):List Value:=[i6 y.fr,i6 y.dst,i6 y.id,.bool y.ans,i6 y.ask.kind,i6 y.ask.stripe,i6 y.ask.epoch,i6 y.ask.seq,i6 y.ask.mask,i6 y.ask.node,i6 y.ask.oe,i6 y.ask.os,sT y.ask.block,i6 y.say.st,i6 y.say.ep,i6 y.say.ou,.bool y.say.rc.used,i6 y.say.rc.fence,i6 y.say.rc.de,i6 y.say.rc.ds,sT y.say.rc.block,.bool y.say.rc.op,i6 y.say.rc.ie,i6 y.say.rc.is,i6 y.say.rc.mask,sT y.say.rc.staged]
@[simp] def lys_b1 (x:Raw12) (y:LetM) (w:World) (z2:Nat):List Bk:=[⟨w.heap.size,45,true,(lys_v1 x)⟩,⟨z2,31,true,(lys_v2 y)⟩]
set_option maxRecDepth 100000 in
set_option maxHeartbeats 4000000 in
theorem lays_any0 (x:Raw12) (y:LetM) (hx:Raw12Ok x) (hy:fitL x = y) (hry:rightL y = true) (w:World) :
  Calls Try.prog 4 #[.agg #[.int .i64 x.fr,.int .i64 x.dst,.int .i64 x.id,.int .i64 x.st,.int .i64 x.ep,.int .i64 x.ou,.bool x.ans,.int .i64 x.ask.kind,.int .i64 x.ask.stripe,.int .i64 x.ask.epoch,.int .i64 x.ask.seq,.int .i64 x.ask.mask,.int .i64 x.ask.node,.int .i64 x.ask.oe,.int .i64 x.ask.os,.string x.ask.block,.int .i64 x.rc.flags,.int .i64 x.rc.fence,.int .i64 x.rc.epoch,.int .i64 x.rc.seq,.int .i64 x.rc.ie,.int .i64 x.rc.is,.int .i64 x.rc.mask,.string x.rc.block,.string x.rc.staged]] w (RetK (.bool true) w):=by
 refine calls_of_holds (S:=(fun _=>False)) (l:=[.agg (List.toArray (lys_v1 x))]) (n:=20) Try.func4 (body_of (by kernel_rfl)) rfl (by simp) (MemOk.none w _) ?_
 refine hgE 11 [oh0,oh0,(oA 0 0 25)] [2,6] [] [(w.heap.size,0,25)] [.ops [1,0] [1,2,3],.code [1,1]] ⟨[(2,.bool false),(6,.agg (List.toArray (lys_v1 x)))],[⟨w.heap.size,45,true,(lys_v1 x)⟩],[],w.heap.size + 1⟩ ?_
 refine hcp (.agg (List.toArray (lys_v2 y))) 16 [.agg (List.toArray (lys_v1 x))] (some 7) [] tI rfl (fun wx hm=>by have h:=fitL_any x hx wx; rw [hy] at h; exact h) fun z2 hz2=>?_
 replace hz2:w.heap.size + 1 ≤ z2:=hz2
 refine hgE 9 [oh0,(oA 1 0 26),(oA 1 0 26)] [2,3,9] [] [(z2,0,26),(z2,0,26)] [.ops [1,1,0] [1,2,3,4,5,6],.code [1,1,1]] ⟨[(2,.bool false),(3,(pt z2 0)),(9,.agg (List.toArray (lys_v2 y)))],(lys_b1 x y w z2),[],z2 + 1⟩ ?_
 refine hcp (.tuple #[sT (putT y),i6 0]) 11 [.agg (List.toArray (lys_v2 y))] (some 10) [] tI rfl (fun wx hm=>by have h:=refPut_any y wx; unfold putE at h; rw [hry] at h; exact h) fun z4 hz4=>?_
 replace hz4:z2 + 1 ≤ z4:=hz4
 refine hgE 12 [oh0,oh0,oh0,oh0,oh0,(oA 1 0 26)] [2,3,4,13] [] [(z2,0,26)] [.ops [1,1,1,0] [1,2,3,4,5,6,7],.code [1,1,1,1]] ⟨[(2,.bool false),(3,(pt z2 0)),(4,sT (putT y)),(13,.agg (List.toArray (lys_v2 y)))],(lys_b1 x y w z2),[],z4⟩ ?_
 refine hcp (.bool true) 14 [.agg (List.toArray (lys_v2 y))] (some 14) [] tI rfl (fun wx hm=>by have h:=msgRight_any y wx; rw [hry] at h; exact h) fun z6 hz6=>?_
 replace hz6:z4 ≤ z6:=hz6
 refine hgE 6 [oh0,⟨true,0,[⟨false,1,0,26⟩]⟩,oh1] [2,15,16,17] [tT,tT] [(z2,0,26)] [.ops [1,1,1,0] [5,6,7],.code [1,1,1,1]] ⟨[(2,.bool false),(15,.bool true),(16,.agg (List.toArray (lys_v2 y))),(17,sT (putT y))],(lys_b1 x y w z2),[],z6⟩ ?_
 refine hcp (.bool true) 3 [.agg (List.toArray (lys_v2 y)),sT (putT y)] (some 18) [true = true] ⟨rfl,tI⟩ rfl (fun wx hm=>tells_any y (putT y) (by have:=putT_size hry; omega) wx) fun z8 hz8=>?_
 replace hz8:z6 ≤ z8:=hz8
 refine hgE 6 [oh3,oh0] [2] [tT] [] [.code [1,1,1,1]] ⟨[(2,.bool true)],(lys_b1 x y w z2),[],z8⟩ ?_
 refine hrt [] [.bool true] [] ?_
 intro wx hm
 exact ⟨rfl,hm.kept⟩
theorem lays_any (x:Raw12) (hx:Raw12Ok x) (w:World):Calls Try.prog 4 #[.agg #[.int .i64 x.fr,.int .i64 x.dst,.int .i64 x.id,.int .i64 x.st,.int .i64 x.ep,.int .i64 x.ou,.bool x.ans,.int .i64 x.ask.kind,.int .i64 x.ask.stripe,.int .i64 x.ask.epoch,.int .i64 x.ask.seq,.int .i64 x.ask.mask,.int .i64 x.ask.node,.int .i64 x.ask.oe,.int .i64 x.ask.os,.string x.ask.block,.int .i64 x.rc.flags,.int .i64 x.rc.fence,.int .i64 x.rc.epoch,.int .i64 x.rc.seq,.int .i64 x.rc.ie,.int .i64 x.rc.is,.int .i64 x.rc.mask,.string x.rc.block,.string x.rc.staged]] w (RetK (.bool true) w):=lays_any0 x _ hx rfl (fitL_ok x) w
end Go.Proofs.Ytkffgdfbdmgncaa
namespace Go.Proofs.Ytkffgdfbdmgncaa
open Go.RowKit Go.WideShapes Go.ChangeShapes Go.Deep
def okKind:Nat → Value → Prop
 | 0,v=>∃ a,v = .int .i64 a ∧ (Lit.int .i64 a).wf = true
 | 1,v=>∃ b,v = .bool b
 | 2,v=>∃ s:ByteArray,v = .string s ∧ s.size ≤ maxLen
 | _,v=>∃ A n c,v = .slice A n c
def flatFields (P:Program) (g:TypeId → Option (List Nat)):List Field → Nat → Option (List Nat)
 | [],_=>some []
 | f :: r,o=>
  match g f.type,flatFields P g r (o + P.cellsOf f.type) with
  | some l,some m=>if f.offset = o ∧ P.cellsOf f.type = l.length then some (l ++ m) else none
  | _,_=>none
def flat (P:Program):Nat → TypeId → Option (List Nat)
 | 0,_=>none
 | n + 1,t=>
  match P.underlying t with
  | some (.int .i64)=>some [0]
  | some .bool=>some [1]
  | some .string=>some [2]
  | some (.slice _)=>some [3]
  | some (.struct fs)=>flatFields P (flat P n) fs.toList 0
  | _=>none
section
variable {H:Type} {enc:TypeId × Value → H} {P:Program} {w:World} {base:Nat} {spare:Nat → Bool} {held:Bool}
theorem flatFields_spec (g:TypeId → Option (List Nat)) (cs:List Value)
  (hg:∀ (t:TypeId) (L:List Nat) (cs:List Value) (m:Nat) (x:DataW H × List MemPlace),g t = some L → DataW.trod enc P w base spare held m t cs = some x → ∀ (j k:Nat),L[j]? = some k → ∃ v,cs[j]? = some v ∧ okKind k v) :
  ∀ (fs:List Field) (o:Nat) (L:List Nat),flatFields P g fs o = some L →
   (∀ (i:Nat) (f:Field),fs[i]? = some f → ∃ m x,DataW.trod enc P w base spare held m f.type ((cs.drop f.offset).take (P.cellsOf f.type)) = some x) →
   ∀ (j k:Nat),L[j]? = some k → ∃ v,cs[o + j]? = some v ∧ okKind k v
 | [],o,L,h,_,j,k,hj=>by
  simp only [flatFields,Option.some.injEq] at h
  subst h
  simp at hj
 | f :: r,o,L,h,ht,j,k,hj=>by
  simp only [flatFields] at h
  split at h
  ·rename_i l m hl hm
   split at h
   ·rename_i hc
    obtain ⟨hc1,hc2⟩:=hc
    simp only [Option.some.injEq] at h
    subst h
    by_cases hlt:j < l.length
    ·obtain ⟨mm,x,hx⟩:=ht 0 f rfl
     rw [List.getElem?_append_left hlt] at hj
     obtain ⟨v,hv,hk⟩:=hg _ _ _ _ _ hl hx j k hj
     refine ⟨v,?_,hk⟩
     rw [List.getElem?_take,if_pos (by omega),List.getElem?_drop,hc1] at hv
     exact hv
    ·rw [List.getElem?_append_right (by omega)] at hj
     obtain ⟨v,hv,hk⟩:=flatFields_spec g cs hg r _ _ hm (fun i f' hf'=>ht (i + 1) f' hf') (j - l.length) k hj
     exact ⟨v,by rw [← hv]; congr 1; omega,hk⟩
   ·cases h
  ·cases h
theorem flat_spec:∀ (n:Nat) (t:TypeId) (L:List Nat) (cs:List Value) (m:Nat) (x:DataW H × List MemPlace),flat P n t = some L → DataW.trod enc P w base spare held m t cs = some x →
  ∀ (j k:Nat),L[j]? = some k → ∃ v,cs[j]? = some v ∧ okKind k v
 | 0,_,_,_,_,_,h,_,_,_,_=>by cases h
 | n + 1,t,L,cs,m,x,h,hx,j,k,hj=>by
  simp only [flat] at h
  split at h
  ·rename_i hu
   simp only [Option.some.injEq] at h
   subst h
   obtain ⟨a,rfl,_,wa⟩:=DataW.trod_int hu hx
   match j,hj with
   | 0,hj=>simp at hj; subst hj; exact ⟨_,rfl,a,rfl,wa⟩
   | j + 1,hj=>simp at hj
  ·rename_i hu
   simp only [Option.some.injEq] at h
   subst h
   obtain ⟨b,rfl,_⟩:=DataW.trod_bool hu hx
   match j,hj with
   | 0,hj=>simp at hj; subst hj; exact ⟨_,rfl,b,rfl⟩
   | j + 1,hj=>simp at hj
  ·rename_i hu
   simp only [Option.some.injEq] at h
   subst h
   obtain ⟨s,rfl,_,hs⟩:=DataW.trod_string hu hx
   match j,hj with
   | 0,hj=>simp at hj; subst hj; exact ⟨_,rfl,s,rfl,hs⟩
   | j + 1,hj=>simp at hj
  ·rename_i e hu
   simp only [Option.some.injEq] at h
   subst h
   rcases open_slice hu hx with ⟨hcs,_⟩ | ⟨a,len',cap',m',n',D,Pl,hcs,_⟩
   ·match j,hj with
    | 0,hj=>simp at hj; subst hj; exact ⟨_,by rw [hcs]; rfl,none,0,0,rfl⟩
    | j + 1,hj=>simp at hj
   ·match j,hj with
    | 0,hj=>simp at hj; subst hj; exact ⟨_,by rw [hcs]; rfl,_,_,_,rfl⟩
    | j + 1,hj=>simp at hj
  ·rename_i fs hu
   obtain ⟨xs,m',_,_,_,hlen,hf⟩:=DataW.trod_struct hu hx
   obtain ⟨v,hv,hk⟩:=flatFields_spec (flat P n) cs (fun t L cs m x=>flat_spec n t L cs m x) fs.toList 0 L h (fun i f hi=>by
    have hi':fs[i]? = some f:=by simpa using hi
    have hil:i < xs.length:=by rw [hlen]; exact (Array.getElem?_eq_some_iff.1 hi').1
    exact ⟨m',xs[i],(hf i f hi').trans (List.getElem?_eq_getElem hil)⟩) j k hj
   exact ⟨v,by simpa using hv,hk⟩
  ·cases h
theorem open_agg {r:Reach} {b0:Nat} {t:TypeId} {v:Value} {d:DataW H} {p:List MemPlace} {n:Nat} {L:List Nat} {fs:Array Field} (ht:P.underlying t = some (.struct fs)) (hL:flat P n t = some L) (hC:P.cellsOf t = L.length)
  (hv:Value.okWide P w r b0 t v) (h:DataW.Trod enc P w base spare held t v d p) :
  ∃ cs:Array Value,v = .agg cs ∧ cs.size = L.length ∧ ∀ (j k:Nat),L[j]? = some k → ∃ c,cs[j]? = some c ∧ okKind k c:=by
 unfold Value.okWide at hv
 simp only [ht] at hv
 obtain ⟨cs,rfl,hs,_⟩:=hv
 obtain ⟨fuel,hf⟩:=h
 refine ⟨cs,rfl,hs.trans hC,fun j k hj=>?_⟩
 obtain ⟨c,hc,hk⟩:=flat_spec n t L _ fuel _ hL hf j k hj
 exact ⟨c,by simpa [Value.cells] using hc,hk⟩
theorem agg_eq {cs:Array Value} {l:List Value} (hs:cs.size = l.length) (h:∀ (j:Nat),j < l.length → cs[j]? = l[j]?):cs = l.toArray:=by
 apply Array.ext_getElem?
 intro i
 by_cases hi:i < l.length
 ·rw [h i hi]
  simp
 ·rw [Array.getElem?_eq_none (by omega)]
  simp
  omega
end
end Go.Proofs.Ytkffgdfbdmgncaa
