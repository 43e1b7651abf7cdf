import Derived.WalkKit
import Derived.Deep.Draws
import Derived.ProofKit
namespace Go.Proofs.Ytpilmccjjbgmiaa
open Go.RowKit
def Blk (w:World) (g:Nat) (t:TypeId) (cs:List Value):Prop:=w.heap[g]? = some (.cells cs.toArray t (0,0))
theorem getElem?_lt {α:Type} {h:Array α} {g:Nat} {x:α} (e:h[g]? = some x):g < h.size:=by
 rcases Nat.lt_or_ge g h.size with hlt | hge
 ·exact hlt
 ·rw [Array.getElem?_eq_none hge] at e; cases e
section
variable {w w':World} {g:Nat} {t:TypeId} {cs:List Value}
theorem Blk.lt (h:Blk w g t cs):g < w.heap.size:=getElem?_lt h
theorem Blk.cell (h:Blk w g t cs) (i:Nat):w.cell? ⟨g,i,none⟩ = cs[i]?:=by
 unfold Blk at h; simp [World.cell?,h]
theorem Blk.at_ (h:Blk w g t cs) {i:Nat} {v:Value} (hi:cs[i]? = some v):w.cell? ⟨g,i,none⟩ = some v:=(h.cell i).trans hi
theorem Blk.frozen (h:Blk w g t cs) (i:Nat):w.frozen? ⟨g,i,none⟩ = false:=by
 unfold Blk at h; simp [World.frozen?,h]
theorem Blk.new (w:World) (t:TypeId) (cs:List Value):Blk (w.alloc (.cells cs.toArray t)) w.heap.size t cs:=
 heap_alloc_new w _
theorem Blk.alloc (h:Blk w g t cs) (o:Obj):Blk (w.alloc o) g t cs:=(Below.heap_alloc w o g h.lt).trans h
theorem Blk.put (h:Blk w g t cs) (i:Nat) (u:Value):Blk (w.setCell ⟨g,i,none⟩ u) g t (cs.set i u):=by
 unfold Blk at h ⊢
 simp [World.setCell,Array.getElem?_modify,h]
theorem Blk.far (h:Blk w g t cs) {p:Addr} (hp:p.block ≠ g) (u:Value):Blk (w.setCell p u) g t cs:=(Below.heap_setCell w p u g (Ne.symm hp)).trans h
end
structure Kept (S:Nat → Prop) (w w':World):Prop where
 os:w'.os = w.os
 tape:w'.tape = w.tape
 output:w'.output = w.output
 size:w.heap.size ≤ w'.heap.size
 block:∀ k,k < w.heap.size → ¬ S k → w'.heap[k]? = w.heap[k]?
section
variable {S S':Nat → Prop} {a b c w w':World}
theorem Kept.refl (S:Nat → Prop) (w:World):Kept S w w:=⟨rfl,rfl,rfl,Nat.le_refl _,fun _ _ _=>rfl⟩
theorem Kept.trans (h:Kept S a b) (h':Kept S' b c) (hs:∀ k,k < a.heap.size → S' k → S k):Kept S a c:=
 ⟨h'.os.trans h.os,h'.tape.trans h.tape,h'.output.trans h.output,Nat.le_trans h.size h'.size,fun k hk hn=>
  (h'.block k (Nat.lt_of_lt_of_le hk h.size) (fun hs'=>hn (hs k hk hs'))).trans (h.block k hk hn)⟩
theorem Kept.mono (h:Kept S' a b) (hs:∀ k,k < a.heap.size → S' k → S k):Kept S a b:=⟨h.os,h.tape,h.output,h.size,fun k hk hn=>h.block k hk (fun x=>hn (hs k hk x))⟩
theorem Kept.drew (h:Kept S a b):Kept S a b.drew:=⟨h.os,h.tape,h.output,h.size,h.block⟩
theorem Kept.alloc (h:Kept S a b) (o:Obj):Kept S a (b.alloc o):=
 ⟨h.os,h.tape,h.output,Nat.le_trans h.size (by simp),fun k hk hn=>(Below.heap_alloc b o k (Nat.lt_of_lt_of_le hk h.size)).trans (h.block k hk hn)⟩
theorem Kept.setCell (h:Kept S a b) {p:Addr} (hp:p.block < a.heap.size → S p.block) (u:Value):Kept S a (b.setCell p u):=
 ⟨h.os,h.tape,h.output,by simpa using h.size,fun k hk hn=>(Below.heap_setCell b p u k (by rintro rfl; exact hn (hp hk))).trans (h.block k hk hn)⟩
theorem Kept.below (h:Kept (fun _=>False) a b):Below a.heap.size a b:=⟨h.os,h.tape,h.output,h.size,fun k hk=>h.block k hk id⟩
theorem Kept.of_below {B:Nat} (h:Below B a b) (hs:∀ k,k < a.heap.size → B ≤ k → S k):Kept S a b:=
 ⟨h.os,h.tape,h.output,h.size,fun k hk hn=>h.block k (by rcases Nat.lt_or_ge k B with x | x; exact x; exact absurd (hs k hk x) hn)⟩
theorem Blk.kept {g:Nat} {t:TypeId} {cs:List Value} (h:Blk w g t cs) (hk:Kept S w w') (hn:¬ S g):Blk w' g t cs:=(hk.block g h.lt hn).trans h
theorem Kept.cell (hk:Kept S w w') {p:Addr} (hp:p.block < w.heap.size) (hn:¬ S p.block):w'.cell? p = w.cell? p:=World.cell?_of_block (hk.block _ hp hn)
end
theorem ret_bool {a b:Bool} (h:a = b):Ending.returned (.bool a) = .returned (.bool b):=by rw [h]
end Go.Proofs.Ytpilmccjjbgmiaa
namespace Go.Proofs.Ytpilmccjjbgmiaa
open Go.RowKit Go.WideShapes Go.ChangeShapes
section
variable {H:Type} {enc:TypeId × Value → H} {P:Program}
theorem post_of_kept {f:Func} {s:ChangeSpec} {apart fresh handsOn again:Bool} {W W':World} {args:Array Value} {v:Value} {ds gs:List (DataW H)} {before pa pv:List MemPlace}
  (hW:DataW.Whole enc P f.params.toList s.vars apart W args.toList ds gs before)
  (hres:∀ (b:Nat) (sp:Nat → Bool) (hd:Bool),DataW.TrodAll enc P W' b sp hd f.resultTypes.toList (v.resultList f.resultTypes.size) (s.fn H (ds ++ gs)).results [])
  (hargs:∀ sp:Nat → Bool,(∀ p ∈ before,sp p.block = true) → DataW.TrodAll enc P W' 0 sp true f.params.toList args.toList (s.fn H (ds ++ gs)).args pa)
  (hvars:∀ sp:Nat → Bool,(∀ p ∈ before,sp p.block = true) → DataW.TrodVars enc P W' sp s.vars (s.fn H (ds ++ gs)).vars pv)
  (hps:before = pa ++ pv) (hk:Kept (fun _=>False) W W')
  (hok:∀ (j:Nat) (t:TypeId) (r:Value),f.resultTypes[j]? = some t → (v.resultList f.resultTypes.size)[j]? = some r → Value.okWide P W' .any 0 t r) :
  s.post enc P f apart fresh handsOn again W args v W':=by
 have hb:=hk.below
 have hlt:∀ p ∈ before,p.block < W.heap.size:=fun p hp=>hW.lt p hp
 have hold:∀ p ∈ before,(fun b=>decide (b < W.heap.size)) p.block = true:=fun p hp=>by simpa using hlt p hp
 refine ⟨ds,gs,before,[],pa,pv,hW,hres _ _ _,hargs _ hold,hvars _ hold,World.keptBut_mono (fun p hp=>⟨hp,?_⟩) (hb.frame (· ∈ before)),fun _=>?_⟩
 ·rw [hps,List.mem_append] at hp
  exact Or.inr hp
 ·obtain ⟨_,_,_,_,_,hz,hn⟩:=hW
  refine ⟨hok,_,_,([] ++ pa) ++ pv,⟨[] ++ pa,pv,trodAll_append (hargs _ (fun _ _=>rfl)) (hres _ _ _),hvars _ (fun _ _=>rfl),rfl,?_,?_⟩,?_⟩
  ·intro b off hp
   have hin:MemPlace.cell b off ∈ before:=by rw [hps]; simpa using hp
   rw [hb.frozen (hlt _ hin)]
   exact hz b off hin
  ·intro ha
   have:=hn ha
   rw [hps] at this
   simpa using this
  ·intro p hp _
   rw [hps]
   simpa using hp
theorem stays_all {W W':World} (hl:laidOutB P = true) (hk:Kept (fun _=>False) W W'):∀ (ts:List TypeId) (vs:List Value) (ds:List (DataW H)) (ps:List MemPlace) (sp:Nat → Bool),
  (∀ t ∈ ts,P.readableRec t = true ∧ t < P.types.size) → DataW.TrodAll enc P W 0 (fun _=>true) true ts vs ds ps → (∀ p ∈ ps,p.block < W.heap.size) → (∀ p ∈ ps,sp p.block = true) → DataW.TrodAll enc P W' 0 sp true ts vs ds ps
 | [],[],[],_,_,_,h,_,_=>h
 | [],_ :: _,_,_,_,_,h,_,_=>(h:False).elim
 | [],[],_ :: _,_,_,_,h,_,_=>(h:False).elim
 | _ :: _,[],_,_,_,_,h,_,_=>(h:False).elim
 | _ :: _,_ :: _,[],_,_,_,h,_,_=>(h:False).elim
 | t :: ts,v :: vs,d :: ds,ps,sp,ht,h,hlt,hs=>by
  obtain ⟨p,q,h1,h2,rfl⟩:=h
  refine ⟨p,q,?_,stays_all hl hk ts vs ds q sp (fun u hu=>ht u (List.mem_cons_of_mem _ hu)) h2 (fun x hx=>hlt x (List.mem_append_right _ hx)) (fun x hx=>hs x (List.mem_append_right _ hx)),rfl⟩
  have:=ht t (List.mem_cons_self ..)
  exact WideElems.Trod_stays hl this.1 this.2 h1 (fun x hx=>hk.below.same (hlt x (List.mem_append_left _ hx))) (fun x hx=>hs x (List.mem_append_left _ hx))
theorem law_post {f:Func} {s:ChangeSpec} {apart:Bool} {W W':World} {args:Array Value} {ds gs:List (DataW H)} {before:List MemPlace} {tb:TypeId}
  (hl:laidOutB P = true) (ht:∀ t ∈ f.params.toList,P.readableRec t = true ∧ t < P.types.size) (hr:f.resultTypes = #[tb]) (hu:P.underlying tb = some .bool)
  (hv:s.vars = []) (hf:s.fn H ds = { results:=[.lit (.bool true)],args:=ds })
  (hW:DataW.Whole enc P f.params.toList s.vars apart W args.toList ds gs before) (hk:Kept (fun _=>False) W W') :
  s.post enc P f apart true false false W args (.bool true) W':=by
 have hW2:=hW
 obtain ⟨p,q,hA,hV,rfl,_,_⟩:=hW2
 rw [hv] at hV
 have hg:gs = [] ∧ q = []:=by
  cases gs with
  | nil=>exact ⟨rfl,hV⟩
  | cons a b=>exact (hV:False).elim
 obtain ⟨rfl,rfl⟩:=hg
 have hfe:s.fn H (ds ++ []) = { results:=[.lit (.bool true)],args:=ds }:=by rw [List.append_nil]; exact hf
 have hlt:∀ x ∈ p,x.block < W.heap.size:=fun x hx=>hW.lt x (List.mem_append_left _ hx)
 have hsv:(s.fn H (ds ++ [])).vars = []:=by rw [hfe]
 refine post_of_kept (pa:=p) (pv:=[]) hW (fun _ _ _=>?_) (fun sp hsp=>?_) (fun _ _=>?_) rfl hk ?_
 ·rw [hfe,hr]
  exact trodAll_mk1 (shut_bool hu true)
 ·rw [hfe]
  exact stays_all hl hk _ _ _ _ sp ht hA hlt (fun x hx=>hsp x (List.mem_append_left _ hx))
 ·rw [hsv,hv]
  rfl
 ·exact ok_one hr rfl (okWide_bool_mk hu true)
end
end Go.Proofs.Ytpilmccjjbgmiaa
