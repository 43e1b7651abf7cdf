import Derived.Laws.Closers25b
import Derived.Test.YtpilmccjjbgmiaaShelfM
import Derived.Test.YtpilmccjjbgmiaaNums
import Derived.Test.YtpilmccjjbgmiaaEngU
namespace Go.Proofs.Ytpilmccjjbgmiaa
open Go.RowKit
theorem empty_toList:(⟨#[]⟩:ByteArray).toList = []:=by rw [ByteArray.toList_eq]
theorem empty_size (s:ByteArray):(s.toList == (⟨#[]⟩:ByteArray).toList) = (bif false then (s.size:Int) == 16 else (s.size:Int) == 0):=by
 rw [cond_false,empty_toList]
 by_cases h:s.size = 0
 ·obtain rfl:=size_zero.1 h
  rw [show noText.toList = [] from empty_toList]
  rfl
 ·have e:(s.toList == []) = false:=beq_eq_false_iff_ne.2 (fun e=>h (size_zero.2 ((toList_nil_iff_emptyBytes s).1 e)))
  rw [e,beq_eq_false_iff_ne.2 (by omega)]
set_option maxRecDepth 100000 in
set_option maxHeartbeats 4000000 in
theorem fits_any (s:ByteArray) (u:Bool) (w:World) :
  Calls Try.prog 53 #[.string s,.bool u] w (RetK (.bool (fitB s u)) w):=by
 refine calls_of_holds (S:=(fun _=>False)) (l:=[.string s,.bool u]) (n:=11) Try.func53 (body_of (by kernel_rfl)) rfl (by simp) (MemOk.none w _) ?_
 refine hgE 12 [oh0,oh0] [0,4,5] [] [] [.code [1,0,1],.code [1,1]] ⟨[(0,sT s),(4,.bool false),(5,.bool u)],[],[],w.heap.size⟩ ?_
 rcases Bool.eq_false_or_eq_true (u) with d1 | d1
 ·skip
  refine hgE 11 [oh1,oh0,oh0,oh0,oh0] [0,4] [eD d1] [] [.code [1,0,1,0,1],.code [1,1]] ⟨[(0,sT s),(4,.bool ((s.size:Int) == 16))],[],[],w.heap.size⟩ ?_
  refine hrt [] [.bool ((s.size:Int) == 16)] [] ?_
  intro wx hm
  refine ⟨ret_bool ?_,hm.kept⟩
  unfold fitB
  rw [d1]
  rfl
 ·skip
  refine hgE 11 [oh0,oh0,oh0,oh0] [4] [eD d1] [] [.code [1,1,1]] ⟨[(4,.bool (ByteArray.toList s == ByteArray.toList ⟨#[]⟩))],[],[],w.heap.size⟩ ?_
  refine hrt [] [.bool (ByteArray.toList s == ByteArray.toList ⟨#[]⟩)] [] ?_
  intro wx hm
  refine ⟨ret_bool ?_,hm.kept⟩
  unfold fitB
  rw [d1]
  exact empty_size s
theorem not_turned {w W:World} {S:Nat → Prop} {bk:List Bk} {wn:List Wn} {z D:Nat} {ds:List Deferred} (hm:MemOk w S bk wn z W) (hD:W.heap[D]? = some (.deferred (some ds))):¬ Turned bk D:=by
 rintro ⟨b,hb,_,he⟩
 have h1:=hm.blk b hb
 unfold Blk at h1
 rw [he,hD] at h1
 cases h1
theorem range_kept {w W w':World} {S S':Nat → Prop} {bk:List Bk} {wn:List Wn} {z:Nat} (hm:MemOk w S bk wn z W) (hk:Kept S' W w') (hs:∀ k,k < w.heap.size → S' k → S k):Kept S w w':=hm.kept.trans hk hs
theorem MemOk.here {w0 w:World} {S:Nat → Prop} {bk:List Bk} {wn:List Wn} {sz:Nat} (hm:MemOk w0 S bk wn sz w):MemOk w0 S bk wn w.heap.size w:=by
 have h:=hm.size
 subst h
 exact hm
def numV (r:RecM):Nat → Int
 | 0=>r.fence
 | 1=>r.de
 | 2=>r.ds
 | 3=>r.ie
 | _=>r.is
theorem numV_is (r:RecM) (x:Nat):(numOff x = 1 ∧ numV r x = r.fence) ∨ (numOff x = 2 ∧ numV r x = r.de) ∨ (numOff x = 3 ∧ numV r x = r.ds) ∨ (numOff x = 6 ∧ numV r x = r.ie) ∨ (numOff x = 7 ∧ numV r x = r.is):=by
 match x with
 | 0=>exact .inl ⟨rfl,rfl⟩
 | 1=>exact .inr (.inl ⟨rfl,rfl⟩)
 | 2=>exact .inr (.inr (.inl ⟨rfl,rfl⟩))
 | 3=>exact .inr (.inr (.inr (.inl ⟨rfl,rfl⟩)))
 | _ + 4=>exact .inr (.inr (.inr (.inr ⟨rfl,rfl⟩)))
theorem n24_not {n:Int} (h:n < 0 ∨ n > 16777215):n24 n = false:=by
 cases e:n24 n with
 | false=>rfl
 | true=>
  have:=(n24_iff n).1 e
  omega
theorem all_snoc {p:Nat → Prop} {pre:List Nat} {x:Nat} (h:∀ y ∈ pre,p y) (hx:p x):∀ y ∈ pre ++ [x],p y:=by
 intro y hy
 rcases List.mem_append.1 hy with h1 | h1
 ·exact h y h1
 ·obtain rfl:=List.mem_singleton.1 h1
  exact hx
theorem okB_nums {r:RecM} {x:Nat} (h:n24 (numV r x) = false):okB r = false:=by
 rcases numV_is r x with ⟨_,e⟩ | ⟨_,e⟩ | ⟨_,e⟩ | ⟨_,e⟩ | ⟨_,e⟩ <;> rw [e] at h <;> simp [okB,h]
def sr_v1 (r:RecM):List Value:=[.bool r.used,i6 r.fence,i6 r.de,i6 r.ds,sT r.block,.bool r.op,i6 r.ie,i6 r.is,i6 r.mask,sT r.staged]
def sr_n1:List Nat:=[1,0,1,0,1,0,1,0,1]
def sr_n2:List OH:=[oh1,oh1,oh1,oh1,oh0,oh0,oh0,oh0,oh1,oh3,⟨false,0,[⟨false,1,0,1⟩]⟩]
def sr_n3:List OH:=[oh1,⟨false,0,[⟨false,1,0,1⟩]⟩]
@[simp] def sr_b1 (r:RecM) (w:World):List Bk:=[⟨w.heap.size,25,true,(sr_v1 r)⟩,⟨w.heap.size + 1,4,true,[.bool false]⟩,⟨w.heap.size + 2,79,false,[(pt w.heap.size 0)]⟩]
theorem sr_r22 (r:RecM) (w:World):resL Try.prog [] (sr_b1 r w) [(1,(pt w.heap.size 0)),(2,(pt (w.heap.size + 1) 0))] Try.f16.results.toList [[⟨false,1,0,1⟩]] = some ([.bool false],dupR [(w.heap.size + 1,0,1)]):=by kernel_rfl
theorem sr_r25 (r:RecM) (w:World):resL Try.prog [] (sr_b1 r w) [(1,(pt w.heap.size 0)),(2,(pt (w.heap.size + 1) 0))] Try.f16.results.toList [[⟨false,1,0,1⟩]] = some ([.bool false],dupR [(w.heap.size + 1,0,1)]):=by kernel_rfl
theorem sr_r35 (r:RecM) (w:World) (z30:Nat):resL Try.prog [] [⟨w.heap.size,25,true,(sr_v1 r)⟩,⟨w.heap.size + 1,4,true,[.bool true]⟩,⟨w.heap.size + 2,79,false,[(pt w.heap.size 0)]⟩,⟨z30,23,true,[i6 0,i6 0]⟩] [(2,(pt (w.heap.size + 1) 0))] Try.f16.results.toList [[⟨false,1,0,1⟩]] = some ([.bool true],dupR [(w.heap.size + 1,0,1)]):=by kernel_rfl
theorem sr_r37 (r:RecM) (w:World) (z30:Nat):resL Try.prog [] [⟨w.heap.size,25,true,(sr_v1 r)⟩,⟨w.heap.size + 1,4,true,[.bool false]⟩,⟨w.heap.size + 2,79,false,[(pt w.heap.size 0)]⟩,⟨z30,23,true,[i6 0,i6 0]⟩] [(2,(pt (w.heap.size + 1) 0))] Try.f16.results.toList [[⟨false,1,0,1⟩]] = some ([.bool false],dupR [(w.heap.size + 1,0,1)]):=by kernel_rfl
theorem sr_r41 (r:RecM) (w:World) (z30:Nat):resL Try.prog [] [⟨w.heap.size,25,true,(sr_v1 r)⟩,⟨w.heap.size + 1,4,true,[.bool false]⟩,⟨w.heap.size + 2,79,false,[(pt w.heap.size 0)]⟩,⟨z30,23,true,[i6 0,i6 0]⟩] [(1,(pt w.heap.size 0)),(2,(pt (w.heap.size + 1) 0)),(4,(pt z30 0))] Try.f16.results.toList [[⟨false,1,0,1⟩]] = some ([.bool false],dupR [(w.heap.size + 1,0,1)]):=by kernel_rfl
theorem sr_r44 (r:RecM) (w:World) (z30:Nat):resL Try.prog [] [⟨w.heap.size,25,true,(sr_v1 r)⟩,⟨w.heap.size + 1,4,true,[.bool true]⟩,⟨w.heap.size + 2,79,false,[(pt w.heap.size 0)]⟩,⟨z30,23,true,[i6 0,i6 0]⟩] [(2,(pt (w.heap.size + 1) 0))] Try.f16.results.toList [[⟨false,1,0,1⟩]] = some ([.bool true],dupR [(w.heap.size + 1,0,1)]):=by kernel_rfl
theorem sr_r46 (r:RecM) (w:World) (z30:Nat):resL Try.prog [] [⟨w.heap.size,25,true,(sr_v1 r)⟩,⟨w.heap.size + 1,4,true,[.bool (((r.de:Int) == 0) && (((r.ds:Int) == 0) && true))]⟩,⟨w.heap.size + 2,79,false,[(pt w.heap.size 0)]⟩,⟨z30,23,true,[i6 0,i6 0]⟩] [(2,(pt (w.heap.size + 1) 0))] Try.f16.results.toList [[⟨false,1,0,1⟩]] = some ([.bool (((r.de:Int) == 0) && (((r.ds:Int) == 0) && true))],dupR [(w.heap.size + 1,0,1)]):=by kernel_rfl
theorem sr_r48 (r:RecM) (w:World) (z30:Nat):resL Try.prog [] [⟨w.heap.size,25,true,(sr_v1 r)⟩,⟨w.heap.size + 1,4,true,[.bool false]⟩,⟨w.heap.size + 2,79,false,[(pt w.heap.size 0)]⟩,⟨z30,23,true,[i6 0,i6 0]⟩] [(1,(pt w.heap.size 0)),(2,(pt (w.heap.size + 1) 0)),(4,(pt z30 0))] Try.f16.results.toList [[⟨false,1,0,1⟩]] = some ([.bool false],dupR [(w.heap.size + 1,0,1)]):=by kernel_rfl
theorem sr_r50 (r:RecM) (w:World):resL Try.prog [] (sr_b1 r w) [(1,(pt w.heap.size 0)),(2,(pt (w.heap.size + 1) 0))] Try.f16.results.toList [[⟨false,1,0,1⟩]] = some ([.bool false],dupR [(w.heap.size + 1,0,1)]):=by kernel_rfl
theorem sr_r52 (r:RecM) (w:World):resL Try.prog [] (sr_b1 r w) [(1,(pt w.heap.size 0)),(2,(pt (w.heap.size + 1) 0))] Try.f16.results.toList [[⟨false,1,0,1⟩]] = some ([.bool false],dupR [(w.heap.size + 1,0,1)]):=by kernel_rfl
set_option maxRecDepth 100000 in
set_option maxHeartbeats 4000000 in
theorem right_any (r:RecM) (w:World) :
  Calls Try.prog 16 #[.agg #[.bool r.used,.int .i64 r.fence,.int .i64 r.de,.int .i64 r.ds,.string r.block,.bool r.op,.int .i64 r.ie,.int .i64 r.is,.int .i64 r.mask,.string r.staged]] w (RetK (.bool (okB r)) w):=by
 refine calls_of_holdsM (m:=5) (S:=(fun _=>False)) (l:=[.agg (List.toArray (sr_v1 r))]) (n:=67) Try.func16 (body_of (by kernel_rfl)) rfl (by simp) (MemOk.none w _) ?_
 refine hgE 11 [oh0,oh0] [1,2] [] [] [.ops [1,0,0] [0],.code [1,0,1],.code [1,1]] ⟨[(1,(pt w.heap.size 0)),(2,(pt (w.heap.size + 1) 0))],[⟨w.heap.size,25,true,(sr_v1 r)⟩,⟨w.heap.size + 1,4,true,[.bool false]⟩],[],w.heap.size + 2⟩ ?_
 refine holds_callM (.func (.func 68) #[] #[(pt (w.heap.size + 2) 0)]) (sr_b1 r w) (show _ = some (46,[(pt w.heap.size 0)],some 5,[]) by kernel_rfl) tI rfl (fun wx hm=>?_) fun z2 hz2=>?_
 ·refine (nums_any _ wx).mono fun e w' he=>?_
  obtain ⟨h7,h8,h9⟩:=he
  rw [hm.size] at h7 h8
  exact ⟨h7,hm.add h9 [⟨w.heap.size + 2,79,false,[(pt w.heap.size 0)]⟩] ⟨h8,trivial⟩ (by simp) (by simp)⟩
 replace hz2:w.heap.size + 2 ≤ z2:=hz2
 refine hgE 5 [] [1,2,5] [] [] [.code [1,0,1,0],.blk 0,.code [1,1]] ⟨[(1,(pt w.heap.size 0)),(2,(pt (w.heap.size + 1) 0)),(5,.func (.func 68) #[] #[(pt (w.heap.size + 2) 0)])],(sr_b1 r w),[],z2⟩ ?_
 refine holds_range (α:=Nat) (wn:=[]) (Bn:=w.heap.size + 2) (N:=5) (enc:=fun i=>.pointer (some ⟨w.heap.size,numOff i,none⟩)) (Sq:=fun xs=>xs = [0,1,2,3,4]) (Spq:=NumsSp) rfl rfl (enters_of Try.func68 (by kernel_rfl) rfl) (fun wx hm=>hm.size ▸ (hm.at_ 2 rfl).lt) (by rintro ⟨b,hb,hr,he⟩; simp at hb; rcases hb with rfl | rfl | rfl <;> simp at he hr) (fun wx hm=>nums_stops _ _ _ wx (hm.at_ 2 rfl))
  (fun pre=>∀ x ∈ pre,n24 (numV r x) = true) (fun pre=>∃ x ∈ pre,n24 (numV r x) = false) (fun _=>(sr_b1 r w)) (fun _=>(sr_b1 r w)) rfl (by simp) (fun _=>rfl) (fun _=>rfl) (fun x=>[(3,.pointer (some ⟨w.heap.size,numOff x,none⟩)),(6,.pointer (some ⟨w.heap.size,numOff x,none⟩)),(1,(pt w.heap.size 0)),(2,(pt (w.heap.size + 1) 0)),(5,.func (.func 68) #[] #[(pt (w.heap.size + 2) 0)])]) (fun x=>[(6,.pointer (some ⟨w.heap.size,numOff x,none⟩)),(1,(pt w.heap.size 0)),(2,(pt (w.heap.size + 1) 0)),(5,.func (.func 68) #[] #[(pt (w.heap.size + 2) 0)])]) (fun _=>rfl) ?_ ?_ ?_ ?_
 ·intro x l W
  refine hgER (fun _=>tI) 6 [oh0] [3,6,1,2,5] [] [] [] ⟨[(3,.pointer (some ⟨w.heap.size,numOff x,none⟩)),(6,.pointer (some ⟨w.heap.size,numOff x,none⟩)),(1,(pt w.heap.size 0)),(2,(pt (w.heap.size + 1) 0)),(5,.func (.func 68) #[] #[(pt (w.heap.size + 2) 0)])],[],[],W.heap.size⟩ ?_
  exact holdsR_end (fun a wx hf hm=>⟨rfl,hm.kept,hf⟩)
 ·intro l pre x W Z hZ hI _
  have hx:(numOff x = 1 ∧ numV r x = r.fence) ∨ (numOff x = 2 ∧ numV r x = r.de) ∨ (numOff x = 3 ∧ numV r x = r.ds) ∨ (numOff x = 6 ∧ numV r x = r.ie) ∨ (numOff x = 7 ∧ numV r x = r.is):=numV_is r x
  rcases hx with ⟨hx,hv⟩ | ⟨hx,hv⟩ | ⟨hx,hv⟩ | ⟨hx,hv⟩ | ⟨hx,hv⟩ <;> rw [hx]
  ·skip
   by_cases hlo:r.fence < 0
   ·skip
    refine hgER (fun _=>tI) 22 [oh0,oh0,(oA 0 1 1),oh0,oh0,oh1,oh1,oh1,oh1,oh3,oh1,(oA 1 0 1)] [2] [oE ((decide ((r.fence:Int) < 0)) = true) (decide_eq_true hlo),oE ((decide ((r.fence:Int) < 0)) = true) (decide_eq_true hlo),oE ((decide ((r.fence:Int) < 0)) = true) (decide_eq_true hlo),oE ((decide ((r.fence:Int) < 0)) = true) (decide_eq_true hlo),oE ((decide ((r.fence:Int) < 0)) = true) (decide_eq_true hlo),tT] [(w.heap.size,1,1),(w.heap.size + 1,0,1)] [.code sr_n1,.blk 1] ⟨[(2,(pt (w.heap.size + 1) 0))],(sr_b1 r w),[],Z⟩ ?_
    exact holdsR_ret (by kernel_rfl) (fun a wx hf hm=>.inr ⟨rfl,⟨x,by simp,by rw [hv]; exact n24_not (by omega)⟩,hm.here⟩)
   ·skip
    by_cases hhi:r.fence > 16777215
    ·skip
     refine hgER (fun _=>tI) 22 [oh0,oh0,(oA 0 1 1),oh0,oh0,oh0,oh0,(oA 0 1 1),oh0,⟨false,3,[]⟩,oh1,(oA 1 0 1)] [2] [oE ((decide ((r.fence:Int) < 0)) = false) (decide_eq_false hlo),oE ((decide ((r.fence:Int) < 0)) = false) (decide_eq_false hlo),oE ((decide ((r.fence:Int) < 0)) = false) (decide_eq_false hlo),oE ((decide ((r.fence:Int) < 0)) = false) (decide_eq_false hlo),oE ((decide ((r.fence:Int) < 0)) = false) (decide_eq_false hlo),oE ((decide ((r.fence:Int) > 16777215)) = true) (decide_eq_true hhi)] [(w.heap.size,1,1),(w.heap.size,1,1),(w.heap.size + 1,0,1)] [.code sr_n1,.blk 1] ⟨[(2,(pt (w.heap.size + 1) 0))],(sr_b1 r w),[],Z⟩ ?_
     exact holdsR_ret (by kernel_rfl) (fun a wx hf hm=>.inr ⟨rfl,⟨x,by simp,by rw [hv]; exact n24_not (by omega)⟩,hm.here⟩)
    ·skip
     refine hgER (fun _=>tI) 20 [oh0,oh0,(oA 0 1 1),oh0,oh0,oh0,oh0,(oA 0 1 1),oh0,⟨false,3,[]⟩,oh0] [2] [oE ((decide ((r.fence:Int) < 0)) = false) (decide_eq_false hlo),oE ((decide ((r.fence:Int) < 0)) = false) (decide_eq_false hlo),oE ((decide ((r.fence:Int) < 0)) = false) (decide_eq_false hlo),oE ((decide ((r.fence:Int) < 0)) = false) (decide_eq_false hlo),oE ((decide ((r.fence:Int) < 0)) = false) (decide_eq_false hlo),oE ((decide ((r.fence:Int) > 16777215)) = false) (decide_eq_false hhi)] [(w.heap.size,1,1),(w.heap.size,1,1)] [] ⟨[(2,(pt (w.heap.size + 1) 0))],(sr_b1 r w),[],Z⟩ ?_
     exact holdsR_end (fun a wx hf hm=>.inl ⟨rfl,all_snoc hI (by rw [hv]; exact (n24_iff _).2 (by omega)),hm.here⟩)
  ·skip
   by_cases hlo:r.de < 0
   ·skip
    refine hgER (fun _=>tI) 22 [oh0,oh0,(oA 0 2 1),oh0,oh0,oh1,oh1,oh1,oh1,oh3,oh1,(oA 1 0 1)] [2] [oE ((decide ((r.de:Int) < 0)) = true) (decide_eq_true hlo),oE ((decide ((r.de:Int) < 0)) = true) (decide_eq_true hlo),oE ((decide ((r.de:Int) < 0)) = true) (decide_eq_true hlo),oE ((decide ((r.de:Int) < 0)) = true) (decide_eq_true hlo),oE ((decide ((r.de:Int) < 0)) = true) (decide_eq_true hlo),tT] [(w.heap.size,2,1),(w.heap.size + 1,0,1)] [.code sr_n1,.blk 1] ⟨[(2,(pt (w.heap.size + 1) 0))],(sr_b1 r w),[],Z⟩ ?_
    exact holdsR_ret (by kernel_rfl) (fun a wx hf hm=>.inr ⟨rfl,⟨x,by simp,by rw [hv]; exact n24_not (by omega)⟩,hm.here⟩)
   ·skip
    by_cases hhi:r.de > 16777215
    ·skip
     refine hgER (fun _=>tI) 22 [oh0,oh0,(oA 0 2 1),oh0,oh0,oh0,oh0,(oA 0 2 1),oh0,⟨false,3,[]⟩,oh1,(oA 1 0 1)] [2] [oE ((decide ((r.de:Int) < 0)) = false) (decide_eq_false hlo),oE ((decide ((r.de:Int) < 0)) = false) (decide_eq_false hlo),oE ((decide ((r.de:Int) < 0)) = false) (decide_eq_false hlo),oE ((decide ((r.de:Int) < 0)) = false) (decide_eq_false hlo),oE ((decide ((r.de:Int) < 0)) = false) (decide_eq_false hlo),oE ((decide ((r.de:Int) > 16777215)) = true) (decide_eq_true hhi)] [(w.heap.size,2,1),(w.heap.size,2,1),(w.heap.size + 1,0,1)] [.code sr_n1,.blk 1] ⟨[(2,(pt (w.heap.size + 1) 0))],(sr_b1 r w),[],Z⟩ ?_
     exact holdsR_ret (by kernel_rfl) (fun a wx hf hm=>.inr ⟨rfl,⟨x,by simp,by rw [hv]; exact n24_not (by omega)⟩,hm.here⟩)
    ·skip
     refine hgER (fun _=>tI) 20 [oh0,oh0,(oA 0 2 1),oh0,oh0,oh0,oh0,(oA 0 2 1),oh0,⟨false,3,[]⟩,oh0] [2] [oE ((decide ((r.de:Int) < 0)) = false) (decide_eq_false hlo),oE ((decide ((r.de:Int) < 0)) = false) (decide_eq_false hlo),oE ((decide ((r.de:Int) < 0)) = false) (decide_eq_false hlo),oE ((decide ((r.de:Int) < 0)) = false) (decide_eq_false hlo),oE ((decide ((r.de:Int) < 0)) = false) (decide_eq_false hlo),oE ((decide ((r.de:Int) > 16777215)) = false) (decide_eq_false hhi)] [(w.heap.size,2,1),(w.heap.size,2,1)] [] ⟨[(2,(pt (w.heap.size + 1) 0))],(sr_b1 r w),[],Z⟩ ?_
     exact holdsR_end (fun a wx hf hm=>.inl ⟨rfl,all_snoc hI (by rw [hv]; exact (n24_iff _).2 (by omega)),hm.here⟩)
  ·skip
   by_cases hlo:r.ds < 0
   ·skip
    refine hgER (fun _=>tI) 22 [oh0,oh0,(oA 0 3 1),oh0,oh0,oh1,oh1,oh1,oh1,oh3,oh1,(oA 1 0 1)] [2] [oE ((decide ((r.ds:Int) < 0)) = true) (decide_eq_true hlo),oE ((decide ((r.ds:Int) < 0)) = true) (decide_eq_true hlo),oE ((decide ((r.ds:Int) < 0)) = true) (decide_eq_true hlo),oE ((decide ((r.ds:Int) < 0)) = true) (decide_eq_true hlo),oE ((decide ((r.ds:Int) < 0)) = true) (decide_eq_true hlo),tT] [(w.heap.size,3,1),(w.heap.size + 1,0,1)] [.code sr_n1,.blk 1] ⟨[(2,(pt (w.heap.size + 1) 0))],(sr_b1 r w),[],Z⟩ ?_
    exact holdsR_ret (by kernel_rfl) (fun a wx hf hm=>.inr ⟨rfl,⟨x,by simp,by rw [hv]; exact n24_not (by omega)⟩,hm.here⟩)
   ·skip
    by_cases hhi:r.ds > 16777215
    ·skip
     refine hgER (fun _=>tI) 22 [oh0,oh0,(oA 0 3 1),oh0,oh0,oh0,oh0,(oA 0 3 1),oh0,⟨false,3,[]⟩,oh1,(oA 1 0 1)] [2] [oE ((decide ((r.ds:Int) < 0)) = false) (decide_eq_false hlo),oE ((decide ((r.ds:Int) < 0)) = false) (decide_eq_false hlo),oE ((decide ((r.ds:Int) < 0)) = false) (decide_eq_false hlo),oE ((decide ((r.ds:Int) < 0)) = false) (decide_eq_false hlo),oE ((decide ((r.ds:Int) < 0)) = false) (decide_eq_false hlo),oE ((decide ((r.ds:Int) > 16777215)) = true) (decide_eq_true hhi)] [(w.heap.size,3,1),(w.heap.size,3,1),(w.heap.size + 1,0,1)] [.code sr_n1,.blk 1] ⟨[(2,(pt (w.heap.size + 1) 0))],(sr_b1 r w),[],Z⟩ ?_
     exact holdsR_ret (by kernel_rfl) (fun a wx hf hm=>.inr ⟨rfl,⟨x,by simp,by rw [hv]; exact n24_not (by omega)⟩,hm.here⟩)
    ·skip
     refine hgER (fun _=>tI) 20 [oh0,oh0,(oA 0 3 1),oh0,oh0,oh0,oh0,(oA 0 3 1),oh0,⟨false,3,[]⟩,oh0] [2] [oE ((decide ((r.ds:Int) < 0)) = false) (decide_eq_false hlo),oE ((decide ((r.ds:Int) < 0)) = false) (decide_eq_false hlo),oE ((decide ((r.ds:Int) < 0)) = false) (decide_eq_false hlo),oE ((decide ((r.ds:Int) < 0)) = false) (decide_eq_false hlo),oE ((decide ((r.ds:Int) < 0)) = false) (decide_eq_false hlo),oE ((decide ((r.ds:Int) > 16777215)) = false) (decide_eq_false hhi)] [(w.heap.size,3,1),(w.heap.size,3,1)] [] ⟨[(2,(pt (w.heap.size + 1) 0))],(sr_b1 r w),[],Z⟩ ?_
     exact holdsR_end (fun a wx hf hm=>.inl ⟨rfl,all_snoc hI (by rw [hv]; exact (n24_iff _).2 (by omega)),hm.here⟩)
  ·skip
   by_cases hlo:r.ie < 0
   ·skip
    refine hgER (fun _=>tI) 22 [oh0,oh0,(oA 0 6 1),oh0,oh0,oh1,oh1,oh1,oh1,oh3,oh1,(oA 1 0 1)] [2] [oE ((decide ((r.ie:Int) < 0)) = true) (decide_eq_true hlo),oE ((decide ((r.ie:Int) < 0)) = true) (decide_eq_true hlo),oE ((decide ((r.ie:Int) < 0)) = true) (decide_eq_true hlo),oE ((decide ((r.ie:Int) < 0)) = true) (decide_eq_true hlo),oE ((decide ((r.ie:Int) < 0)) = true) (decide_eq_true hlo),tT] [(w.heap.size,6,1),(w.heap.size + 1,0,1)] [.code sr_n1,.blk 1] ⟨[(2,(pt (w.heap.size + 1) 0))],(sr_b1 r w),[],Z⟩ ?_
    exact holdsR_ret (by kernel_rfl) (fun a wx hf hm=>.inr ⟨rfl,⟨x,by simp,by rw [hv]; exact n24_not (by omega)⟩,hm.here⟩)
   ·skip
    by_cases hhi:r.ie > 16777215
    ·skip
     refine hgER (fun _=>tI) 22 [oh0,oh0,(oA 0 6 1),oh0,oh0,oh0,oh0,(oA 0 6 1),oh0,⟨false,3,[]⟩,oh1,(oA 1 0 1)] [2] [oE ((decide ((r.ie:Int) < 0)) = false) (decide_eq_false hlo),oE ((decide ((r.ie:Int) < 0)) = false) (decide_eq_false hlo),oE ((decide ((r.ie:Int) < 0)) = false) (decide_eq_false hlo),oE ((decide ((r.ie:Int) < 0)) = false) (decide_eq_false hlo),oE ((decide ((r.ie:Int) < 0)) = false) (decide_eq_false hlo),oE ((decide ((r.ie:Int) > 16777215)) = true) (decide_eq_true hhi)] [(w.heap.size,6,1),(w.heap.size,6,1),(w.heap.size + 1,0,1)] [.code sr_n1,.blk 1] ⟨[(2,(pt (w.heap.size + 1) 0))],(sr_b1 r w),[],Z⟩ ?_
     exact holdsR_ret (by kernel_rfl) (fun a wx hf hm=>.inr ⟨rfl,⟨x,by simp,by rw [hv]; exact n24_not (by omega)⟩,hm.here⟩)
    ·skip
     refine hgER (fun _=>tI) 20 [oh0,oh0,(oA 0 6 1),oh0,oh0,oh0,oh0,(oA 0 6 1),oh0,⟨false,3,[]⟩,oh0] [2] [oE ((decide ((r.ie:Int) < 0)) = false) (decide_eq_false hlo),oE ((decide ((r.ie:Int) < 0)) = false) (decide_eq_false hlo),oE ((decide ((r.ie:Int) < 0)) = false) (decide_eq_false hlo),oE ((decide ((r.ie:Int) < 0)) = false) (decide_eq_false hlo),oE ((decide ((r.ie:Int) < 0)) = false) (decide_eq_false hlo),oE ((decide ((r.ie:Int) > 16777215)) = false) (decide_eq_false hhi)] [(w.heap.size,6,1),(w.heap.size,6,1)] [] ⟨[(2,(pt (w.heap.size + 1) 0))],(sr_b1 r w),[],Z⟩ ?_
     exact holdsR_end (fun a wx hf hm=>.inl ⟨rfl,all_snoc hI (by rw [hv]; exact (n24_iff _).2 (by omega)),hm.here⟩)
  ·skip
   by_cases hlo:r.is < 0
   ·skip
    refine hgER (fun _=>tI) 22 [oh0,oh0,(oA 0 7 1),oh0,oh0,oh1,oh1,oh1,oh1,oh3,oh1,(oA 1 0 1)] [2] [oE ((decide ((r.is:Int) < 0)) = true) (decide_eq_true hlo),oE ((decide ((r.is:Int) < 0)) = true) (decide_eq_true hlo),oE ((decide ((r.is:Int) < 0)) = true) (decide_eq_true hlo),oE ((decide ((r.is:Int) < 0)) = true) (decide_eq_true hlo),oE ((decide ((r.is:Int) < 0)) = true) (decide_eq_true hlo),tT] [(w.heap.size,7,1),(w.heap.size + 1,0,1)] [.code sr_n1,.blk 1] ⟨[(2,(pt (w.heap.size + 1) 0))],(sr_b1 r w),[],Z⟩ ?_
    exact holdsR_ret (by kernel_rfl) (fun a wx hf hm=>.inr ⟨rfl,⟨x,by simp,by rw [hv]; exact n24_not (by omega)⟩,hm.here⟩)
   ·skip
    by_cases hhi:r.is > 16777215
    ·skip
     refine hgER (fun _=>tI) 22 [oh0,oh0,(oA 0 7 1),oh0,oh0,oh0,oh0,(oA 0 7 1),oh0,⟨false,3,[]⟩,oh1,(oA 1 0 1)] [2] [oE ((decide ((r.is:Int) < 0)) = false) (decide_eq_false hlo),oE ((decide ((r.is:Int) < 0)) = false) (decide_eq_false hlo),oE ((decide ((r.is:Int) < 0)) = false) (decide_eq_false hlo),oE ((decide ((r.is:Int) < 0)) = false) (decide_eq_false hlo),oE ((decide ((r.is:Int) < 0)) = false) (decide_eq_false hlo),oE ((decide ((r.is:Int) > 16777215)) = true) (decide_eq_true hhi)] [(w.heap.size,7,1),(w.heap.size,7,1),(w.heap.size + 1,0,1)] [.code sr_n1,.blk 1] ⟨[(2,(pt (w.heap.size + 1) 0))],(sr_b1 r w),[],Z⟩ ?_
     exact holdsR_ret (by kernel_rfl) (fun a wx hf hm=>.inr ⟨rfl,⟨x,by simp,by rw [hv]; exact n24_not (by omega)⟩,hm.here⟩)
    ·skip
     refine hgER (fun _=>tI) 20 [oh0,oh0,(oA 0 7 1),oh0,oh0,oh0,oh0,(oA 0 7 1),oh0,⟨false,3,[]⟩,oh0] [2] [oE ((decide ((r.is:Int) < 0)) = false) (decide_eq_false hlo),oE ((decide ((r.is:Int) < 0)) = false) (decide_eq_false hlo),oE ((decide ((r.is:Int) < 0)) = false) (decide_eq_false hlo),oE ((decide ((r.is:Int) < 0)) = false) (decide_eq_false hlo),oE ((decide ((r.is:Int) < 0)) = false) (decide_eq_false hlo),oE ((decide ((r.is:Int) > 16777215)) = false) (decide_eq_false hhi)] [(w.heap.size,7,1),(w.heap.size,7,1)] [] ⟨[(2,(pt (w.heap.size + 1) 0))],(sr_b1 r w),[],Z⟩ ?_
     exact holdsR_end (fun a wx hf hm=>.inl ⟨rfl,all_snoc hI (by rw [hv]; exact (n24_iff _).2 (by omega)),hm.here⟩)
 ·rintro D xs W rfl hI hmW hD hW hK
  have hKT:¬ Turned (sr_b1 r w) D:=not_turned hmW hK
  have n0:n24 r.fence = true:=hI 0 (by simp)
  have n1:n24 r.de = true:=hI 1 (by simp)
  have n2:n24 r.ds = true:=hI 2 (by simp)
  have n3:n24 r.ie = true:=hI 3 (by simp)
  have n4:n24 r.is = true:=hI 4 (by simp)
  refine hgE 11 [oh0,(oA 0 8 1),oh0,oh0] [1,2,20] [] [(w.heap.size,8,1)] [.ops [1,1,0,0] [4,5,6,7],.code [1,1,0,1],.code [1,1,1]] ⟨[(1,(pt w.heap.size 0)),(2,(pt (w.heap.size + 1) 0)),(20,.bool (decide ((r.mask:Int) < 0)))],(sr_b1 r w),[],W.heap.size⟩ ?_
  rcases Bool.eq_false_or_eq_true (decide ((r.mask:Int) < 0)) with d1 | d1
  ·skip
   refine hgE 13 [oh1,oh1,oh1,oh3,oh1,(oA 1 0 1)] [1,2] [eD d1,eD d1,eD d1,eD d1,tT] [(w.heap.size + 1,0,1)] [.code [1,1,0,1,0,1],.code [1,1,1]] ⟨[(1,(pt w.heap.size 0)),(2,(pt (w.heap.size + 1) 0))],(sr_b1 r w),[],W.heap.size⟩ ?_
   refine holds_retM [[⟨false,1,0,1⟩]] (Array.getElem?_eq_some_iff.1 hK).1 hK hKT (by kernel_rfl) (sr_r22 r w) (fun wx hm=>?_)
   refine ⟨ret_bool ?_,range_kept hmW hm.kept (fun k hk hT=>?_)⟩
   ·unfold okB tagB
    rw [n0,n1,n2,n3,n4]
    clear hm hmW hKT hK hI hD hW
    simp_all
   rcases hT with ⟨b,hb,hr,he⟩ | rfl
   ·simp at hb; rcases hb with rfl | rfl | rfl <;> simp at he hr <;> omega
   ·omega
  ·skip
   refine hgE 8 [oh0,(oA 0 8 1),oh0,⟨false,3,[]⟩] [1,2,24] [eD d1,eD d1,eD d1,eD d1] [(w.heap.size,8,1)] [.code [1,1,0,1],.code [1,1,1]] ⟨[(1,(pt w.heap.size 0)),(2,(pt (w.heap.size + 1) 0)),(24,.bool (decide ((r.mask:Int) > 63)))],(sr_b1 r w),[],W.heap.size⟩ ?_
   rcases Bool.eq_false_or_eq_true (decide ((r.mask:Int) > 63)) with d2 | d2
   ·skip
    refine hgE 8 sr_n3 [1,2] [eD d2] [(w.heap.size + 1,0,1)] [.code [1,1,0,1,0,1],.code [1,1,1]] ⟨[(1,(pt w.heap.size 0)),(2,(pt (w.heap.size + 1) 0))],(sr_b1 r w),[],W.heap.size⟩ ?_
    refine holds_retM [[⟨false,1,0,1⟩]] (Array.getElem?_eq_some_iff.1 hK).1 hK hKT (by kernel_rfl) (sr_r25 r w) (fun wx hm=>?_)
    refine ⟨ret_bool ?_,range_kept hmW hm.kept (fun k hk hT=>?_)⟩
    ·unfold okB tagB
     rw [n0,n1,n2,n3,n4]
     clear hm hmW hKT hK hI hD hW
     simp_all
    rcases hT with ⟨b,hb,hr,he⟩ | rfl
    ·simp at hb; rcases hb with rfl | rfl | rfl <;> simp at he hr <;> omega
    ·omega
   ·skip
    refine hgE 12 [oh0,oh0,(oA 0 4 1),oh0,(oA 0 0 1)] [1,2,26,28] [eD d2] [(w.heap.size,4,1),(w.heap.size,0,1)] [.ops [1,1,1,0,0] [4,5,6,7,8,9,10,11,12,13],.code [1,1,1,0,1],.code [1,1,1,1]] ⟨[(1,(pt w.heap.size 0)),(2,(pt (w.heap.size + 1) 0)),(26,sT r.block),(28,.bool r.used)],(sr_b1 r w),[],W.heap.size⟩ ?_
    refine hcp (.bool (fitB r.block r.used)) 53 [sT r.block,.bool r.used] (some 29) [] tI rfl (fun wx hm=>fits_any _ _ wx) fun z27 hz27=>?_
    replace hz27:W.heap.size ≤ z27:=hz27
    refine hgE 5 [oh0,oh0] [1,2,31] [] [] [.ops [1,1,1,0,0] [7,8,9,10,11,12,13],.code [1,1,1,0,1],.code [1,1,1,1]] ⟨[(1,(pt w.heap.size 0)),(2,(pt (w.heap.size + 1) 0)),(31,.bool (!(fitB r.block r.used)))],(sr_b1 r w),[],z27⟩ ?_
    rcases Bool.eq_false_or_eq_true (fitB r.block r.used) with d3 | d3
    ·skip
     refine hgE 7 [oh0,(oA 0 9 1),oh0,(oA 0 5 1)] [1,2,31,33,35] [eD (nF d3),eD (nF d3),eD (nF d3),eD (nF d3)] [(w.heap.size,9,1),(w.heap.size,5,1)] [.ops [1,1,1,0,0] [11,12,13],.code [1,1,1,0,1],.code [1,1,1,1]] ⟨[(1,(pt w.heap.size 0)),(2,(pt (w.heap.size + 1) 0)),(31,.bool (!(fitB r.block r.used))),(33,sT r.staged),(35,.bool r.op)],(sr_b1 r w),[],z27⟩ ?_
     refine hcp (.bool (fitB r.staged r.op)) 53 [sT r.staged,.bool r.op] (some 36) [(!(fitB r.block r.used)) = false] ⟨(by rw [d3]; rfl),tI⟩ rfl (fun wx hm=>fits_any _ _ wx) fun z30 hz30=>?_
     replace hz30:z27 ≤ z30:=hz30
     refine hgE 6 [oh0,⟨false,3,[]⟩] [1,2,38] [eD (nF d3),eD (nF d3)] [] [.code [1,1,1,0,1],.code [1,1,1,1]] ⟨[(1,(pt w.heap.size 0)),(2,(pt (w.heap.size + 1) 0)),(38,.bool (!(fitB r.staged r.op)))],(sr_b1 r w),[],z30⟩ ?_
     rcases Bool.eq_false_or_eq_true (fitB r.staged r.op) with d4 | d4
     ·skip
      refine hgE 18 [oh0,oh0,oh0,(oA 3 0 2),oh0,(oA 0 5 1),oh0,oh0] [1,2,4,43] [eD (nF d4)] [(z30,0,2),(w.heap.size,5,1)] [.ops [1,1,1,1,1,0,0] [4,5,6,7,8,9,10,11,12,13],.code [1,1,1,1,1,0,1],.code [1,1,1,1,1,1]] ⟨[(1,(pt w.heap.size 0)),(2,(pt (w.heap.size + 1) 0)),(4,(pt z30 0)),(43,.bool (!r.op))],[⟨w.heap.size,25,true,(sr_v1 r)⟩,⟨w.heap.size + 1,4,true,[.bool false]⟩,⟨w.heap.size + 2,79,false,[(pt w.heap.size 0)]⟩,⟨z30,23,true,[i6 0,i6 0]⟩],[],z30 + 1⟩ ?_
      rcases Bool.eq_false_or_eq_true (r.op) with d5 | d5
      ·skip
       refine hgE 21 [oh0,oh0,oh0,oh0,oh0,oh0,oh0,oh0,oh0,⟨false,3,[]⟩,oh0,oh0,(oA 0 0 1),oh0] [1,2,4,56] [eD (nF d5),eD (nF d5),eD (nF d5),eD (nF d5),eD (nF d5),eD (nF d5),eD (nF d5),fF] [(w.heap.size,0,1)] [.ops [1,1,1,1,1,1,0] [3,4,5,6,7,8,9,10,11,12,13],.code [1,1,1,1,1,1,1]] ⟨[(1,(pt w.heap.size 0)),(2,(pt (w.heap.size + 1) 0)),(4,(pt z30 0)),(56,.bool r.used)],[⟨w.heap.size,25,true,(sr_v1 r)⟩,⟨w.heap.size + 1,4,true,[.bool false]⟩,⟨w.heap.size + 2,79,false,[(pt w.heap.size 0)]⟩,⟨z30,23,true,[i6 0,i6 0]⟩],[],z30 + 1⟩ ?_
       rcases Bool.eq_false_or_eq_true (r.used) with d6 | d6
       ·skip
        refine hgE 15 sr_n2 [2] [eD d6,eD d6,eD d6,eD d6,eD d6,eD d6] [(w.heap.size + 1,0,1)] [.code [1,1,1,1,1,1,1]] ⟨[(2,(pt (w.heap.size + 1) 0))],[⟨w.heap.size,25,true,(sr_v1 r)⟩,⟨w.heap.size + 1,4,true,[.bool true]⟩,⟨w.heap.size + 2,79,false,[(pt w.heap.size 0)]⟩,⟨z30,23,true,[i6 0,i6 0]⟩],[],z30 + 1⟩ ?_
        refine holds_retM [[⟨false,1,0,1⟩]] (Array.getElem?_eq_some_iff.1 hK).1 hK hKT (by kernel_rfl) (sr_r35 r w z30) (fun wx hm=>?_)
        refine ⟨ret_bool ?_,range_kept hmW hm.kept (fun k hk hT=>?_)⟩
        ·unfold okB tagB
         rw [n0,n1,n2,n3,n4,d4,d3]
         clear hm hmW hKT hK hI hD hW d3 d4
         simp_all
        rcases hT with ⟨b,hb,hr,he⟩ | rfl
        ·simp at hb; rcases hb with rfl | rfl | rfl <;> simp at he hr <;> omega
        ·omega
       ·skip
        refine hgE 15 [oh0,(oA 0 5 1),oh0,oh0,oh0,oh0,oh0,oh0,⟨false,3,[]⟩,⟨false,3,[]⟩,(oA 1 0 1)] [2] [eD d6,eD d6,eD d6,eD d6,eD (nF d5),eD (nF d5),eD (nF d5),eD (nF d5),eD d6,eD (nF d5),eD d6] [(w.heap.size,5,1),(w.heap.size + 1,0,1)] [.code [1,1,1,1,1,1,1]] ⟨[(2,(pt (w.heap.size + 1) 0))],[⟨w.heap.size,25,true,(sr_v1 r)⟩,⟨w.heap.size + 1,4,true,[.bool false]⟩,⟨w.heap.size + 2,79,false,[(pt w.heap.size 0)]⟩,⟨z30,23,true,[i6 0,i6 0]⟩],[],z30 + 1⟩ ?_
        refine holds_retM [[⟨false,1,0,1⟩]] (Array.getElem?_eq_some_iff.1 hK).1 hK hKT (by kernel_rfl) (sr_r37 r w z30) (fun wx hm=>?_)
        refine ⟨ret_bool ?_,range_kept hmW hm.kept (fun k hk hT=>?_)⟩
        ·unfold okB tagB
         rw [n0,n1,n2,n3,n4,d4,d3]
         clear hm hmW hKT hK hI hD hW d3 d4
         simp_all
        rcases hT with ⟨b,hb,hr,he⟩ | rfl
        ·simp at hb; rcases hb with rfl | rfl | rfl <;> simp at he hr <;> omega
        ·omega
      ·skip
       refine hgE 8 [oh1,⟨true,0,[⟨false,0,6,2⟩]⟩,⟨true,0,[⟨false,3,0,2⟩]⟩,⟨true,1,[]⟩,oh1] [1,2,4,43,48] [eD (nT d5),eD (nT d5),eD (nT d5),eD (nT d5),vV,eD (nT d5)] [(w.heap.size,6,2),(z30,0,2)] [.ops [1,1,1,1,1,0,0] [9,10,11,12,13],.code [1,1,1,1,1,0,1],.code [1,1,1,1,1,1]] ⟨[(1,(pt w.heap.size 0)),(2,(pt (w.heap.size + 1) 0)),(4,(pt z30 0)),(43,.bool (!r.op)),(48,.bool (!((((r.ie:Int) == 0) && (((r.is:Int) == 0) && true)))))],[⟨w.heap.size,25,true,(sr_v1 r)⟩,⟨w.heap.size + 1,4,true,[.bool false]⟩,⟨w.heap.size + 2,79,false,[(pt w.heap.size 0)]⟩,⟨z30,23,true,[i6 0,i6 0]⟩],[],z30 + 1⟩ ?_
       rcases Bool.eq_false_or_eq_true ((((r.ie:Int) == 0) && (((r.is:Int) == 0) && true))) with d7 | d7
       ·skip
        refine hgE 9 [oh0,(oA 0 8 1),oh0,⟨true,3,[]⟩,oh3] [1,2,4,53] [eD (nF d7),eD (nF d7),eD (nF d7),eD (nT d5),eD (nF d7),eD (nT d5)] [(w.heap.size,8,1)] [.code [1,1,1,1,1,0,1],.code [1,1,1,1,1,1]] ⟨[(1,(pt w.heap.size 0)),(2,(pt (w.heap.size + 1) 0)),(4,(pt z30 0)),(53,.bool (r.mask != 0))],[⟨w.heap.size,25,true,(sr_v1 r)⟩,⟨w.heap.size + 1,4,true,[.bool false]⟩,⟨w.heap.size + 2,79,false,[(pt w.heap.size 0)]⟩,⟨z30,23,true,[i6 0,i6 0]⟩],[],z30 + 1⟩ ?_
        rcases Bool.eq_false_or_eq_true (r.mask != 0) with d8 | d8
        ·skip
         refine hgE 8 sr_n3 [1,2,4] [eD d8] [(w.heap.size + 1,0,1)] [.code [1,1,1,1,1,0,1,0,1],.code [1,1,1,1,1,1]] ⟨[(1,(pt w.heap.size 0)),(2,(pt (w.heap.size + 1) 0)),(4,(pt z30 0))],[⟨w.heap.size,25,true,(sr_v1 r)⟩,⟨w.heap.size + 1,4,true,[.bool false]⟩,⟨w.heap.size + 2,79,false,[(pt w.heap.size 0)]⟩,⟨z30,23,true,[i6 0,i6 0]⟩],[],z30 + 1⟩ ?_
         refine holds_retM [[⟨false,1,0,1⟩]] (Array.getElem?_eq_some_iff.1 hK).1 hK hKT (by kernel_rfl) (sr_r41 r w z30) (fun wx hm=>?_)
         refine ⟨ret_bool ?_,range_kept hmW hm.kept (fun k hk hT=>?_)⟩
         ·unfold okB tagB
          rw [n0,n1,n2,n3,n4,d4,d3]
          clear hm hmW hKT hK hI hD hW d3 d4
          simp_all
         rcases hT with ⟨b,hb,hr,he⟩ | rfl
         ·simp at hb; rcases hb with rfl | rfl | rfl <;> simp at he hr <;> omega
         ·omega
        ·skip
         refine hgE 10 [oh0,oh0,(oA 0 0 1),oh0] [1,2,4,56] [eD d8] [(w.heap.size,0,1)] [.ops [1,1,1,1,1,1,0] [3,4,5,6,7,8,9,10,11,12,13],.code [1,1,1,1,1,1,1]] ⟨[(1,(pt w.heap.size 0)),(2,(pt (w.heap.size + 1) 0)),(4,(pt z30 0)),(56,.bool r.used)],[⟨w.heap.size,25,true,(sr_v1 r)⟩,⟨w.heap.size + 1,4,true,[.bool false]⟩,⟨w.heap.size + 2,79,false,[(pt w.heap.size 0)]⟩,⟨z30,23,true,[i6 0,i6 0]⟩],[],z30 + 1⟩ ?_
         rcases Bool.eq_false_or_eq_true (r.used) with d9 | d9
         ·skip
          refine hgE 15 sr_n2 [2] [eD d9,eD d9,eD d9,eD d9,eD d9,eD d9] [(w.heap.size + 1,0,1)] [.code [1,1,1,1,1,1,1]] ⟨[(2,(pt (w.heap.size + 1) 0))],[⟨w.heap.size,25,true,(sr_v1 r)⟩,⟨w.heap.size + 1,4,true,[.bool true]⟩,⟨w.heap.size + 2,79,false,[(pt w.heap.size 0)]⟩,⟨z30,23,true,[i6 0,i6 0]⟩],[],z30 + 1⟩ ?_
          refine holds_retM [[⟨false,1,0,1⟩]] (Array.getElem?_eq_some_iff.1 hK).1 hK hKT (by kernel_rfl) (sr_r44 r w z30) (fun wx hm=>?_)
          refine ⟨ret_bool ?_,range_kept hmW hm.kept (fun k hk hT=>?_)⟩
          ·unfold okB tagB
           rw [n0,n1,n2,n3,n4,d4,d3]
           clear hm hmW hKT hK hI hD hW d3 d4
           simp_all
          rcases hT with ⟨b,hb,hr,he⟩ | rfl
          ·simp at hb; rcases hb with rfl | rfl | rfl <;> simp at he hr <;> omega
          ·omega
         ·skip
          refine hgE 15 [oh0,(oA 0 5 1),oh0,oh0,oh1,⟨true,0,[⟨false,0,2,2⟩]⟩,⟨true,0,[⟨false,3,0,2⟩]⟩,⟨true,1,[]⟩,oh3,⟨false,3,[]⟩,(oA 1 0 1)] [2] [eD d9,eD d9,eD d9,eD d9,eD (nT d5),eD (nT d5),eD (nT d5),eD (nT d5),vV,eD d9,eD (nT d5),eD d9] [(w.heap.size,5,1),(w.heap.size,2,2),(z30,0,2),(w.heap.size + 1,0,1)] [.code [1,1,1,1,1,1,1]] ⟨[(2,(pt (w.heap.size + 1) 0))],[⟨w.heap.size,25,true,(sr_v1 r)⟩,⟨w.heap.size + 1,4,true,[.bool (((r.de:Int) == 0) && (((r.ds:Int) == 0) && true))]⟩,⟨w.heap.size + 2,79,false,[(pt w.heap.size 0)]⟩,⟨z30,23,true,[i6 0,i6 0]⟩],[],z30 + 1⟩ ?_
          refine holds_retM [[⟨false,1,0,1⟩]] (Array.getElem?_eq_some_iff.1 hK).1 hK hKT (by kernel_rfl) (sr_r46 r w z30) (fun wx hm=>?_)
          refine ⟨ret_bool ?_,range_kept hmW hm.kept (fun k hk hT=>?_)⟩
          ·unfold okB tagB
           rw [n0,n1,n2,n3,n4,d4,d3]
           clear hm hmW hKT hK hI hD hW d3 d4
           simp_all
          rcases hT with ⟨b,hb,hr,he⟩ | rfl
          ·simp at hb; rcases hb with rfl | rfl | rfl <;> simp at he hr <;> omega
          ·omega
       ·skip
        refine hgE 14 [oh1,oh1,oh1,⟨true,2,[]⟩,oh3,oh1,(oA 1 0 1)] [1,2,4] [eD (nT d7),eD (nT d7),eD (nT d7),eD (nT d5),eD (nT d7),eD (nT d5),tT] [(w.heap.size + 1,0,1)] [.code [1,1,1,1,1,0,1,0,1],.code [1,1,1,1,1,1]] ⟨[(1,(pt w.heap.size 0)),(2,(pt (w.heap.size + 1) 0)),(4,(pt z30 0))],[⟨w.heap.size,25,true,(sr_v1 r)⟩,⟨w.heap.size + 1,4,true,[.bool false]⟩,⟨w.heap.size + 2,79,false,[(pt w.heap.size 0)]⟩,⟨z30,23,true,[i6 0,i6 0]⟩],[],z30 + 1⟩ ?_
        refine holds_retM [[⟨false,1,0,1⟩]] (Array.getElem?_eq_some_iff.1 hK).1 hK hKT (by kernel_rfl) (sr_r48 r w z30) (fun wx hm=>?_)
        refine ⟨ret_bool ?_,range_kept hmW hm.kept (fun k hk hT=>?_)⟩
        ·unfold okB tagB
         rw [n0,n1,n2,n3,n4,d4,d3]
         clear hm hmW hKT hK hI hD hW d3 d4
         simp_all
        rcases hT with ⟨b,hb,hr,he⟩ | rfl
        ·simp at hb; rcases hb with rfl | rfl | rfl <;> simp at he hr <;> omega
        ·omega
     ·skip
      refine hgE 8 sr_n3 [1,2] [eD (nT d4)] [(w.heap.size + 1,0,1)] [.code [1,1,1,0,1,0,1],.code [1,1,1,1]] ⟨[(1,(pt w.heap.size 0)),(2,(pt (w.heap.size + 1) 0))],(sr_b1 r w),[],z30⟩ ?_
      refine holds_retM [[⟨false,1,0,1⟩]] (Array.getElem?_eq_some_iff.1 hK).1 hK hKT (by kernel_rfl) (sr_r50 r w) (fun wx hm=>?_)
      refine ⟨ret_bool ?_,range_kept hmW hm.kept (fun k hk hT=>?_)⟩
      ·unfold okB tagB
       rw [n0,n1,n2,n3,n4,d4,d3]
       clear hm hmW hKT hK hI hD hW d3 d4
       simp_all
      rcases hT with ⟨b,hb,hr,he⟩ | rfl
      ·simp at hb; rcases hb with rfl | rfl | rfl <;> simp at he hr <;> omega
      ·omega
    ·skip
     refine hgE 16 [oh1,oh1,oh1,oh1,oh1,oh1,oh3,oh1,(oA 1 0 1)] [1,2] [eD (nT d3),eD (nT d3),eD (nT d3),eD (nT d3),eD (nT d3),eD (nT d3),eD (nT d3),tT] [(w.heap.size + 1,0,1)] [.code [1,1,1,0,1,0,1],.code [1,1,1,1]] ⟨[(1,(pt w.heap.size 0)),(2,(pt (w.heap.size + 1) 0))],(sr_b1 r w),[],z27⟩ ?_
     refine holds_retM [[⟨false,1,0,1⟩]] (Array.getElem?_eq_some_iff.1 hK).1 hK hKT (by kernel_rfl) (sr_r52 r w) (fun wx hm=>?_)
     refine ⟨ret_bool ?_,range_kept hmW hm.kept (fun k hk hT=>?_)⟩
     ·unfold okB tagB
      rw [n0,n1,n2,n3,n4,d3]
      clear hm hmW hKT hK hI hD hW d3
      simp_all
     rcases hT with ⟨b,hb,hr,he⟩ | rfl
     ·simp at hb; rcases hb with rfl | rfl | rfl <;> simp at he hr <;> omega
     ·omega
 ·rintro D pre W hsp ⟨x,hx,hb⟩ hmW hD hW hK a hf
  have hKT:¬ Turned (sr_b1 r w) D:=not_turned hmW hK
  refine leavesM [[⟨false,1,0,1⟩]] (sz:=W.heap.size) (vs:=[.bool false]) (rs:=[(w.heap.size + 1,0,1)]) (bk:=(sr_b1 r w)) (sl:=[(1,(pt w.heap.size 0)),(2,(pt (w.heap.size + 1) 0)),(5,.func (.func 68) #[] #[(pt (w.heap.size + 2) 0)])]) (by kernel_rfl) (fun wx hm=>?_) hf hmW hK
  refine ⟨ret_bool (okB_nums hb).symm,hm.kept.mono (fun k hk hT=>?_)⟩
  rcases hT with hT | rfl
  ·exact hT.elim
  ·omega
theorem bool_eq_iff {a b:Bool} (h:a = true ↔ b = true):a = b:=by cases a <;> cases b <;> simp at h ⊢
theorem empty_text (s:ByteArray):(s.toList == (⟨#[]⟩:ByteArray).toList) = decide (s.size = 0):=by
 rw [empty_size,cond_false]
 by_cases h:s.size = 0
 ·rw [h]
  rfl
 ·rw [decide_eq_false h,beq_eq_false_iff_ne.2 (by omega)]
end Go.Proofs.Ytpilmccjjbgmiaa
