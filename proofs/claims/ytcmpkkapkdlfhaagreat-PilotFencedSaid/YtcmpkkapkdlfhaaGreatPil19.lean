import Derived.Test.YtcmpkkapkdlfhaaGreatPil5
import Derived.Test.YtcmpkkapkdlfhaaGreatNums
namespace Go.Proofs.YtcmpkkapkdlfhaaGreat
open Go.RowKit
set_option maxHeartbeats 4000000
set_option maxRecDepth 100000
theorem not_turned {w W:World} {S:Nat → Prop} {bk:List Bk} {wn:List Wn} {z D:Nat} {ds:List Deferred} (hm:MemOk w S bk wn z W) (hD:W.heap[D]? = some (.deferred (some ds))):¬ Turned bk D:=by
 rintro ⟨b,hb,_,he⟩
 have h1:=hm.blk b hb
 unfold Blk at h1
 rw [he,hD] at h1
 cases h1
theorem range_kept {w W w':World} {S S':Nat → Prop} {bk:List Bk} {wn:List Wn} {z:Nat} (hm:MemOk w S bk wn z W) (hk:Kept S' W w') (hs:∀ k,k < w.heap.size → S' k → S k):Kept S w w':=hm.kept.trans hk hs
theorem MemOk.here {w0 w:World} {S:Nat → Prop} {bk:List Bk} {wn:List Wn} {sz:Nat} (hm:MemOk w0 S bk wn sz w):MemOk w0 S bk wn w.heap.size w:=by
 have h:=hm.size
 subst h
 exact hm
theorem num_off (x:Nat):numOff x = 1 ∨ numOff x = 2 ∨ numOff x = 3 ∨ numOff x = 6 ∨ numOff x = 7:=by
 match x with
 | 0=>exact .inl rfl
 | 1=>exact .inr (.inl rfl)
 | 2=>exact .inr (.inr (.inl rfl))
 | 3=>exact .inr (.inr (.inr (.inl rfl)))
 | _ + 4=>exact .inr (.inr (.inr (.inr rfl)))
theorem okB_closed {r:RecM} (h:okB r = true) (ho:r.op = false):∃ u F a b B,r = ⟨u,F,a,b,B,false,0,0,0,⟨#[]⟩⟩ ∧ (0 ≤ F ∧ F ≤ 16777215) ∧ (0 ≤ a ∧ a ≤ 16777215) ∧ (0 ≤ b ∧ b ≤ 16777215) ∧ ((u = true ∧ B.size = 16) ∨ (u = false ∧ B = ⟨#[]⟩ ∧ a = 0 ∧ b = 0)):=by
 obtain ⟨u,F,a,b,B,o,ie,is,m,s⟩:=r
 obtain rfl:o = false:=ho
 simp only [okB,tagB,Bool.and_eq_true,Bool.or_eq_true,n24_iff,Bool.false_eq_true,false_or,Bool.not_false,true_and,and_true,beq_iff_eq,Bool.not_eq_true',decide_eq_false_iff_not,fitB,cond_false] at h
 obtain ⟨⟨⟨⟨h1,_⟩,hB,hs⟩,⟨rfl,rfl⟩,rfl⟩,hd⟩:=h
 obtain rfl:s = ⟨#[]⟩:=size_zero.1 (by omega)
 refine ⟨u,F,a,b,B,rfl,h1.1.1.1.1,h1.1.1.1.2,h1.1.1.2,?_⟩
 cases u with
 | true=>
  have h_:(B.size:Int) = 16:=by simpa using hB
  exact .inl ⟨rfl,by omega⟩
 | false=>
  have h_:(B.size:Int) = 0:=by simpa using hB
  exact .inr ⟨rfl,size_zero.1 (by omega),by simpa using hd⟩
theorem empty_toList:(⟨#[]⟩:ByteArray).toList = []:=by rw [ByteArray.toList_eq]
theorem empty_size (s:ByteArray):(s.toList == (⟨#[]⟩:ByteArray).toList) = (bif false then (s.size:Int) == 16 else (s.size:Int) == 0):=by
 rw [cond_false,empty_toList]
 by_cases h:s.size = 0
 ·obtain rfl:=size_zero.1 h
  rw [show noText.toList = [] from empty_toList]
  rfl
 ·have e:(s.toList == []) = false:=beq_eq_false_iff_ne.2 (fun e=>h (size_zero.2 ((toList_nil_iff_emptyBytes s).1 e)))
  rw [e,beq_eq_false_iff_ne.2 (by omega)]
theorem fits_any (s:ByteArray) (u:Bool) (w:World) :
  Calls Tryz.prog 118 #[sT s,.bool u] w (RetK (.bool (fitB s u)) w):=by
 refine cH (S:=(fun _=>False)) (n:=11) Tryz.func118 (MemOk.none w _) ?_
 refine hgE 12 (dz 2 0) [0,4,5] [] [] [.code [1,0,1],.code [1,1]] ⟨[(0,sT s),(4,.bool false),(5,.bool u)],[],[],w.heap.size⟩ ?_
 rcases Bool.eq_false_or_eq_true (u) with d1 | d1
 ·skip
  refine hgS 11 (dz 5 1) [0,4] [eD d1] [] [.code [1,0,1,0,1],.code [1,1]] [] [] w.heap.size ?_
  refine hrt [] [.bool ((s.size:Int) == 16)] [] ?_
  intro wx hm
  refine ⟨ret_bool ?_,hm.kept⟩
  unfold fitB
  rw [d1]
  rfl
 ·skip
  refine hgS 11 (dz 4 0) [4] [eD d1] [] [.code [1,1,1]] [] [] w.heap.size ?_
  refine hrt [] [.bool (ByteArray.toList s == ByteArray.toList ⟨#[]⟩)] [] ?_
  intro wx hm
  refine ⟨ret_bool ?_,hm.kept⟩
  unfold fitB
  rw [d1]
  exact empty_size s
section
variable (u:Bool) (F a b:Int) (B:ByteArray) (w:World)
def sr_v1:List Value:=[.bool u,i6 F,i6 a,i6 b,sT B,.bool false,i6 0,i6 0,i6 0,sT ⟨#[]⟩]
def sr_v2:List Value:=[.bool true,i6 F,i6 a,i6 b,sT B,.bool false,i6 0,i6 0,i6 0,sT ⟨#[]⟩]
def sr_v3:List Value:=[.bool false,i6 F,i6 0,i6 0,sT ⟨#[]⟩,.bool false,i6 0,i6 0,i6 0,sT ⟨#[]⟩]
def sr_n1:List OH:=[oh0,oh0,oh0,(oA 0 9 1),oh0,(oA 0 5 1)]
def sr_n2:List OH:=[oh0,(oA 0 8 1),oh0,oh0,oh0,(oA 0 8 1),oh0,⟨false,3,[]⟩,oh0,oh0,(oA 0 4 1),oh0,(oA 0 0 1)]
@[simp] def sr_b1:List Bk:=[⟨w.heap.size,61,true,(sr_v1 u F a b B)⟩,⟨w.heap.size + 1,4,true,[.bool false]⟩,⟨w.heap.size + 2,190,false,[(pt w.heap.size 0)]⟩]
@[simp] def sr_b2:List Bk:=[⟨w.heap.size,61,true,(sr_v2 F a b B)⟩,⟨w.heap.size + 1,4,true,[.bool false]⟩,⟨w.heap.size + 2,190,false,[(pt w.heap.size 0)]⟩]
@[simp] def sr_b3:List Bk:=[⟨w.heap.size,61,true,(sr_v3 F)⟩,⟨w.heap.size + 1,4,true,[.bool false]⟩,⟨w.heap.size + 2,190,false,[(pt w.heap.size 0)]⟩]
end
theorem right_cl (u:Bool) (F a b:Int) (B:ByteArray) (hF:0 ≤ F ∧ F ≤ 16777215) (ha:0 ≤ a ∧ a ≤ 16777215) (hb:0 ≤ b ∧ b ≤ 16777215) (hu:(u = true ∧ B.size = 16) ∨ (u = false ∧ B = ⟨#[]⟩ ∧ a = 0 ∧ b = 0)) (w:World) :
  Calls Tryz.prog 101 #[.agg #[.bool u,i6 F,i6 a,i6 b,sT B,.bool false,i6 0,i6 0,i6 0,sT ⟨#[]⟩]] w (RetK (.bool true) w):=by
 refine calls_of_holdsM (m:=5) (S:=(fun _=>False)) (n:=67) Tryz.func101 (body_of (by kernel_rfl)) rfl (by simp) (MemOk.none w _) ?_
 refine hgE 11 (dz 2 0) [1,2] [] [] [.ops [1,0,0] [0],.code [1,0,1],.code [1,1]] ⟨[(1,(pt w.heap.size 0)),(2,(pt (w.heap.size + 1) 0))],[⟨w.heap.size,61,true,(sr_v1 u F a b B)⟩,⟨w.heap.size + 1,4,true,[.bool false]⟩],[],w.heap.size + 2⟩ ?_
 refine holds_callM (.func (.func 138) #[] #[(pt (w.heap.size + 2) 0)]) (sr_b1 u F a b B w) (show _ = some (117,[(pt w.heap.size 0)],some 5,[]) by kernel_rfl) tI rfl (fun wx hm=>?_) fun z2 hz2=>?_
 ·refine (nums_any _ wx).mono fun e w' he=>?_
  obtain ⟨h7,h8,h9⟩:=he
  rw [hm.size] at h7 h8
  exact ⟨h7,hm.add h9 [⟨w.heap.size + 2,190,false,[(pt w.heap.size 0)]⟩] ⟨h8,trivial⟩ (by simp) (by simp)⟩
 replace hz2:w.heap.size + 2 ≤ z2:=hz2
 refine hgE 5 [] [1,2,5] [] [] [.code [1,0,1,0],.blk 0,.code [1,1]] ⟨[(1,(pt w.heap.size 0)),(2,(pt (w.heap.size + 1) 0)),(5,.func (.func 138) #[] #[(pt (w.heap.size + 2) 0)])],(sr_b1 u F a b B w),[],z2⟩ ?_
 refine holds_range (α:=Nat) (wn:=[]) (Bn:=w.heap.size + 2) (N:=5) (enc:=fun i=>.pointer (some ⟨w.heap.size,numOff i,none⟩)) (Sq:=fun xs=>xs = [0,1,2,3,4]) (Spq:=NumsSp) rfl rfl (enters_of Tryz.func138 (by kernel_rfl) rfl) (fun wx hm=>hm.size ▸ (hm.at_ 2 rfl).lt) (by rintro ⟨b,hb,hr,he⟩; simp at hb; rcases hb with rfl | rfl | rfl <;> simp at he hr) (fun wx hm=>nums_stops _ _ _ wx (hm.at_ 2 rfl))
  (fun _=>True) (fun _=>False) (fun _=>(sr_b1 u F a b B w)) (fun _=>(sr_b1 u F a b B w)) rfl trivial (fun _=>rfl) (fun _=>rfl) (fun x=>[(3,.pointer (some ⟨w.heap.size,numOff x,none⟩)),(6,.pointer (some ⟨w.heap.size,numOff x,none⟩)),(1,(pt w.heap.size 0)),(2,(pt (w.heap.size + 1) 0)),(5,.func (.func 138) #[] #[(pt (w.heap.size + 2) 0)])]) (fun x=>[(6,.pointer (some ⟨w.heap.size,numOff x,none⟩)),(1,(pt w.heap.size 0)),(2,(pt (w.heap.size + 1) 0)),(5,.func (.func 138) #[] #[(pt (w.heap.size + 2) 0)])]) (fun _=>rfl) ?_ ?_ ?_ ?_
 ·intro x l W
  refine hgER (fun _=>tI) 6 [oh0] [3,6,1,2,5] [] [] [] ⟨[(3,.pointer (some ⟨w.heap.size,numOff x,none⟩)),(6,.pointer (some ⟨w.heap.size,numOff x,none⟩)),(1,(pt w.heap.size 0)),(2,(pt (w.heap.size + 1) 0)),(5,.func (.func 138) #[] #[(pt (w.heap.size + 2) 0)])],[],[],W.heap.size⟩ ?_
  exact holdsR_end (fun a wx hf hm=>⟨rfl,hm.kept,hf⟩)
 ·intro l pre x W Z hZ hI _
  have hx:numOff x = 1 ∨ numOff x = 2 ∨ numOff x = 3 ∨ numOff x = 6 ∨ numOff x = 7:=num_off x
  rcases hx with hx | hx | hx | hx | hx <;> rw [hx]
  ·skip
   refine hgER (fun _=>tI) 20 [oh0,oh0,(oA 0 1 1),oh0,oh0,oh0,oh0,(oA 0 1 1),oh0,⟨false,3,[]⟩,oh0] [2] [dF ((F:Int) < 0),dF ((F:Int) < 0),dF ((F:Int) < 0),dF ((F:Int) < 0),dF ((F:Int) < 0),dF ((F:Int) > 16777215)] [(w.heap.size,1,1),(w.heap.size,1,1)] [] ⟨[(2,(pt (w.heap.size + 1) 0))],(sr_b1 u F a b B w),[],Z⟩ ?_
   exact holdsR_end (fun a wx hf hm=>.inl ⟨rfl,trivial,hm.here⟩)
  ·skip
   refine hgER (fun _=>tI) 20 [oh0,oh0,(oA 0 2 1),oh0,oh0,oh0,oh0,(oA 0 2 1),oh0,⟨false,3,[]⟩,oh0] [2] [dF ((a:Int) < 0),dF ((a:Int) < 0),dF ((a:Int) < 0),dF ((a:Int) < 0),dF ((a:Int) < 0),dF ((a:Int) > 16777215)] [(w.heap.size,2,1),(w.heap.size,2,1)] [] ⟨[(2,(pt (w.heap.size + 1) 0))],(sr_b1 u F a b B w),[],Z⟩ ?_
   exact holdsR_end (fun a wx hf hm=>.inl ⟨rfl,trivial,hm.here⟩)
  ·skip
   refine hgER (fun _=>tI) 20 [oh0,oh0,(oA 0 3 1),oh0,oh0,oh0,oh0,(oA 0 3 1),oh0,⟨false,3,[]⟩,oh0] [2] [dF ((b:Int) < 0),dF ((b:Int) < 0),dF ((b:Int) < 0),dF ((b:Int) < 0),dF ((b:Int) < 0),dF ((b:Int) > 16777215)] [(w.heap.size,3,1),(w.heap.size,3,1)] [] ⟨[(2,(pt (w.heap.size + 1) 0))],(sr_b1 u F a b B w),[],Z⟩ ?_
   exact holdsR_end (fun a wx hf hm=>.inl ⟨rfl,trivial,hm.here⟩)
  ·skip
   refine hgER (fun _=>tI) 20 [oh0,oh0,(oA 0 6 1),oh0,oh0,oh0,oh0,(oA 0 6 1),oh0,⟨false,3,[]⟩,oh0] [2] [fF,fF,fF,fF,fF,fF] [(w.heap.size,6,1),(w.heap.size,6,1)] [] ⟨[(2,(pt (w.heap.size + 1) 0))],(sr_b1 u F a b B w),[],Z⟩ ?_
   exact holdsR_end (fun a wx hf hm=>.inl ⟨rfl,trivial,hm.here⟩)
  ·skip
   refine hgER (fun _=>tI) 20 [oh0,oh0,(oA 0 7 1),oh0,oh0,oh0,oh0,(oA 0 7 1),oh0,⟨false,3,[]⟩,oh0] [2] [fF,fF,fF,fF,fF,fF] [(w.heap.size,7,1),(w.heap.size,7,1)] [] ⟨[(2,(pt (w.heap.size + 1) 0))],(sr_b1 u F a b B w),[],Z⟩ ?_
   exact holdsR_end (fun a wx hf hm=>.inl ⟨rfl,trivial,hm.here⟩)
 ·rintro D xs W rfl hI hmW hD hW hK
  have hKT:¬ Turned (sr_b1 u F a b B w) D:=not_turned hmW hK
  rcases hu with ⟨rfl,hB⟩ | ⟨rfl,rfl,rfl,rfl⟩
  ·skip
   refine hgS 25 sr_n2 [1,2,26,28] [fF,fF,fF,fF,fF] [(w.heap.size,8,1),(w.heap.size,8,1),(w.heap.size,4,1),(w.heap.size,0,1)] [.ops [1,1,1,0,0] [4,5,6,7,8,9,10,11,12,13],.code [1,1,1,0,1],.code [1,1,1,1]] (sr_b2 F a b B w) [] W.heap.size ?_
   refine hcp (.bool true) 118 [sT B,.bool true] (some 29) [] tI rfl (fun wx hm=>by
     have h:=fits_any B true wx
     rw [show fitB B true = true by simp [fitB,hB]] at h
     exact h) fun z11 hz11=>?_
   replace hz11:W.heap.size ≤ z11:=hz11
   refine hgS 9 sr_n1 [1,2,31,33,35] [fF,fF,fF,fF] [(w.heap.size,9,1),(w.heap.size,5,1)] [.ops [1,1,1,0,0] [11,12,13],.code [1,1,1,0,1],.code [1,1,1,1]] (sr_b2 F a b B w) [] z11 ?_
   refine hcq (.bool true) _ _ (some 36) [false = false] ⟨rfl,tI⟩ rfl (fun wx hm=>fits_any ⟨#[]⟩ false wx) fun z13 hz13=>?_
   refine hgE 51 (dz 35 0x100183100001111001000800370010808015020039020609100010508002003800040) [2] [fF,fF,fF,tT,tT,tT,tT,vV,tT,fF,fF,fF,tT,fF,tT,fF,tT,tT,tT,tT,tT,tT] [(z13,0,2),(w.heap.size,5,1),(w.heap.size,6,2),(z13,0,2),(w.heap.size,8,1),(w.heap.size,0,1),(w.heap.size + 1,0,1)] [.code [1,1,1,1,1,1,1]] ⟨[(2,(pt (w.heap.size + 1) 0))],[⟨w.heap.size,61,true,(sr_v2 F a b B)⟩,⟨w.heap.size + 1,4,true,[.bool true]⟩,⟨w.heap.size + 2,190,false,[(pt w.heap.size 0)]⟩,⟨z13,57,true,[i6 0,i6 0]⟩],[],z13 + 1⟩ ?_
   refine holds_retM [[⟨false,1,0,1⟩]] (Array.getElem?_eq_some_iff.1 hK).1 hK hKT (by kernel_rfl) (show _ = some ([.bool true],dupR [(w.heap.size + 1,0,1)]) by kernel_rfl) (fun wx hm=>?_)
   refine ⟨ret_bool rfl,range_kept hmW hm.kept (fun k hk hT=>?_)⟩
   rcases hT with ⟨b,hb,hr,he⟩ | rfl
   ·simp at hb; rcases hb with rfl | rfl | rfl <;> simp at he hr <;> omega
   ·omega
  ·skip
   refine hgS 25 sr_n2 [1,2,26,28] [fF,fF,fF,fF,fF] [(w.heap.size,8,1),(w.heap.size,8,1),(w.heap.size,4,1),(w.heap.size,0,1)] [.ops [1,1,1,0,0] [4,5,6,7,8,9,10,11,12,13],.code [1,1,1,0,1],.code [1,1,1,1]] (sr_b3 F w) [] W.heap.size ?_
   refine hcq (.bool true) _ _ (some 29) [] tI rfl (fun wx hm=>fits_any ⟨#[]⟩ false wx) fun z16 hz16=>?_
   refine hgS 9 sr_n1 [1,2,31,33,35] [fF,fF,fF,fF] [(w.heap.size,9,1),(w.heap.size,5,1)] [.ops [1,1,1,0,0] [11,12,13],.code [1,1,1,0,1],.code [1,1,1,1]] (sr_b3 F w) [] z16 ?_
   refine hcq (.bool true) _ _ (some 36) [false = false] ⟨rfl,tI⟩ rfl (fun wx hm=>fits_any ⟨#[]⟩ false wx) fun z18 hz18=>?_
   refine hgE 51 (dz 35 0x100184350200390202091000105080001000800370010808015020039020609100010508002003800040) [2] [fF,fF,fF,tT,tT,tT,tT,vV,tT,fF,fF,fF,tT,fF,tT,fF,fF,fF,fF,fF,tT,tT,tT,tT,vV,fF,tT,fF] [(z18,0,2),(w.heap.size,5,1),(w.heap.size,6,2),(z18,0,2),(w.heap.size,8,1),(w.heap.size,0,1),(w.heap.size,5,1),(w.heap.size,2,2),(z18,0,2),(w.heap.size + 1,0,1)] [.code [1,1,1,1,1,1,1]] ⟨[(2,(pt (w.heap.size + 1) 0))],[⟨w.heap.size,61,true,(sr_v3 F)⟩,⟨w.heap.size + 1,4,true,[.bool true]⟩,⟨w.heap.size + 2,190,false,[(pt w.heap.size 0)]⟩,⟨z18,57,true,[i6 0,i6 0]⟩],[],z18 + 1⟩ ?_
   refine holds_retM [[⟨false,1,0,1⟩]] (Array.getElem?_eq_some_iff.1 hK).1 hK hKT (by kernel_rfl) (show _ = some ([.bool true],dupR [(w.heap.size + 1,0,1)]) by kernel_rfl) (fun wx hm=>?_)
   refine ⟨ret_bool rfl,range_kept hmW hm.kept (fun k hk hT=>?_)⟩
   rcases hT with ⟨b,hb,hr,he⟩ | rfl
   ·simp at hb; rcases hb with rfl | rfl | rfl <;> simp at he hr <;> omega
   ·omega
 ·exact fun _ _ _ _ h=>h.elim
theorem right_rc (r:RecM) (h:okB r = true) (ho:r.op = false) (w:World):Calls Tryz.prog 101 #[.agg #[.bool r.used,i6 r.fence,i6 r.de,i6 r.ds,sT r.block,.bool r.op,i6 r.ie,i6 r.is,i6 r.mask,sT r.staged]] w (RetK (.bool true) w):=by
 obtain ⟨u,F,a,b,B,rfl,hF,ha,hb,hu⟩:=okB_closed h ho
 exact right_cl u F a b B hF ha hb hu w
theorem party_node (n:Int) (hn:0 ≤ n ∧ n < 6) (w:World) :
  Calls Tryz.prog 69 #[i6 n] w (RetK (.bool true) w):=by
 refine cH (S:=(fun _=>False)) (n:=19) Tryz.func69 (MemOk.none w _) ?_
 refine hgS 24 (dz 10 4346413056) [0,2] (rE 3 (dT ((n:Int) ≥ 0)) ++ [dT ((n:Int) < 6)]) [] [.code [1,0,0,1,0,1],.blk 0,.code [1,1]] [] [] w.heap.size ?_
 refine hrt [] [.bool true] [] ?_
 intro wx hm
 exact ⟨rfl,hm.kept⟩
theorem party_pilot (n:Int) (hn:200 ≤ n ∧ n < 202) (w:World) :
  Calls Tryz.prog 69 #[i6 n] w (RetK (.bool true) w):=by
 refine cH (S:=(fun _=>False)) (n:=19) Tryz.func69 (MemOk.none w _) ?_
 refine hgS 35 (dz 18 0x10311000003110000) [0,2] (rE 3 (dT ((n:Int) ≥ 0)) ++ [dF ((n:Int) < 6)] ++ rE 3 (dT ((n:Int) ≥ 200)) ++ [dT ((n:Int) < 202)]) [] [.code [1,0,0,1,1,1,0,1],.blk 0,.code [1,1]] [] [] w.heap.size ?_
 refine hrt [] [.bool true] [] ?_
 intro wx hm
 exact ⟨rfl,hm.kept⟩
theorem party_keeper  (w:World) :
  Calls Tryz.prog 69 #[i6 100] w (RetK (.bool true) w):=by
 refine cH (S:=(fun _=>False)) (n:=19) Tryz.func69 (MemOk.none w _) ?_
 refine hgS 39 (dz 20 0x400000003110000) [2] [tT,tT,tT,fF,fF,fF,fF,fF] [] [.code [1,1,1]] [] [] w.heap.size ?_
 refine hrt [] [.bool true] [] ?_
 intro wx hm
 exact ⟨rfl,hm.kept⟩
theorem party_is (n:Int) (hn:(0 ≤ n ∧ n < 6) ∨ n = 100 ∨ (200 ≤ n ∧ n < 202)) (w:World):Calls Tryz.prog 69 #[i6 n] w (RetK (.bool true) w):=by
 rcases hn with hn | rfl | hn
 ·exact party_node n hn w
 ·exact party_keeper w
 ·exact party_pilot n hn w
def SayOk (sy:SayR):Prop:=(1 ≤ sy.st ∧ sy.st ≤ 7) ∧ (0 ≤ sy.ep ∧ sy.ep ≤ 16777215) ∧ (-1 ≤ sy.ou ∧ sy.ou < 6) ∧ okB sy.rc = true ∧ sy.rc.op = false
def mrs_v1 (sy:SayR):List Value:=[i6 sy.st,i6 sy.ep,i6 sy.ou,.bool sy.rc.used,i6 sy.rc.fence,i6 sy.rc.de,i6 sy.rc.ds,sT sy.rc.block,.bool sy.rc.op,i6 sy.rc.ie,i6 sy.rc.is,i6 sy.rc.mask,sT sy.rc.staged]
def mrs_v2 (sy:SayR):List Value:=[.bool sy.rc.used,i6 sy.rc.fence,i6 sy.rc.de,i6 sy.rc.ds,sT sy.rc.block,.bool sy.rc.op,i6 sy.rc.ie,i6 sy.rc.is,i6 sy.rc.mask,sT sy.rc.staged]
theorem rightSay_ok (sy:SayR) (hsy:SayOk sy) (w:World) :
  Calls Tryz.prog 70 #[.agg #[i6 sy.st,i6 sy.ep,i6 sy.ou,.bool sy.rc.used,i6 sy.rc.fence,i6 sy.rc.de,i6 sy.rc.ds,sT sy.rc.block,.bool sy.rc.op,i6 sy.rc.ie,i6 sy.rc.is,i6 sy.rc.mask,sT sy.rc.staged]] w (RetK (.bool true) w):=by
 refine cH (S:=(fun _=>False)) (n:=32) Tryz.func70 (MemOk.none w _) ?_
 obtain ⟨h1,h2,h3,h4,h5⟩:=hsy
 refine hgS 49 (dz 31 0xa0309103101020910001020800400101080000101080040010008000010008000) [2,27,29] (rE 4 (dF ((sy.st:Int) < 1)) ++ [dF ((sy.st:Int) > 7)] ++ rE 4 (dF ((sy.ep:Int) < 0)) ++ [dF ((sy.ep:Int) > 16777215)] ++ rE 4 (dT ((sy.ou:Int) ≥ (-1))) ++ rE 2 (dT ((sy.ou:Int) < 6))) [(w.heap.size,0,1),(w.heap.size,0,1),(w.heap.size,1,1),(w.heap.size,1,1),(w.heap.size,2,1),(w.heap.size,2,1),(w.heap.size,3,10)] [.ops [1,1,1,0] [11,12,13],.code [1,1,1,1]] [⟨w.heap.size,63,true,(mrs_v1 sy)⟩] [] (w.heap.size + 1) ?_
 refine hcq (.bool true) _ _ (some 30) [(decide ((sy.ou:Int) < 6)) = true] ⟨decide_eq_true (by omega),tI⟩ rfl (fun wx hm=>right_rc sy.rc h4 h5 wx) fun z2 hz2=>?_
 refine hgS 6 (dz 2 3) [2] [dT ((sy.ou:Int) < 6)] [] [.code [1,1,1,1]] [⟨w.heap.size,63,true,(mrs_v1 sy)⟩] [] z2 ?_
 refine hrt [] [.bool true] [] ?_
 intro wx hm
 exact ⟨rfl,hm.kept⟩
def mrt_v1 (fr:Int) (dst:Int) (id:Int) (sy:SayR):List Value:=[i6 fr,i6 dst,i6 id,.bool true] ++ rp 8 (i6 0) ++ [sT ⟨#[]⟩,i6 sy.st,i6 sy.ep,i6 sy.ou,.bool sy.rc.used,i6 sy.rc.fence,i6 sy.rc.de,i6 sy.rc.ds,sT sy.rc.block,.bool sy.rc.op,i6 sy.rc.ie,i6 sy.rc.is,i6 sy.rc.mask,sT sy.rc.staged]
def mrt_v2 (sy:SayR):List Value:=(mrs_v1 sy)
theorem msgRight_ans (fr dst id:Int) (sy:SayR) (hfr:(0 ≤ fr ∧ fr < 6) ∨ fr = 100 ∨ (200 ≤ fr ∧ fr < 202)) (hto:(0 ≤ dst ∧ dst < 6) ∨ dst = 100 ∨ (200 ≤ dst ∧ dst < 202)) (hid:1 ≤ id ∧ id ≤ 1099511627776) (hsy:SayOk sy) (w:World) :
  Calls Tryz.prog 41 #[.agg #[i6 fr,i6 dst,i6 id,.bool true,i6 0,i6 0,i6 0,i6 0,i6 0,i6 0,i6 0,i6 0,sT ⟨#[]⟩,i6 sy.st,i6 sy.ep,i6 sy.ou,.bool sy.rc.used,i6 sy.rc.fence,i6 sy.rc.de,i6 sy.rc.ds,sT sy.rc.block,.bool sy.rc.op,i6 sy.rc.ie,i6 sy.rc.is,i6 sy.rc.mask,sT sy.rc.staged]] w (RetK (.bool true) w):=by
 refine cH (S:=(fun _=>False)) (n:=43) Tryz.func41 (MemOk.none w _) ?_
 refine hgS 13 (dz 4 268468224) [1,2,4] [] [(w.heap.size,0,1)] [.ops [1,0,0] [2,3,4,5,6,7,8,9,10,11,12,13,14,15,16,17,18,19],.code [1,0,1],.code [1,1]] [⟨w.heap.size,65,true,(mrt_v1 fr dst id sy)⟩] [] (w.heap.size + 1) ?_
 refine hcq (.bool true) _ _ (some 5) [] tI rfl (fun wx hm=>party_is fr hfr wx) fun z2 hz2=>?_
 refine hgS 7 (dz 4 269516800) [1,2,7,9] [fF,fF] [(w.heap.size,1,1)] [.ops [1,0,0] [7,8,9,10,11,12,13,14,15,16,17,18,19],.code [1,0,1],.code [1,1]] [⟨w.heap.size,65,true,(mrt_v1 fr dst id sy)⟩] [] z2 ?_
 refine hcq (.bool true) _ _ (some 10) [false = false] ⟨rfl,tI⟩ rfl (fun wx hm=>party_is dst hto wx) fun z4 hz4=>?_
 refine hgS 34 (dz 23 0xd0d09102009040801010308004001020800400102080040) [1,2,29,31] ([fF,fF,fF,fF,fF,fF] ++ rE 4 (dF ((id:Int) < 1)) ++ [dF ((id:Int) > 1099511627776),tT,vV,tT,tT]) [(w.heap.size,2,1),(w.heap.size,2,1),(w.heap.size,3,1),(w.heap.size,4,9),(w.heap.size,13,13)] [.ops [1,1,0,1,0,0] [7,8,9],.code [1,1,0,1,0,1],.code [1,1,1]] [⟨w.heap.size,65,true,(mrt_v1 fr dst id sy)⟩] [] z4 ?_
 refine hcq (.bool true) _ _ (some 32) [true = true] ⟨rfl,tI⟩ rfl (fun wx hm=>rightSay_ok sy hsy wx) fun z6 hz6=>?_
 refine hgS 6 (dz 2 3) [1,2] [tT] [] [.code [1,1,0,1,0,1],.code [1,1,1]] [⟨w.heap.size,65,true,(mrt_v1 fr dst id sy)⟩] [] z6 ?_
 refine hrt [] [.bool true] [] ?_
 intro wx hm
 exact ⟨rfl,hm.kept⟩
theorem hit_pilR {sy:SayR} {w:World} {base lb cb:Nat} {c:CM} {L:List OneM} {v:Value} {Kp R:List OneM} {o:OneM} (h:PilR w base lb cb c L v) (hc:c.opn = Kp ++ o :: R) (hK:∀ o' ∈ Kp,o'.id ≠ o.id) :
  Calls Tryz.prog 42 #[.pointer (some ⟨cb,0,none⟩),.agg #[i6 o.to,i6 c.frm,i6 o.id,.bool true,i6 0,i6 0,i6 0,i6 0,i6 0,i6 0,i6 0,i6 0,sT ⟨#[]⟩,i6 sy.st,i6 sy.ep,i6 sy.ou,.bool sy.rc.used,i6 sy.rc.fence,i6 sy.rc.de,i6 sy.rc.ds,sT sy.rc.block,.bool sy.rc.op,i6 sy.rc.ie,i6 sy.rc.is,i6 sy.rc.mask,sT sy.rc.staged]] w (fun e w'=>e = .returned (.tuple #[.agg #[i6 o.q.kind,i6 o.q.stripe,i6 o.q.epoch,i6 o.q.seq,i6 o.q.mask,i6 o.q.node,i6 o.q.oe,i6 o.q.os,sT o.q.block],.bool true]) ∧ PilR w' base lb cb { c with opn:=Kp ++ R } L v ∧ Kept (PartyTX 141 base cb w) w w'):=by
 obtain ⟨hQ,A,ca,hv,hA,hl⟩:=h
 refine (hit_partyX (sy:=sy) hQ hc hK).mono fun e w' hq=>?_
 obtain ⟨h1,h2,h3⟩:=hq
 refine ⟨h1,⟨h2,A,ca,hv,hA.kept h3 (fun y hy ht=>?_),Nat.le_trans hl h3.size⟩,h3⟩
 rcases ht with rfl | ⟨_,ht⟩
 ·exact absurd (tyIn_one (hA.ty _ hy) hQ.blk) (by decide)
 ·exact tysIn_not rfl (hA.ty _ hy) ht
theorem pilT_upR {es:List TypeId} {base lb pb cb:Nat} {w wx:World} (hk:Kept (PilT es base lb pb cb w) w wx):∀ y,PilT es base lb pb cb wx y → PilT es base lb pb cb w y ∨ w.heap.size ≤ y:=pilT_upS (fun _ h=>h) hk (by simp)
section
variable (x:PilC) (c:CM) (pb base:Nat) (now:Int) (w:World) (v:Value) (E2:Option Addr → Nat → Nat → World → Prop) (FN:Nat) (o:OneM) (sy:SayR) (g:Nat) (es:List TypeId)
def prc_v1:List Value:=[i6 o.to,i6 c.frm,i6 o.id,.bool true] ++ rp 8 (i6 0) ++ [sT ⟨#[]⟩,i6 sy.st,i6 sy.ep,i6 sy.ou,.bool sy.rc.used,i6 sy.rc.fence,i6 sy.rc.de,i6 sy.rc.ds,sT sy.rc.block,.bool sy.rc.op,i6 sy.rc.ie,i6 sy.rc.is,i6 sy.rc.mask,sT sy.rc.staged]
def prc_v2:List Value:=[i6 o.q.kind,i6 o.q.stripe,i6 o.q.epoch,i6 o.q.seq,i6 o.q.mask,i6 o.q.node,i6 o.q.oe,i6 o.q.os,sT o.q.block]
def prc_v3:List Value:=rp 8 (i6 0) ++ [sT ⟨#[]⟩]
def prc_v4:List Value:=[i6 sy.st,i6 sy.ep,i6 sy.ou,.bool sy.rc.used,i6 sy.rc.fence,i6 sy.rc.de,i6 sy.rc.ds,sT sy.rc.block,.bool sy.rc.op,i6 sy.rc.ie,i6 sy.rc.is,i6 sy.rc.mask,sT sy.rc.staged]
@[simp] def prc_b1:List Bk:=[⟨pb,98,true,(PilC.cells { x with busy:=true,nx:=(.func (.func FN) #[(pt pb 0)] #[]),ak:=v })⟩,⟨w.heap.size,65,false,(prc_v1 c o sy)⟩]
@[simp] def prc_b2 (d:Option Nat):List Bk:=[⟨pb,98,true,(PilC.cells { x with busy:=true,nx:=(.func (.func FN) #[(pt pb 0)] #[]),ak:=v })⟩,⟨w.heap.size,65,false,(prc_v1 c o sy)⟩,⟨(d.getD 0),59,true,(prc_v2 o)⟩]
@[simp] def prc_b3:List Bk:=[⟨pb,98,true,(PilC.cells { x with busy:=true,nx:=(.func (.func FN) #[(pt pb 0)] #[]),ak:=v })⟩,⟨w.heap.size,65,false,(prc_v1 c o sy)⟩,⟨g,59,true,(prc_v2 o)⟩]
def prc_Q:Exit → Act → World → Prop:=bodyPost Tryz.prog Tryz.f19 (fun e w'=>∃ A_ n_ c_,e = .returned (.slice A_ n_ c_) ∧ E2 A_ n_ c_ w' ∧ Kept (PilT es base x.lb pb x.cb w) w w')
def prc_y5s:List (Nat × Value):=[(0,(pt pb 0)),(1,i6 now),(5,(pt w.heap.size 0)),(6,.slice none 0 0)]
def prc_y5v (d:Option Nat):List (Option Value):=[some ((pt pb 0)),some ((pt pb 0)),some ((pt pb 2)),some ((pt x.cb 0)),some (.agg (List.toArray (prc_v1 c o sy))),some (.tuple #[.agg (List.toArray (prc_v2 o)),.bool true]),some (.tuple #[.agg (List.toArray (prc_v2 o)),.bool true]),some (.agg (List.toArray (prc_v2 o))),some (.bool true),some (.pointer (some ⟨(d.getD 0),0,none⟩)),some (.tuple #[]),some (.bool true)]
def prc_y5F (d:Option Nat) (k:Nat):Bool:=([true,true,true,true,true,true,true,true,true,d.isSome,true,true]:List Bool)[k]?.getD true
def prc_y5m (d:Option Nat):List (List Bk):=[(prc_b1 x c pb w v FN o sy),(prc_b1 x c pb w v FN o sy),(prc_b2 x c pb w v FN o sy d)]
abbrev prc_y5X (x:PilC) (c:CM) (base:Nat) (v:Value) (L:List OneM) (H:World → Prop) (Kp:List OneM) (R:List OneM) (z3:Nat) (c_:Nat) (d:Option Nat) (W_:World):Prop:=match c_ with | 0=>(PilR W_ base x.lb x.cb c L v ∧ H W_) ∧ (∀ g_,d = some g_ → z3 ≤ g_ ∧ Blk W_ g_ 59 (prc_v3)) | 1=>(PilR W_ base x.lb x.cb { c with opn:=Kp ++ R } L v ∧ H W_) ∧ (∀ g_,d = some g_ → z3 ≤ g_ ∧ Blk W_ g_ 59 (prc_v3)) | 2=>((PilR W_ base x.lb x.cb { c with opn:=Kp ++ R } L v ∧ H W_) ∧ z3 ≤ d.getD 0) ∧ True | _=>True
def prc_y5C (W1:World) (v:Value) (L:List OneM) (E2:Option Addr → Nat → Nat → World → Prop) (H:World → Prop) (FN:Nat) (Kp:List OneM) (R:List OneM) (o:OneM) (sy:SayR) (es:List TypeId) (z3:Nat) (i_:Nat):Prop:=cY Tryz.prog Tryz.f19 [1,1,0] 45 [] (prc_Q x pb base w E2 es) [.code [1,1,1]] (prc_y5s pb now w) [none,none,none,none,none,some 0,none,none,none,none,some 1,none] 2 (prc_y5v x c pb o sy) prc_y5F W1 (fun y=>(Turned (prc_b1 x c pb w v FN o sy)) y ∨ (PilT es base x.lb pb x.cb W1) y) (prc_y5m x c pb w v FN o sy) z3 (prc_y5X x c base v L H Kp R z3) i_
theorem prc_q7 (W9:World) (v:Value) (FN:Nat) (o:OneM) (sy:SayR) (g:Nat):Out.prune [0,6,34,36,38,39,41] (qList Tryz.prog 45 W9 (Turned (prc_b3 x c pb w v FN o sy g)) ((opsOf (getCode (bodyOf Tryz.f19) [1,1,1,1,0])).toList.take 12) ⟨[(0,(pt pb 0)),(1,i6 now),(5,(pt w.heap.size 0)),(6,.slice none 0 0),(7,(pt g 0))],(prc_b3 x c pb w v FN o sy g),[],W9.heap.size⟩ [.op oh0,.op oh0,.op oh0,.op oh0,.op (oA 0 49 1),.op oh0,.call (i6 (within14 now)),.op oh0,.op (oA 1 0 1),.op (oA 2 0 9),.op oh0,.op (oA 1 13 13)]) = some ⟨[∀ w',MemC W9 (Turned (prc_b3 x c pb w v FN o sy g)) (prc_b3 x c pb w v FN o sy g) [] W9.heap.size w' → Calls Tryz.prog 31 #[i6 now] w' (RetK (i6 (within14 now)) w')],dupR [(pb,49,1),(w.heap.size,0,1),(g,0,9),(w.heap.size,13,13)],⟨[(0,(pt pb 0)),(6,.slice none 0 0),(34,.func (.func FN) #[(pt pb 0)] #[]),(36,i6 (within14 now)),(38,i6 o.to),(39,.agg (List.toArray (prc_v2 o))),(41,.agg (List.toArray (prc_v4 sy)))],(prc_b3 x c pb w v FN o sy g),[],W9.heap.size⟩⟩:=by kernel_rfl
end
theorem pilX_receive (x:PilC) (c:CM) (L:List OneM) (pb:Nat) (base:Nat) (es:List TypeId) (hes:es.contains 141 = true) (E:World → Prop) (hE:∀ w w',E w → Kept (fun _=>False) w w' → E w') (E2:Option Addr → Nat → Nat → World → Prop) (hEE:∀ A n ca w w',E2 A n ca w → Kept (fun _=>False) w w' → E2 A n ca w') (H:World → Prop) (hH:∀ w w' T es',H w → Kept T w w' → (∀ y,T y → TysIn es' w y) → es'.all (fun e=>[98,124,141,65,59].contains e) = true → H w') (FN:Nat) (hFN:FN = 54 ∨ FN = 114 ∨ FN = 84 ∨ FN = 112 ∨ FN = 95 ∨ FN = 80 ∨ FN = 120 ∨ FN = 149) (Kp R:List OneM) (o:OneM) (sy:SayR) (now:Int) (hc:c.opn = Kp ++ o :: R) (hK:∀ o' ∈ Kp,o'.id ≠ o.id) (hfr:(0 ≤ o.to ∧ o.to < 6) ∨ o.to = 100 ∨ (200 ≤ o.to ∧ o.to < 202)) (hfrm:200 ≤ c.frm ∧ c.frm < 202) (hid:1 ≤ o.id ∧ o.id ≤ 1099511627776) (hsy:SayOk sy) (w:World) (hX:PilX w base pb ({ x with busy:=true,nx:=(.func (.func FN) #[.pointer (some ⟨pb,0,none⟩)] #[]) }) c L) (hb0:base ≤ w.heap.size) (hH0:H w) (hnext:∀ wx,PilX wx base pb ({ x with busy:=true,nx:=(.func (.func FN) #[.pointer (some ⟨pb,0,none⟩)] #[]) }) { c with opn:=Kp ++ R } L → H wx → base ≤ wx.heap.size → Calls Tryz.prog FN #[.pointer (some ⟨pb,0,none⟩),i6 (within14 now),i6 o.to,.agg #[i6 o.q.kind,i6 o.q.stripe,i6 o.q.epoch,i6 o.q.seq,i6 o.q.mask,i6 o.q.node,i6 o.q.oe,i6 o.q.os,sT o.q.block],.agg #[i6 sy.st,i6 sy.ep,i6 sy.ou,.bool sy.rc.used,i6 sy.rc.fence,i6 sy.rc.de,i6 sy.rc.ds,sT sy.rc.block,.bool sy.rc.op,i6 sy.rc.ie,i6 sy.rc.is,i6 sy.rc.mask,sT sy.rc.staged]] wx (fun e w'=>e = .returned (.tuple #[]) ∧ E w' ∧ Kept (PilT es base x.lb pb x.cb wx) wx w')) (hsent:∀ wx,E wx → Calls Tryz.prog 37 #[.pointer (some ⟨pb,0,none⟩)] wx (fun e w'=>∃ A n ca,e = .returned (.slice A n ca) ∧ E2 A n ca w' ∧ Kept (PilT es base x.lb pb x.cb wx) wx w')) :
  Calls Tryz.prog 19 #[.pointer (some ⟨pb,0,none⟩),i6 now,.agg #[i6 o.to,i6 c.frm,i6 o.id,.bool true,i6 0,i6 0,i6 0,i6 0,i6 0,i6 0,i6 0,i6 0,sT ⟨#[]⟩,i6 sy.st,i6 sy.ep,i6 sy.ou,.bool sy.rc.used,i6 sy.rc.fence,i6 sy.rc.de,i6 sy.rc.ds,sT sy.rc.block,.bool sy.rc.op,i6 sy.rc.ie,i6 sy.rc.is,i6 sy.rc.mask,sT sy.rc.staged]] w (fun e w'=>∃ A_ n_ c_,e = .returned (.slice A_ n_ c_) ∧ E2 A_ n_ c_ w' ∧ Kept (PilT es base x.lb pb x.cb w) w w'):=by
 obtain ⟨v,hP,hR⟩:=hX
 have hPT:=blk_ty hP
 refine cH (S:=(fun y=>y = pb)) (n:=45) Tryz.func19 (MemOk.startP hP) ?_
 refine hgE 18 (dz 9 0x1a001800012b0800000) [0,1,5,6,14,15] [fF] [(pb,43,1),(w.heap.size,0,26)] [.ops [1,0,0] [7,8,9],.code [1,0,1],.code [1,1]] ⟨[(0,(pt pb 0)),(1,i6 now),(5,(pt w.heap.size 0)),(6,.slice none 0 0),(14,.bool false),(15,.agg (List.toArray (prc_v1 c o sy)))],[⟨pb,98,true,(PilC.cells { x with busy:=true,nx:=(.func (.func FN) #[(pt pb 0)] #[]),ak:=v })⟩,⟨w.heap.size,65,true,(prc_v1 c o sy)⟩],[],w.heap.size + 1⟩ ?_
 refine holds_gndF (bk':=(prc_b1 x c pb w v FN o sy)) [true,false] rfl (fun W1 hm hmz=>?_)
 have hR1:PilR W1 base x.lb x.cb c L v:=(hR.keptT (es:=[98]) hm.kept (fun y hy=>by subst hy; exact ⟨98,by simp,hPT⟩) rfl rfl rfl)
 have hH1:H W1:=hH _ _ _ [98] hH0 hm.kept (fun y hy=>by subst hy; exact ⟨98,by simp,hPT⟩) rfl
 have hm1:MemOk w (PilT es base x.lb pb x.cb w) (prc_b1 x c pb w v FN o sy) [] W1.heap.size W1:=hmz.wide (fun _ h=>.inl h)
 clear hm hmz
 refine hgS 3 [] [0,1,5,6,14,15] [] [] [.ops [1,0,0] [7,8,9],.code [1,0,1],.code [1,1]] (prc_b1 x c pb w v FN o sy) [] W1.heap.size ?_
 refine hcq (.bool true) _ _ (some 16) [false = false] ⟨rfl,tI⟩ rfl (fun wx hm=>msgRight_ans o.to c.frm o.id sy hfr (.inr (.inr hfrm)) hid hsy wx) fun z3 hz3=>?_
 refine hgE 9 (dz 3 64) [0,1,5,6] [fF,fF,fF] [] [.code [1,1,0],.code [1,1,1]] ⟨[(0,(pt pb 0)),(1,i6 now),(5,(pt w.heap.size 0)),(6,.slice none 0 0)],(prc_b1 x c pb w v FN o sy),[],z3⟩ ?_
 have hpl:pb < w.heap.size:=hP.lt
 have hw1:=hm1.kept.size
 have prc_y5_X:StayY W1 (fun y=>(Turned (prc_b1 x c pb w v FN o sy)) y ∨ (PilT es base x.lb pb x.cb W1) y) (prc_y5m x c pb w v FN o sy) (prc_y5X x c base v L H Kp R z3):=by
  intro c_ d wx w' bk hb hm hx hk
  match c_,hb,hx with
  | 0,hb,hx=>
   obtain rfl:=Option.some.inj hb
   refine ⟨⟨hx.1.1.keptT hk (turned_tys hm) rfl rfl rfl,hH _ _ _ _ hx.1.2 hk (turned_tys hm) rfl⟩,fun g_ hg_=>⟨(hx.2 g_ hg_).1,(hx.2 g_ hg_).2.kept hk (fun ⟨b,hb,hr,he⟩=>?_)⟩⟩
   have h9:=(hx.2 g_ hg_).1
   simp at hb
   rcases hb with rfl | rfl
   ·dsimp only at he
    omega
   ·cases hr
  | 1,hb,hx=>
   obtain rfl:=Option.some.inj hb
   refine ⟨⟨hx.1.1.keptT hk (turned_tys hm) rfl rfl rfl,hH _ _ _ _ hx.1.2 hk (turned_tys hm) rfl⟩,fun g_ hg_=>⟨(hx.2 g_ hg_).1,(hx.2 g_ hg_).2.kept hk (fun ⟨b,hb,hr,he⟩=>?_)⟩⟩
   have h9:=(hx.2 g_ hg_).1
   simp at hb
   rcases hb with rfl | rfl
   ·dsimp only at he
    omega
   ·cases hr
  | 2,hb,hx=>
   obtain rfl:=Option.some.inj hb
   exact ⟨⟨⟨hx.1.1.1.keptT hk (turned_tys hm) rfl rfl rfl,hH _ _ _ _ hx.1.1.2 hk (turned_tys hm) rfl⟩,hx.1.2⟩,trivial⟩
  | c_ + 3,hb,hx=>exact trivial
 have prc_y5_c5:prc_y5C x c pb base now w W1 v L E2 H FN Kp R o sy es z3 5:=cyC (s:=0) (f:=42) (args:=fun d=>[(pt x.cb 0),.agg (List.toArray (prc_v1 c o sy))]) (ob:=fun d=>[]) (fun (d:Option Nat) (_:Unit)=>d) (fun d=>.tuple #[.agg (List.toArray (prc_v2 o)),.bool true]) (fun d=>trivial) (fun d wx bk hb hm hx hcame=>by
  obtain rfl:=Option.some.inj hb
  refine (hit_pilR (sy:=sy) hx.1.1 hc hK).mono fun e w' hq=>?_
  obtain ⟨h1,h2,h3⟩:=hq
  refine ⟨(),h1,rfl,⟨⟨h2,hH _ _ _ [124,141] hx.1.2 h3 (fun y hy=>?_) rfl⟩,fun g_ hg_=>⟨(hx.2 g_ hg_).1,(hx.2 g_ hg_).2.kept h3 (fun ht=>?_)⟩⟩,hm.offA (fun _ h=>h) h3 (fun y hy=>?_) (fun b hb hy=>?_),h3.size⟩
  ·rcases hy with rfl | ⟨_,e,he,ht⟩
   ·exact ⟨124,by simp,hx.1.1.1.blk⟩
   ·exact ⟨e,by simp at he ⊢; exact .inr he,ht⟩
  ·rcases ht with he | ⟨_,ht⟩
   ·exact absurd (tyIn_one (blk_ty (hx.2 g_ hg_).2) (he ▸ hx.1.1.1.blk)) (by decide)
   ·exact tysIn_not rfl (blk_ty (hx.2 g_ hg_).2) ht
  ·rcases hy with rfl | ⟨h4,h5⟩
   ·exact .inl (.inr (.inr (.inl rfl)))
   ·exact pilT_inS (fun _ h=>.inr h) hm.kept h4 h5 (by simpa using hes)
  ·have hbt:=blk_ty (hm.blk b hb)
   rcases hy with he | ⟨_,ht⟩
   ·exact absurd (tyIn_one (he ▸ hbt) hx.1.1.1.blk) (by simp at hb; rcases hb with rfl | rfl <;> simp)
   ·exact tysIn_not (by simp at hb; rcases hb with rfl | rfl <;> rfl) hbt ht)
 have prc_y5_c9:prc_y5C x c pb base now w W1 v L E2 H FN Kp R o sy es z3 9:=cyN 1 59 (prc_v3) (fun _ g=>some g) (fun g=>(pt g 0)) (fun c_ d wx w' bk hcB hb hm hx hk hz hBl=>by
  have hs:=prc_y5_X c_ d wx w' bk hb hm hx hk
  match c_,hb,hx,hs,hcB with
  | 0,hb,hx,hs,hcB=>exact ⟨hs.1,(fun g_ hg_=>by obtain rfl:=Option.some.inj hg_; exact ⟨hz,hBl⟩)⟩
  | 1,hb,hx,hs,hcB=>exact ⟨hs.1,(fun g_ hg_=>by obtain rfl:=Option.some.inj hg_; exact ⟨hz,hBl⟩)⟩
  | c_ + 2,hb,hx,hs,hcB=>exact absurd hcB (by omega))
 have prc_y5_c10:prc_y5C x c pb base now w W1 v L E2 H FN Kp R o sy es z3 10:=cyS (s:=1) (x:=fun d=>Instr.storeAt 59 (.pointer (some ⟨(d.getD 0),0,none⟩)) (.agg (List.toArray (prc_v2 o)))) (fun (d:Option Nat) (_:Unit)=>d) (fun d wx bk hb hm hx hcame=>by
  obtain rfl:=Option.some.inj hb
  obtain ⟨g_,rfl⟩:∃ g_,d = some g_:=Option.isSome_iff_exists.1 (hcame 9 (List.mem_of_getElem? (i:=0) (by kernel_rfl)) (dst_ne (k:=7) (by kernel_rfl)))
  obtain ⟨hzg,hBg⟩:=hx.2 g_ rfl
  obtain ⟨w',h1,hB1,hk1,hz1⟩:=store_to (P:=Tryz.prog) (t:=59) (v:=.agg (List.toArray (prc_v2 o))) (by kernel_rfl) hBg rfl (by show 0 + 9 ≤ 9; omega) (ones_all rfl) rfl
  refine ⟨(),w',h1,rfl,⟨⟨⟨hx.1.1.keptT (es:=[59]) hk1 (fun y hy=>by subst hy; exact ⟨59,by simp,blk_ty hBg⟩) rfl rfl rfl,hH _ _ _ [59] hx.1.2 hk1 (fun y hy=>by subst hy; exact ⟨59,by simp,blk_ty hBg⟩) rfl⟩,hzg⟩,trivial⟩,hm.adopt (g:=g_) hk1 hB1 (by omega) (fun b hb e=>?_),Nat.le_of_eq hz1.symm⟩
  have h8:=blk_ty (hm.blk b hb)
  simp at hb
  rcases hb with rfl | rfl <;> exact ty_off (blk_ty hBg) e h8 rfl)
 have prc_y5_R:∀ e_ ∈ (rZsY 2 [0,1,2,6,7,8,11] ++ [rY 3 2 0 2 1 pb,rY 4 2 1 0 26 w.heap.size]:List (RegY (Option Nat))),prc_y5C x c pb base now w W1 v L E2 H FN Kp R o sy es z3 e_.i:=certsY_reg _ prc_y5_X (fun d=>by kernel_rfl) (by kernel_rfl) (fun d sz=>by kernel_rfl)
 have prc_y5_A:∀ i_,i_ < 12 → prc_y5C x c pb base now w W1 v L E2 H FN Kp R o sy es z3 i_:=allY (l:=[5,9,10]) (by kernel_rfl) prc_y5_R ⟨prc_y5_c5,prc_y5_c9,prc_y5_c10,trivial⟩
 refine holds_mixY (Δ:=Option Nat) (fun y=>(Turned (prc_b1 x c pb w v FN o sy)) y ∨ (PilT es base x.lb pb x.cb W1) y) (prc_y5v x c pb o sy) prc_y5F (prc_y5m x c pb w v FN o sy) (prc_y5X x c base v L H Kp R z3) [0,1,5,6,7,8] (fun d=>[(0,(pt pb 0)),(1,i6 now),(5,(pt w.heap.size 0)),(6,.slice none 0 0),(7,.pointer (some ⟨(d.getD 0),0,none⟩)),(8,.bool true)]) (fun d=>(prc_b2 x c pb w v FN o sy d)) none (fun _ h=>.inl h) (by kernel_rfl) (by kernel_rfl) (by kernel_rfl) (fun wx hm=>⟨⟨(hR1.keptT hm.kept.drew (turned_tys hm1) rfl rfl rfl),hH _ _ _ _ hH1 hm.kept.drew (turned_tys hm1) rfl⟩,fun _ h=>by cases h⟩) (by kernel_rfl) prc_y5_A (fun d=>by kernel_rfl) (fun d=>by kernel_rfl) (fun d W9 hfin hX9 hz9 hm9=>?_)
 obtain ⟨g,rfl⟩:∃ g,d = some g:=Option.isSome_iff_exists.1 (hfin 9 (Nat.le_of_ble_eq_true (by kernel_rfl)) (dst_ne (k:=7) (by kernel_rfl)))
 obtain ⟨⟨⟨hR9,hH9⟩,hg0⟩,_⟩:=hX9
 replace hg0:z3 ≤ g:=hg0
 replace hm9:=hm1.bckS hm9 (fun y hy=>hy.elim (fun ⟨b,hb,hr,he⟩=>he ▸ hm1.own b hb hr) (fun h=>pilT_upR hm1.kept y h))
 replace hm9:MemOk w (PilT es base x.lb pb x.cb w) (prc_b3 x c pb w v FN o sy g) [] W9.heap.size W9:=hm9
 change Holds _ _ _ _ W9 (Turned (prc_b3 x c pb w v FN o sy g)) _ [.code [1,1,1]] ⟨[(0,(pt pb 0)),(1,i6 now),(5,(pt w.heap.size 0)),(6,.slice none 0 0),(7,(pt g 0)),(8,.bool true)],(prc_b3 x c pb w v FN o sy g),[],W9.heap.size⟩
 refine hgE 12 (dz 3 0) [0,1,5,6,7] [fF] [] [.code [1,1,1,1,0],.code [1,1,1,1,1]] ⟨[(0,(pt pb 0)),(1,i6 now),(5,(pt w.heap.size 0)),(6,.slice none 0 0),(7,(pt g 0))],(prc_b3 x c pb w v FN o sy g),[],W9.heap.size⟩ ?_
 refine holds_draw (f:=1) (ls:=(bA 13 4095)) 12 _ _ (by kernel_rfl) (by kernel_rfl) (by kernel_rfl) (by kernel_rfl) (prc_q7 x c pb now w W9 v FN o sy g) ⟨(fun wx hm=>pwithin_any now wx),trivial⟩ fun z7 hz7=>?_
 replace hz7:W9.heap.size ≤ z7:=hz7
 refine holds_callAnyU (i:=12) (ls':=(bA 13 8191)) (w:=w) (S':=(PilT es base x.lb pb x.cb w)) (Y:=Unit) (fun _=>.tuple #[]) (fun _=>[]) (fun _ W_=>E W_) (fun _=>[(42,.tuple #[]),(0,(pt pb 0)),(6,.slice none 0 0),(34,.func (.func FN) #[(pt pb 0)] #[]),(36,i6 (within14 now)),(38,i6 o.to),(39,.agg (List.toArray (prc_v2 o))),(41,.agg (List.toArray (prc_v4 sy)))]) (by kernel_rfl) (by kernel_rfl) (show _ = some (FN,[(pt pb 0),i6 (within14 now),i6 o.to,.agg (List.toArray (prc_v2 o)),.agg (List.toArray (prc_v4 sy))],some 42,[]) by rcases hFN with rfl | rfl | rfl | rfl | rfl | rfl | rfl | rfl <;> kernel_rfl) tI (fun _=>rfl) (fun wx hm=>?_) (fun y_ W2 hE2 hm2=>?_)
 ·have hm0_:=(MemOk.bck hm9 hm)
  have hb1:base ≤ wx.heap.size:=Nat.le_trans hb0 hm0_.kept.size
  have hR_:=(hR9.keptT hm.kept (turned_tys hm9) rfl rfl rfl)
  have hX0:PilX wx base pb ({ x with busy:=true,nx:=(.func (.func FN) #[(pt pb 0)] #[]),ak:=v }) ({ c with opn:=Kp ++ R }) L:=⟨_,hm.at_ 0 rfl,hR_⟩
  refine (hnext wx hX0 (hH _ _ _ _ hH9 hm.kept (turned_tys hm9) rfl) hb1).mono fun e w' hq_=>?_
  obtain ⟨he_,hE_,h3_⟩:=hq_
  exact ⟨(),he_,hE_,hm0_.none_.offA (fun _ h=>h) h3_ (pilT_upR hm0_.kept) (fun b hb=>by cases hb)⟩
 refine holds_done (by kernel_rfl) ?_
 refine hgE 6 [oh0] [6,43] [] [] [.ops [1,1,1,1,1,0] [1,2],.code [1,1,1,1,1,1]] ⟨[(6,.slice none 0 0),(43,(pt pb 0))],[],[],W2.heap.size⟩ ?_
 refine holds_callV (w:=w) (S':=(PilT es base x.lb pb x.cb w)) (Y:=Option Addr × Nat × Nat) (fun yq=>.slice yq.1 yq.2.1 yq.2.2) (fun yq=>[]) (fun yq W_=>E2 yq.1 yq.2.1 yq.2.2 W_) (fun yq=>[(44,.slice yq.1 yq.2.1 yq.2.2),(6,.slice none 0 0),(43,(pt pb 0))]) (show _ = some (37,[(pt pb 0)],some 44,[]) by kernel_rfl) tI (fun _=>rfl) (fun wx hm=>?_) (fun yq W3 hX3 hm3=>?_)
 ·have hm0_:=(MemOk.bck hm2 hm)
  refine (hsent wx (hE _ _ hE2 (hm.kept.mono (fun k _ h=>by obtain ⟨b,hb,_⟩:=h; cases hb)))).mono fun e w' hq_=>?_
  obtain ⟨A_,n_,c_,he_,h2_,h3_⟩:=hq_
  exact ⟨(A_,n_,c_),he_,h2_,hm0_.offA (fun _ h=>h) h3_ (pilT_upR hm0_.kept) (fun b hb=>by cases hb)⟩
 obtain ⟨A,n,ca⟩:=yq
 change Holds _ _ _ _ W3 (Turned []) _ [.ops [1,1,1,1,1,0] [2],.code [1,1,1,1,1,1]] ⟨[(44,.slice A n ca),(6,.slice none 0 0),(43,(pt pb 0))],[],[],W3.heap.size⟩
 refine hgS 5 [oh0] [6] [] [] [.code [1,1,1,1,1,1]] [] [] W3.heap.size ?_
 refine hrt [] [.slice A n ca] [] ?_
 intro wx hm
 exact ⟨A,n,ca,rfl,hEE _ _ _ _ _ hX3 (hm.kept.mono (fun k _ h=>by obtain ⟨b,hb,_⟩:=h; cases hb)),(MemOk.bck hm3 hm).kept⟩
end Go.Proofs.YtcmpkkapkdlfhaaGreat
