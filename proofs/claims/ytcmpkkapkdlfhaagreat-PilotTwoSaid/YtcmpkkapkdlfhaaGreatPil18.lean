import Derived.Test.YtcmpkkapkdlfhaaGreatNums
namespace Go.Proofs.YtcmpkkapkdlfhaaGreat
open Go.RowKit
set_option maxHeartbeats 4000000
set_option maxRecDepth 100000
theorem not_turned{w W:World}{S:Nat->Prop}{bk:List Bk}{wn:List Wn}{z D:Nat}{ds:List Deferred}(hm:MemOk w S bk wn z W)(hD:W.heap[D]?=some (.deferred (some ds))):¬Turned bk D:=by
 rintro⟨b,hb,_,he⟩
 have h1:=hm.blk b hb
 unfold Blk at h1
 rw[he,hD]at h1
 cases h1
theorem range_kept{w W w':World}{S S':Nat->Prop}{bk:List Bk}{wn:List Wn}{z:Nat}(hm:MemOk w S bk wn z W)(hk:Kept S' W w')(hs:∀k,k<w.heap.size->S' k->S k):Kept S w w':=hm.kept.trans hk hs
theorem MemOk.here{w0 w:World}{S:Nat->Prop}{bk:List Bk}{wn:List Wn}{sz:Nat}(hm:MemOk w0 S bk wn sz w):MemOk w0 S bk wn w.heap.size w:=by
 have h:=hm.size
 subst h
 exact hm
theorem num_off(x:Nat):numOff x=1∨numOff x=2∨numOff x=3∨numOff x=6∨numOff x=7:=by
 match x with
 |0=>exact .inl rfl
 |1=>exact .inr (.inl rfl)
 |2=>exact .inr (.inr (.inl rfl))
 |3=>exact .inr (.inr (.inr (.inl rfl)))
 |_+4=>exact .inr (.inr (.inr (.inr rfl)))
theorem okB_closed{r:RecM}(h:okB r=true)(ho:r.op=false):∃u F a b B,r=⟨u,F,a,b,B,false,0,0,0,⟨#[]⟩⟩∧(0<=F∧F<=16777215)∧(0<=a∧a<=16777215)∧(0<=b∧b<=16777215)∧((u=true∧B.size=16)∨(u=false∧B=⟨#[]⟩∧a=0∧b=0)):=by
 obtain⟨u,F,a,b,B,o,ie,is,m,s⟩:=r
 obtain rfl:o=false:=ho
 simp only[okB,tagB,Bool.and_eq_true,Bool.or_eq_true,n24_iff,Bool.false_eq_true,false_or,Bool.not_false,true_and,and_true,beq_iff_eq,Bool.not_eq_true',decide_eq_false_iff_not,fitB,cond_false]at h
 obtain⟨⟨⟨⟨h1,_⟩,hB,hs⟩,⟨rfl,rfl⟩,rfl⟩,hd⟩:=h
 obtain rfl:s=⟨#[]⟩:=size_zero.1 (by omega)
 refine⟨u,F,a,b,B,rfl,h1.1.1.1.1,h1.1.1.1.2,h1.1.1.2,?_⟩
 cases u with
 |true=>
  have h_:(B.size:Int)=16:=by simpa using hB
  exact .inl ⟨rfl,by omega⟩
 |false=>
  have h_:(B.size:Int)=0:=by simpa using hB
  exact .inr ⟨rfl,size_zero.1 (by omega),by simpa using hd⟩
theorem empty_toList:(⟨#[]⟩:ByteArray).toList=[]:=by rw[ByteArray.toList_eq]
theorem empty_size(s:ByteArray):(s.toList==(⟨#[]⟩:ByteArray).toList)=(bif false then(s.size:Int)==16 else(s.size:Int)==0):=by
 rw[cond_false,empty_toList]
 by_cases h:s.size=0
 ·obtain rfl:=size_zero.1 h
  rw[show noText.toList=[]from empty_toList]
  rfl
 ·have e:(s.toList==[])=false:=beq_eq_false_iff_ne.2 (fun e=>h (size_zero.2 ((toList_nil_iff_emptyBytes s).1 e)))
  rw[e,beq_eq_false_iff_ne.2 (by omega)]
theorem fits_any(s:ByteArray)(u:Bool)(w:World) :
  Calls Tryz.prog 118 #[sT s,.bool u] w (RetK (.bool (fitB s u)) w):=by
 refine cH (S:=(fun _=>False)) (n:=11) Tryz.func118 (MemOk.none w _) ?_
 refine hgE 12 (dz 2 0) [0,4,5] [] [] [.code [1,0,1],.code [1,1]] ⟨[(0,sT s),(4,.bool false),(5,.bool u)],[],[],w.heap.size⟩ ?_
 rcases Bool.eq_false_or_eq_true (u)with d1|d1
 ·skip
  refine hgS 11 (dz 5 1) [0,4] [eD d1] [] [.code [1,0,1,0,1],.code [1,1]] [] [] w.heap.size ?_
  refine hrt [] [.bool ((s.size:Int)==16)] [] ?_
  intro wx hm
  refine⟨ret_bool ?_,hm.kept⟩
  unfold fitB
  rw[d1]
  rfl
 ·skip
  refine hgS 11 (dz 4 0) [4] [eD d1] [] [.code [1,1,1]] [] [] w.heap.size ?_
  refine hrt [] [.bool (ByteArray.toList s==ByteArray.toList ⟨#[]⟩)] [] ?_
  intro wx hm
  refine⟨ret_bool ?_,hm.kept⟩
  unfold fitB
  rw[d1]
  exact empty_size s
section
variable (u:Bool)(F a b:Int)(B:ByteArray)(w:World)
def sr_v1:List Value:=[.bool u,i6 F,i6 a,i6 b,sT B,.bool false,i6 0,i6 0,i6 0,sT ⟨#[]⟩]
def sr_v2:List Value:=[.bool true,i6 F,i6 a,i6 b,sT B,.bool false,i6 0,i6 0,i6 0,sT ⟨#[]⟩]
def sr_v3:List Value:=[.bool false,i6 F,i6 0,i6 0,sT ⟨#[]⟩,.bool false,i6 0,i6 0,i6 0,sT ⟨#[]⟩]
def sr_n1:List OH:=[oh0,oh0,oh0,(oA 0 9 1),oh0,(oA 0 5 1)]
def sr_n2:List OH:=[oh0,(oA 0 8 1),oh0,oh0,oh0,(oA 0 8 1),oh0,⟨false,3,[]⟩,oh0,oh0,(oA 0 4 1),oh0,(oA 0 0 1)]
@[simp] def sr_b1:List Bk:=[⟨w.heap.size,61,true,(sr_v1 u F a b B)⟩,⟨w.heap.size+1,4,true,[.bool false]⟩,⟨w.heap.size+2,190,false,[(pt w.heap.size 0)]⟩]
@[simp] def sr_b2:List Bk:=[⟨w.heap.size,61,true,(sr_v2 F a b B)⟩,⟨w.heap.size+1,4,true,[.bool false]⟩,⟨w.heap.size+2,190,false,[(pt w.heap.size 0)]⟩]
@[simp] def sr_b3:List Bk:=[⟨w.heap.size,61,true,(sr_v3 F)⟩,⟨w.heap.size+1,4,true,[.bool false]⟩,⟨w.heap.size+2,190,false,[(pt w.heap.size 0)]⟩]
end
theorem right_cl(u:Bool)(F a b:Int)(B:ByteArray)(hF:0<=F∧F<=16777215)(ha:0<=a∧a<=16777215)(hb:0<=b∧b<=16777215)(hu:(u=true∧B.size=16)∨(u=false∧B=⟨#[]⟩∧a=0∧b=0))(w:World) :
  Calls Tryz.prog 101 #[.agg #[.bool u,i6 F,i6 a,i6 b,sT B,.bool false,i6 0,i6 0,i6 0,sT ⟨#[]⟩]] w (RetK (.bool true) w):=by
 refine calls_of_holdsM (m:=5) (S:=(fun _=>False)) (n:=67) Tryz.func101 (body_of (by kernel_rfl)) rfl (by simp) (MemOk.none w _) ?_
 refine hgE 11 (dz 2 0) [1,2] [] [] [.ops [1,0,0] [0],.code [1,0,1],.code [1,1]] ⟨[(1,(pt w.heap.size 0)),(2,(pt (w.heap.size+1) 0))],[⟨w.heap.size,61,true,(sr_v1 u F a b B)⟩,⟨w.heap.size+1,4,true,[.bool false]⟩],[],w.heap.size+2⟩ ?_
 refine holds_callM (.func (.func 138) #[] #[(pt (w.heap.size+2) 0)]) (sr_b1 u F a b B w) (show _=some (117,[(pt w.heap.size 0)],some 5,[])by kernel_rfl) tI rfl (fun wx hm=>?_) fun z2 hz2=>?_
 ·refine(nums_any _ wx).mono fun e w' he=>?_
  obtain⟨h7,h8,h9⟩:=he
  rw[hm.size]at h7 h8
  exact⟨h7,hm.add h9 [⟨w.heap.size+2,190,false,[(pt w.heap.size 0)]⟩] ⟨h8,trivial⟩ (by simp) (by simp)⟩
 replace hz2:w.heap.size+2<=z2:=hz2
 refine hgE 5 [] [1,2,5] [] [] [.code [1,0,1,0],.blk 0,.code [1,1]] ⟨[(1,(pt w.heap.size 0)),(2,(pt (w.heap.size+1) 0)),(5,.func (.func 138) #[] #[(pt (w.heap.size+2) 0)])],(sr_b1 u F a b B w),[],z2⟩ ?_
 refine holds_range (α:=Nat) (wn:=[]) (Bn:=w.heap.size+2) (N:=5) (enc:=fun i=>.pointer (some ⟨w.heap.size,numOff i,none⟩)) (Sq:=fun xs=>xs=[0,1,2,3,4]) (Spq:=NumsSp) rfl rfl (enters_of Tryz.func138 (by kernel_rfl) rfl) (fun wx hm=>hm.size▸(hm.at_ 2 rfl).lt) (by rintro⟨b,hb,hr,he⟩; simp at hb; rcases hb with rfl|rfl|rfl<;>simp at he hr) (fun wx hm=>nums_stops _ _ _ wx (hm.at_ 2 rfl))
  (fun _=>True) (fun _=>False) (fun _=>(sr_b1 u F a b B w)) (fun _=>(sr_b1 u F a b B w)) rfl trivial (fun _=>rfl) (fun _=>rfl) (fun x=>[(3,.pointer (some ⟨w.heap.size,numOff x,none⟩)),(6,.pointer (some ⟨w.heap.size,numOff x,none⟩)),(1,(pt w.heap.size 0)),(2,(pt (w.heap.size+1) 0)),(5,.func (.func 138) #[] #[(pt (w.heap.size+2) 0)])]) (fun x=>[(6,.pointer (some ⟨w.heap.size,numOff x,none⟩)),(1,(pt w.heap.size 0)),(2,(pt (w.heap.size+1) 0)),(5,.func (.func 138) #[] #[(pt (w.heap.size+2) 0)])]) (fun _=>rfl) ?_ ?_ ?_ ?_
 ·intro x l W
  refine hgER (fun _=>tI) 6 [oh0] [3,6,1,2,5] [] [] [] ⟨[(3,.pointer (some ⟨w.heap.size,numOff x,none⟩)),(6,.pointer (some ⟨w.heap.size,numOff x,none⟩)),(1,(pt w.heap.size 0)),(2,(pt (w.heap.size+1) 0)),(5,.func (.func 138) #[] #[(pt (w.heap.size+2) 0)])],[],[],W.heap.size⟩ ?_
  exact holdsR_end (fun a wx hf hm=>⟨rfl,hm.kept,hf⟩)
 ·intro l pre x W Z hZ hI _
  have hx:numOff x=1∨numOff x=2∨numOff x=3∨numOff x=6∨numOff x=7:=num_off x
  rcases hx with hx|hx|hx|hx|hx<;>rw[hx]
  ·skip
   refine hgER (fun _=>tI) 20 [oh0,oh0,(oA 0 1 1),oh0,oh0,oh0,oh0,(oA 0 1 1),oh0,⟨false,3,[]⟩,oh0] [2] [dF ((F:Int)<0),dF ((F:Int)<0),dF ((F:Int)<0),dF ((F:Int)<0),dF ((F:Int)<0),dF ((F:Int)>16777215)] [(w.heap.size,1,1),(w.heap.size,1,1)] [] ⟨[(2,(pt (w.heap.size+1) 0))],(sr_b1 u F a b B w),[],Z⟩ ?_
   exact holdsR_end (fun a wx hf hm=>.inl ⟨rfl,trivial,hm.here⟩)
  ·skip
   refine hgER (fun _=>tI) 20 [oh0,oh0,(oA 0 2 1),oh0,oh0,oh0,oh0,(oA 0 2 1),oh0,⟨false,3,[]⟩,oh0] [2] [dF ((a:Int)<0),dF ((a:Int)<0),dF ((a:Int)<0),dF ((a:Int)<0),dF ((a:Int)<0),dF ((a:Int)>16777215)] [(w.heap.size,2,1),(w.heap.size,2,1)] [] ⟨[(2,(pt (w.heap.size+1) 0))],(sr_b1 u F a b B w),[],Z⟩ ?_
   exact holdsR_end (fun a wx hf hm=>.inl ⟨rfl,trivial,hm.here⟩)
  ·skip
   refine hgER (fun _=>tI) 20 [oh0,oh0,(oA 0 3 1),oh0,oh0,oh0,oh0,(oA 0 3 1),oh0,⟨false,3,[]⟩,oh0] [2] [dF ((b:Int)<0),dF ((b:Int)<0),dF ((b:Int)<0),dF ((b:Int)<0),dF ((b:Int)<0),dF ((b:Int)>16777215)] [(w.heap.size,3,1),(w.heap.size,3,1)] [] ⟨[(2,(pt (w.heap.size+1) 0))],(sr_b1 u F a b B w),[],Z⟩ ?_
   exact holdsR_end (fun a wx hf hm=>.inl ⟨rfl,trivial,hm.here⟩)
  ·skip
   refine hgER (fun _=>tI) 20 [oh0,oh0,(oA 0 6 1),oh0,oh0,oh0,oh0,(oA 0 6 1),oh0,⟨false,3,[]⟩,oh0] [2] [fF,fF,fF,fF,fF,fF] [(w.heap.size,6,1),(w.heap.size,6,1)] [] ⟨[(2,(pt (w.heap.size+1) 0))],(sr_b1 u F a b B w),[],Z⟩ ?_
   exact holdsR_end (fun a wx hf hm=>.inl ⟨rfl,trivial,hm.here⟩)
  ·skip
   refine hgER (fun _=>tI) 20 [oh0,oh0,(oA 0 7 1),oh0,oh0,oh0,oh0,(oA 0 7 1),oh0,⟨false,3,[]⟩,oh0] [2] [fF,fF,fF,fF,fF,fF] [(w.heap.size,7,1),(w.heap.size,7,1)] [] ⟨[(2,(pt (w.heap.size+1) 0))],(sr_b1 u F a b B w),[],Z⟩ ?_
   exact holdsR_end (fun a wx hf hm=>.inl ⟨rfl,trivial,hm.here⟩)
 ·rintro D xs W rfl hI hmW hD hW hK
  have hKT:¬Turned (sr_b1 u F a b B w) D:=not_turned hmW hK
  rcases hu with⟨rfl,hB⟩|⟨rfl,rfl,rfl,rfl⟩
  ·skip
   refine hgS 25 sr_n2 [1,2,26,28] [fF,fF,fF,fF,fF] [(w.heap.size,8,1),(w.heap.size,8,1),(w.heap.size,4,1),(w.heap.size,0,1)] [.ops [1,1,1,0,0] [4,5,6,7,8,9,10,11,12,13],.code [1,1,1,0,1],.code [1,1,1,1]] (sr_b2 F a b B w) [] W.heap.size ?_
   refine hcp (.bool true) 118 [sT B,.bool true] (some 29) [] tI rfl (fun wx hm=>by
     have h:=fits_any B true wx
     rw[show fitB B true=true by simp[fitB,hB]]at h
     exact h) fun z11 hz11=>?_
   replace hz11:W.heap.size<=z11:=hz11
   refine hgS 9 sr_n1 [1,2,31,33,35] [fF,fF,fF,fF] [(w.heap.size,9,1),(w.heap.size,5,1)] [.ops [1,1,1,0,0] [11,12,13],.code [1,1,1,0,1],.code [1,1,1,1]] (sr_b2 F a b B w) [] z11 ?_
   refine hcq (.bool true) _ _ (some 36) [false=false] ⟨rfl,tI⟩ rfl (fun wx hm=>fits_any ⟨#[]⟩ false wx) fun z13 hz13=>?_
   refine hgE 51 (dz 35 0x100183100001111001000800370010808015020039020609100010508002003800040) [2] [fF,fF,fF,tT,tT,tT,tT,vV,tT,fF,fF,fF,tT,fF,tT,fF,tT,tT,tT,tT,tT,tT] [(z13,0,2),(w.heap.size,5,1),(w.heap.size,6,2),(z13,0,2),(w.heap.size,8,1),(w.heap.size,0,1),(w.heap.size+1,0,1)] [.code [1,1,1,1,1,1,1]] ⟨[(2,(pt (w.heap.size+1) 0))],[⟨w.heap.size,61,true,(sr_v2 F a b B)⟩,⟨w.heap.size+1,4,true,[.bool true]⟩,⟨w.heap.size+2,190,false,[(pt w.heap.size 0)]⟩,⟨z13,57,true,[i6 0,i6 0]⟩],[],z13+1⟩ ?_
   refine holds_retM [[⟨false,1,0,1⟩]] (Array.getElem?_eq_some_iff.1 hK).1 hK hKT (by kernel_rfl) (show _=some ([.bool true],dupR [(w.heap.size+1,0,1)])by kernel_rfl) (fun wx hm=>?_)
   refine⟨ret_bool rfl,range_kept hmW hm.kept (fun k hk hT=>?_)⟩
   rcases hT with⟨b,hb,hr,he⟩|rfl
   ·simp at hb; rcases hb with rfl|rfl|rfl<;>simp at he hr<;>omega
   ·omega
  ·skip
   refine hgS 25 sr_n2 [1,2,26,28] [fF,fF,fF,fF,fF] [(w.heap.size,8,1),(w.heap.size,8,1),(w.heap.size,4,1),(w.heap.size,0,1)] [.ops [1,1,1,0,0] [4,5,6,7,8,9,10,11,12,13],.code [1,1,1,0,1],.code [1,1,1,1]] (sr_b3 F w) [] W.heap.size ?_
   refine hcq (.bool true) _ _ (some 29) [] tI rfl (fun wx hm=>fits_any ⟨#[]⟩ false wx) fun z16 hz16=>?_
   refine hgS 9 sr_n1 [1,2,31,33,35] [fF,fF,fF,fF] [(w.heap.size,9,1),(w.heap.size,5,1)] [.ops [1,1,1,0,0] [11,12,13],.code [1,1,1,0,1],.code [1,1,1,1]] (sr_b3 F w) [] z16 ?_
   refine hcq (.bool true) _ _ (some 36) [false=false] ⟨rfl,tI⟩ rfl (fun wx hm=>fits_any ⟨#[]⟩ false wx) fun z18 hz18=>?_
   refine hgE 51 (dz 35 0x100184350200390202091000105080001000800370010808015020039020609100010508002003800040) [2] [fF,fF,fF,tT,tT,tT,tT,vV,tT,fF,fF,fF,tT,fF,tT,fF,fF,fF,fF,fF,tT,tT,tT,tT,vV,fF,tT,fF] [(z18,0,2),(w.heap.size,5,1),(w.heap.size,6,2),(z18,0,2),(w.heap.size,8,1),(w.heap.size,0,1),(w.heap.size,5,1),(w.heap.size,2,2),(z18,0,2),(w.heap.size+1,0,1)] [.code [1,1,1,1,1,1,1]] ⟨[(2,(pt (w.heap.size+1) 0))],[⟨w.heap.size,61,true,(sr_v3 F)⟩,⟨w.heap.size+1,4,true,[.bool true]⟩,⟨w.heap.size+2,190,false,[(pt w.heap.size 0)]⟩,⟨z18,57,true,[i6 0,i6 0]⟩],[],z18+1⟩ ?_
   refine holds_retM [[⟨false,1,0,1⟩]] (Array.getElem?_eq_some_iff.1 hK).1 hK hKT (by kernel_rfl) (show _=some ([.bool true],dupR [(w.heap.size+1,0,1)])by kernel_rfl) (fun wx hm=>?_)
   refine⟨ret_bool rfl,range_kept hmW hm.kept (fun k hk hT=>?_)⟩
   rcases hT with⟨b,hb,hr,he⟩|rfl
   ·simp at hb; rcases hb with rfl|rfl|rfl<;>simp at he hr<;>omega
   ·omega
 ·exact fun _ _ _ _ h=>h.elim
theorem right_rc(r:RecM)(h:okB r=true)(ho:r.op=false)(w:World):Calls Tryz.prog 101 #[.agg #[.bool r.used,i6 r.fence,i6 r.de,i6 r.ds,sT r.block,.bool r.op,i6 r.ie,i6 r.is,i6 r.mask,sT r.staged]] w (RetK (.bool true) w):=by
 obtain⟨u,F,a,b,B,rfl,hF,ha,hb,hu⟩:=okB_closed h ho
 exact right_cl u F a b B hF ha hb hu w
theorem party_node(n:Int)(hn:0<=n∧n<6)(w:World) :
  Calls Tryz.prog 69 #[i6 n] w (RetK (.bool true) w):=by
 refine cH (S:=(fun _=>False)) (n:=19) Tryz.func69 (MemOk.none w _) ?_
 refine hgS 24 (dz 10 4346413056) [0,2] (rE 3 (dT ((n:Int)>=0))++[dT ((n:Int)<6)]) [] [.code [1,0,0,1,0,1],.blk 0,.code [1,1]] [] [] w.heap.size ?_
 refine hrt [] [.bool true] [] ?_
 intro wx hm
 exact⟨rfl,hm.kept⟩
theorem party_pilot(n:Int)(hn:200<=n∧n<202)(w:World) :
  Calls Tryz.prog 69 #[i6 n] w (RetK (.bool true) w):=by
 refine cH (S:=(fun _=>False)) (n:=19) Tryz.func69 (MemOk.none w _) ?_
 refine hgS 35 (dz 18 0x10311000003110000) [0,2] (rE 3 (dT ((n:Int)>=0))++[dF ((n:Int)<6)]++rE 3 (dT ((n:Int)>=200))++[dT ((n:Int)<202)]) [] [.code [1,0,0,1,1,1,0,1],.blk 0,.code [1,1]] [] [] w.heap.size ?_
 refine hrt [] [.bool true] [] ?_
 intro wx hm
 exact⟨rfl,hm.kept⟩
theorem party_keeper  (w:World) :
  Calls Tryz.prog 69 #[i6 100] w (RetK (.bool true) w):=by
 refine cH (S:=(fun _=>False)) (n:=19) Tryz.func69 (MemOk.none w _) ?_
 refine hgS 39 (dz 20 0x400000003110000) [2] [tT,tT,tT,fF,fF,fF,fF,fF] [] [.code [1,1,1]] [] [] w.heap.size ?_
 refine hrt [] [.bool true] [] ?_
 intro wx hm
 exact⟨rfl,hm.kept⟩
theorem party_is(n:Int)(hn:(0<=n∧n<6)∨n=100∨(200<=n∧n<202))(w:World):Calls Tryz.prog 69 #[i6 n] w (RetK (.bool true) w):=by
 rcases hn with hn|rfl|hn
 ·exact party_node n hn w
 ·exact party_keeper w
 ·exact party_pilot n hn w
def SayOk(sy:SayR):Prop:=(1<=sy.st∧sy.st<=7)∧(0<=sy.ep∧sy.ep<=16777215)∧(-1<=sy.ou∧sy.ou<6)∧okB sy.rc=true∧sy.rc.op=false
def mrs_v1(sy:SayR):List Value:=[i6 sy.st,i6 sy.ep,i6 sy.ou,.bool sy.rc.used,i6 sy.rc.fence,i6 sy.rc.de,i6 sy.rc.ds,sT sy.rc.block,.bool sy.rc.op,i6 sy.rc.ie,i6 sy.rc.is,i6 sy.rc.mask,sT sy.rc.staged]
def mrs_v2(sy:SayR):List Value:=[.bool sy.rc.used,i6 sy.rc.fence,i6 sy.rc.de,i6 sy.rc.ds,sT sy.rc.block,.bool sy.rc.op,i6 sy.rc.ie,i6 sy.rc.is,i6 sy.rc.mask,sT sy.rc.staged]
theorem rightSay_ok(sy:SayR)(hsy:SayOk sy)(w:World) :
  Calls Tryz.prog 70 #[.agg #[i6 sy.st,i6 sy.ep,i6 sy.ou,.bool sy.rc.used,i6 sy.rc.fence,i6 sy.rc.de,i6 sy.rc.ds,sT sy.rc.block,.bool sy.rc.op,i6 sy.rc.ie,i6 sy.rc.is,i6 sy.rc.mask,sT sy.rc.staged]] w (RetK (.bool true) w):=by
 refine cH (S:=(fun _=>False)) (n:=32) Tryz.func70 (MemOk.none w _) ?_
 obtain⟨h1,h2,h3,h4,h5⟩:=hsy
 refine hgS 49 (dz 31 0xa0309103101020910001020800400101080000101080040010008000010008000) [2,27,29] (rE 4 (dF ((sy.st:Int)<1))++[dF ((sy.st:Int)>7)]++rE 4 (dF ((sy.ep:Int)<0))++[dF ((sy.ep:Int)>16777215)]++rE 4 (dT ((sy.ou:Int)>=(-1)))++rE 2 (dT ((sy.ou:Int)<6))) [(w.heap.size,0,1),(w.heap.size,0,1),(w.heap.size,1,1),(w.heap.size,1,1),(w.heap.size,2,1),(w.heap.size,2,1),(w.heap.size,3,10)] [.ops [1,1,1,0] [11,12,13],.code [1,1,1,1]] [⟨w.heap.size,63,true,(mrs_v1 sy)⟩] [] (w.heap.size+1) ?_
 refine hcq (.bool true) _ _ (some 30) [(decide ((sy.ou:Int)<6))=true] ⟨decide_eq_true (by omega),tI⟩ rfl (fun wx hm=>right_rc sy.rc h4 h5 wx) fun z2 hz2=>?_
 refine hgS 6 (dz 2 3) [2] [dT ((sy.ou:Int)<6)] [] [.code [1,1,1,1]] [⟨w.heap.size,63,true,(mrs_v1 sy)⟩] [] z2 ?_
 refine hrt [] [.bool true] [] ?_
 intro wx hm
 exact⟨rfl,hm.kept⟩
def mrt_v1(fr:Int)(dst:Int)(id:Int)(sy:SayR):List Value:=[i6 fr,i6 dst,i6 id,.bool true]++rp 8 (i6 0)++[sT ⟨#[]⟩,i6 sy.st,i6 sy.ep,i6 sy.ou,.bool sy.rc.used,i6 sy.rc.fence,i6 sy.rc.de,i6 sy.rc.ds,sT sy.rc.block,.bool sy.rc.op,i6 sy.rc.ie,i6 sy.rc.is,i6 sy.rc.mask,sT sy.rc.staged]
def mrt_v2(sy:SayR):List Value:=(mrs_v1 sy)
theorem msgRight_ans(fr dst id:Int)(sy:SayR)(hfr:(0<=fr∧fr<6)∨fr=100∨(200<=fr∧fr<202))(hto:(0<=dst∧dst<6)∨dst=100∨(200<=dst∧dst<202))(hid:1<=id∧id<=1099511627776)(hsy:SayOk sy)(w:World) :
  Calls Tryz.prog 41 #[.agg #[i6 fr,i6 dst,i6 id,.bool true,i6 0,i6 0,i6 0,i6 0,i6 0,i6 0,i6 0,i6 0,sT ⟨#[]⟩,i6 sy.st,i6 sy.ep,i6 sy.ou,.bool sy.rc.used,i6 sy.rc.fence,i6 sy.rc.de,i6 sy.rc.ds,sT sy.rc.block,.bool sy.rc.op,i6 sy.rc.ie,i6 sy.rc.is,i6 sy.rc.mask,sT sy.rc.staged]] w (RetK (.bool true) w):=by
 refine cH (S:=(fun _=>False)) (n:=43) Tryz.func41 (MemOk.none w _) ?_
 refine hgS 13 (dz 4 268468224) [1,2,4] [] [(w.heap.size,0,1)] [.ops [1,0,0] [2,3,4,5,6,7,8,9,10,11,12,13,14,15,16,17,18,19],.code [1,0,1],.code [1,1]] [⟨w.heap.size,65,true,(mrt_v1 fr dst id sy)⟩] [] (w.heap.size+1) ?_
 refine hcq (.bool true) _ _ (some 5) [] tI rfl (fun wx hm=>party_is fr hfr wx) fun z2 hz2=>?_
 refine hgS 7 (dz 4 269516800) [1,2,7,9] [fF,fF] [(w.heap.size,1,1)] [.ops [1,0,0] [7,8,9,10,11,12,13,14,15,16,17,18,19],.code [1,0,1],.code [1,1]] [⟨w.heap.size,65,true,(mrt_v1 fr dst id sy)⟩] [] z2 ?_
 refine hcq (.bool true) _ _ (some 10) [false=false] ⟨rfl,tI⟩ rfl (fun wx hm=>party_is dst hto wx) fun z4 hz4=>?_
 refine hgS 34 (dz 23 0xd0d09102009040801010308004001020800400102080040) [1,2,29,31] ([fF,fF,fF,fF,fF,fF]++rE 4 (dF ((id:Int)<1))++[dF ((id:Int)>1099511627776),tT,vV,tT,tT]) [(w.heap.size,2,1),(w.heap.size,2,1),(w.heap.size,3,1),(w.heap.size,4,9),(w.heap.size,13,13)] [.ops [1,1,0,1,0,0] [7,8,9],.code [1,1,0,1,0,1],.code [1,1,1]] [⟨w.heap.size,65,true,(mrt_v1 fr dst id sy)⟩] [] z4 ?_
 refine hcq (.bool true) _ _ (some 32) [true=true] ⟨rfl,tI⟩ rfl (fun wx hm=>rightSay_ok sy hsy wx) fun z6 hz6=>?_
 refine hgS 6 (dz 2 3) [1,2] [tT] [] [.code [1,1,0,1,0,1],.code [1,1,1]] [⟨w.heap.size,65,true,(mrt_v1 fr dst id sy)⟩] [] z6 ?_
 refine hrt [] [.bool true] [] ?_
 intro wx hm
 exact⟨rfl,hm.kept⟩
end Go.Proofs.YtcmpkkapkdlfhaaGreat
