import Derived.Test.YtkffgdfbdmgncaaLetter12
namespace Go.Proofs.Ytkffgdfbdmgncaa
open Go.RowKit
theorem letterOf_any (A:Option Addr) (n cp b0:Nat) (fs:List FldM) (w:World) (hF:OwnR w b0 60 2 A n cp (fldV fs)) (hS:∀ f ∈ fs,f.text.size ≤ 9223372036854775807) :
  Calls Try.prog 28 #[.slice A n cp] w (fun e w'=>(∃ l:LetM,e = .returned (.tuple #[.agg l.cells.toArray,.bool (letterV fs).isSome]) ∧ ∀ l',letterV fs = some l' → l' = l) ∧ Kept (fun _=>False) w w'):=by
 by_cases h7:n = 7
 ·subst h7
  obtain ⟨g,rfl,h1,h2⟩:=own_some hF (by omega)
  exact letterOf_7 g cp b0 fs h2 w h1 hF hS
 ·by_cases h12:n = 12
  ·subst h12
   obtain ⟨g,rfl,h1,h2⟩:=own_some hF (by omega)
   exact letterOf_12 g cp b0 fs h2 w h1 hF hS
  ·exact letterOf_x A n cp b0 fs h7 h12 w hF
theorem takeF_size:∀ (c:Nat) (s:List Int) (fs:List FldM),takeF c s = some fs → ∀ f ∈ fs,f.text.size ≤ 400
 | 0,s,fs,h=>by cases h
 | c + 1,[],fs,h=>by simp only [takeF,Option.some.injEq] at h; subst h; simp
 | c + 1,[_],fs,h=>by cases h
 | c + 1,[_,_],fs,h=>by cases h
 | c + 1,t :: a :: b :: r,fs,h=>by
  unfold takeF at h
  dsimp only at h
  split at h
  ·cases h
  ·rename_i hn
   obtain ⟨fs',h1,h2⟩:=Option.map_eq_some_iff.1 h
   subst h2
   intro f hf
   rcases List.mem_cons.1 hf with rfl | hf
   ·show (bytesI (r.take (a + 256 * b).toNat)).size ≤ 400
    rw [size_bytesI,List.length_take]
    omega
   ·exact takeF_size c _ fs' h1 f hf
def getL (s:ByteArray):Option LetM:=bif openOk s then (match takeM (intsOf (openT s)) with
 | some fs=>(match letterV fs with
  | some l=>bif rightL l && ((putT l).toList == s.toList) then some l else none
  | none=>none)
 | none=>none) else none
def getLE (s:ByteArray):Int:=bif (getL s).isSome then 0 else 120
theorem getL_open {s:ByteArray} (h:openOk s = false):getL s = none:=by unfold getL; rw [h]; rfl
theorem getL_take {s:ByteArray} (ho:openOk s = true) (h:takeM (intsOf (openT s)) = none):getL s = none:=by unfold getL; rw [ho,h]; rfl
theorem getL_let {s:ByteArray} {fs:List FldM} (ho:openOk s = true) (h:takeM (intsOf (openT s)) = some fs) (hl:letterV fs = none):getL s = none:=by unfold getL; rw [ho,h]; simp only [cond_true,hl]
theorem getL_some {s:ByteArray} {fs:List FldM} {l:LetM} (ho:openOk s = true) (h:takeM (intsOf (openT s)) = some fs) (hl:letterV fs = some l):getL s = bif rightL l && ((putT l).toList == s.toList) then some l else none:=by unfold getL; rw [ho,h]; simp only [cond_true,hl]
def getV_ (s:ByteArray):Value:=.tuple #[.agg (((getL s).getD zeroL).cells).toArray,i6 (getLE s)]
theorem getV_none {s:ByteArray} (h:getL s = none):(.tuple #[.agg (LetM.cells zeroL).toArray,.int .i64 120]:Value) = getV_ s:=by unfold getV_ getLE; rw [h]; rfl
theorem getV_some {s:ByteArray} {l:LetM} (h:getL s = some l):(.tuple #[.agg l.cells.toArray,.int .i64 0]:Value) = getV_ s:=by unfold getV_ getLE; rw [h]; rfl
def gtl_v1:List Value:=rp 3 (.int .i64 0) ++ [.bool false] ++ rp 8 (.int .i64 0) ++ [.string ⟨#[]⟩] ++ rp 3 (.int .i64 0) ++ [.bool false] ++ rp 3 (.int .i64 0) ++ [.string ⟨#[]⟩,.bool false] ++ rp 3 (.int .i64 0) ++ [.string ⟨#[]⟩]
def gtl_v2 (y:LetM):List Value:=[i6 y.fr,i6 y.dst,i6 y.id,.bool y.ans,i6 y.ask.kind,i6 y.ask.stripe,i6 y.ask.epoch,i6 y.ask.seq,i6 y.ask.mask,i6 y.ask.node,i6 y.ask.oe,i6 y.ask.os,sT y.ask.block,i6 y.say.st,i6 y.say.ep,i6 y.say.ou,.bool y.say.rc.used,i6 y.say.rc.fence,i6 y.say.rc.de,i6 y.say.rc.ds,sT y.say.rc.block,.bool y.say.rc.op,i6 y.say.rc.ie,i6 y.say.rc.is,i6 y.say.rc.mask,sT y.say.rc.staged]
def gtl_n1:List OH:=[oh0,oh0,oh0,oh0,oh0,oh0,oh0,oh1,oh0,⟨false,0,[⟨false,0,0,26⟩]⟩,oh0]
@[simp] def gtl_b1 (y:LetM) (w:World) (z15:Nat):List Bk:=[⟨w.heap.size,31,true,(gtl_v1)⟩,⟨z15,31,true,(gtl_v2 y)⟩]
set_option maxRecDepth 100000 in
set_option maxHeartbeats 4000000 in
theorem getLet_any (s:ByteArray) (hs:(s.size:Int) ≤ 9223372036854775807) (w:World) :
  Calls Try.prog 12 #[.string s] w (RetK (getV_ s) w):=by
 refine calls_of_holds (S:=(fun _=>False)) (l:=[.string s]) (n:=48) Try.func12 (body_of (by kernel_rfl)) rfl (by simp) (MemOk.none w _) ?_
 refine hgE 11 [oh0,oh0,oh0] [0,2,3,11] [] [] [.ops [1,0] [1,2,3,4,5,6],.code [1,1]] ⟨[(0,sT s),(2,(pt w.heap.size 0)),(3,i6 0),(11,sT s)],[⟨w.heap.size,31,true,(gtl_v1)⟩],[],w.heap.size + 1⟩ ?_
 rcases Bool.eq_false_or_eq_true (openOk s) with ho | ho
 rotate_left
 ·skip
  refine hcp (.tuple #[sT ⟨#[]⟩,i6 40]) 26 [sT s] (some 12) [] tI rfl (fun wx hm=>by have h:=open_any s hs wx; rw [ho] at h; exact h) fun z2 hz2=>?_
  replace hz2:w.heap.size + 1 ≤ z2:=hz2
  refine hgE 22 gtl_n1 [0,2,3,4,5] [tT] [(w.heap.size,0,26)] [.code [1,1,0,1,0,1],.code [1,1,1]] ⟨[(0,sT s),(2,(pt w.heap.size 0)),(3,i6 120),(4,sT ⟨#[]⟩),(5,i6 40)],[⟨w.heap.size,31,true,(gtl_v1)⟩],[],z2⟩ ?_
  refine hrt [[⟨false,0,0,26⟩]] [.agg (List.toArray (gtl_v1)),i6 120] [(w.heap.size,0,26)] ?_
  intro wx hm
  exact ⟨congrArg _ (getV_none (getL_open ho)),hm.kept⟩
 refine hcp (.tuple #[sT (openT s),i6 0]) 26 [sT s] (some 12) [] tI rfl (fun wx hm=>by have h:=open_any s hs wx; rw [ho] at h; exact h) fun z5 hz5=>?_
 replace hz5:w.heap.size + 1 ≤ z5:=hz5
 have hos:=openT_size ho
 refine hgE 20 [oh0,oh0,oh0,oh0,oh0,oh0,oh0,oh0,oh0] [0,2,3,5,19] [fF] [] [.ops [1,1,1,0] [1,2,3,4,5,6],.code [1,1,1,1]] ⟨[(0,sT s),(2,(pt w.heap.size 0)),(3,i6 0),(5,i6 0),(19,sT (openT s))],[⟨w.heap.size,31,true,(gtl_v1)⟩],[],z5⟩ ?_
 rcases Option.eq_none_or_eq_some (takeM (intsOf (openT s))) with ht | ⟨fs,ht⟩
 ·skip
  refine hcp (.tuple #[.slice none 0 0,i6 30]) 27 [sT (openT s)] (some 20) [] tI rfl (fun wx hm=>by have h:=take_any (openT s) (by omega) wx; rw [ht] at h; exact h) fun z7 hz7=>?_
  replace hz7:z5 ≤ z7:=hz7
  refine hgE 22 gtl_n1 [0,2,3,5,6] [tT] [(w.heap.size,0,26)] [.code [1,1,1,1,0,1,0,1],.code [1,1,1,1,1]] ⟨[(0,sT s),(2,(pt w.heap.size 0)),(3,i6 120),(5,i6 30),(6,.slice none 0 0)],[⟨w.heap.size,31,true,(gtl_v1)⟩],[],z7⟩ ?_
  refine hrt [[⟨false,0,0,26⟩]] [.agg (List.toArray (gtl_v1)),i6 120] [(w.heap.size,0,26)] ?_
  intro wx hm
  exact ⟨congrArg _ (getV_none (getL_take ho ht)),hm.kept⟩
 have hfz:=takeF_size _ _ _ ht
 refine holds_callV (w:=w) (S':=(fun _=>False)) (Y:=Option Addr × Nat) (fun yq=>.tuple #[.slice yq.1 fs.length yq.2,i6 0]) (fun yq=>[⟨w.heap.size,31,true,(gtl_v1)⟩]) (fun yq W_=>OwnR W_ w.heap.size 60 2 yq.1 fs.length yq.2 (fldV fs)) (fun yq=>[(20,.tuple #[.slice yq.1 fs.length yq.2,i6 0]),(0,sT s),(2,(pt w.heap.size 0)),(3,i6 0),(5,i6 0),(19,sT (openT s))]) (show _ = some (27,[sT (openT s)],some 20,[]) by kernel_rfl) tI (fun _=>rfl) (fun wx hm=>?_) (fun yq W2 hX2 hm2=>?_)
 ·have h:=take_any (openT s) (by omega) wx
  rw [ht] at h
  refine h.mono fun e w' ⟨A',cp',h1,h2,h3⟩=>?_
  exact ⟨(A',cp'),h1,h2.below hm.kept.size,hm.offA (fun _ h=>h) h3 (fun _ h=>h.elim) (fun b _ h=>h)⟩
 obtain ⟨A,cp⟩:=yq
 replace hX2:OwnR W2 w.heap.size 60 2 A fs.length cp (fldV fs):=hX2
 refine hgE 20 [oh0,oh0,oh0,oh0,oh0,oh0,oh0,oh0,oh0] [0,2,3,5,27] [fF] [] [.ops [1,1,1,1,1,0] [1,2,3,4,5,6,7],.code [1,1,1,1,1,1]] ⟨[(0,sT s),(2,(pt w.heap.size 0)),(3,i6 0),(5,i6 0),(27,.slice A fs.length cp)],[⟨w.heap.size,31,true,(gtl_v1)⟩],[],W2.heap.size⟩ ?_
 rcases Option.eq_none_or_eq_some (letterV fs) with hl | ⟨l,hl⟩
 ·skip
  refine holds_callX (X:=LetM) (fun y=>True) (fun y=>.tuple #[.agg (List.toArray (gtl_v2 y)),.bool false]) (fun y=>[⟨w.heap.size,31,true,(gtl_v1)⟩]) (fun y=>[(28,.tuple #[.agg (List.toArray (gtl_v2 y)),.bool false]),(0,sT s),(2,(pt w.heap.size 0)),(3,i6 0),(5,i6 0),(27,.slice A fs.length cp)]) (show _ = some (28,[.slice A fs.length cp],some 28,[]) by kernel_rfl) tI (fun _=>rfl) (fun wx hm=>?_) ?_
  ·refine (letterOf_any A fs.length cp w.heap.size fs wx (hX2.kept hm.kept (hX2.calm hm2 (by simp))) (fun f hf=>Nat.le_trans (hfz f hf) (by decide))).mono fun e w' ⟨⟨l_,h1,h2⟩,h3⟩=>?_
   rw [hl] at h1 h2
   have h4:=hm.same h3
   exact ⟨l_,trivial,h1,h4.1,h4.2⟩
  intro y hy z12 hz12
  replace hz12:W2.heap.size ≤ z12:=hz12
  clear hy
  refine hgE 23 [oh0,oh0,oh0,oh0,(oA 1 0 26),oh0,oh0,oh0,oh1,oh0,(oA 0 0 26),oh0] [0,2,3,5,7] [tT] [(z12,0,26),(w.heap.size,0,26)] [.code [1,1,1,1,1,1,0,1,0,1],.code [1,1,1,1,1,1,1]] ⟨[(0,sT s),(2,(pt w.heap.size 0)),(3,i6 120),(5,i6 0),(7,(pt z12 0))],[⟨w.heap.size,31,true,(gtl_v1)⟩,⟨z12,31,true,(gtl_v2 y)⟩],[],z12 + 1⟩ ?_
  refine hrt [[⟨false,0,0,26⟩]] [.agg (List.toArray (gtl_v1)),i6 120] [(w.heap.size,0,26)] ?_
  intro wx hm
  exact ⟨congrArg _ (getV_none (getL_let ho ht hl)),(MemOk.bck hm2 hm).kept⟩
 ·skip
  refine holds_callX (X:=LetM) (fun y=>letterV fs = some y) (fun y=>.tuple #[.agg (List.toArray (gtl_v2 y)),.bool true]) (fun y=>[⟨w.heap.size,31,true,(gtl_v1)⟩]) (fun y=>[(28,.tuple #[.agg (List.toArray (gtl_v2 y)),.bool true]),(0,sT s),(2,(pt w.heap.size 0)),(3,i6 0),(5,i6 0),(27,.slice A fs.length cp)]) (show _ = some (28,[.slice A fs.length cp],some 28,[]) by kernel_rfl) tI (fun _=>rfl) (fun wx hm=>?_) ?_
  ·refine (letterOf_any A fs.length cp w.heap.size fs wx (hX2.kept hm.kept (hX2.calm hm2 (by simp))) (fun f hf=>Nat.le_trans (hfz f hf) (by decide))).mono fun e w' ⟨⟨l_,h1,h2⟩,h3⟩=>?_
   rw [hl] at h1 h2
   have h4:=hm.same h3
   exact ⟨l_,by rw [hl,h2 _ rfl],h1,h4.1,h4.2⟩
  intro y hy z15 hz15
  replace hz15:W2.heap.size ≤ z15:=hz15
  refine hgE 21 [oh0,oh0,oh0,oh0,(oA 1 0 26),oh0,oh0,oh0,oh0,(oA 1 0 26)] [0,2,3,5,7,35] [fF] [(z15,0,26),(z15,0,26)] [.ops [1,1,1,1,1,1,1,0] [1,2,3,4,5,6],.code [1,1,1,1,1,1,1,1]] ⟨[(0,sT s),(2,(pt w.heap.size 0)),(3,i6 0),(5,i6 0),(7,(pt z15 0)),(35,.agg (List.toArray (gtl_v2 y)))],(gtl_b1 y w z15),[],z15 + 1⟩ ?_
  have hg:=getL_some ho ht hy
  rcases Bool.eq_false_or_eq_true (rightL y) with hr | hr
  rotate_left
  ·skip
   refine hcp (.tuple #[sT ⟨#[]⟩,i6 120]) 10 [.agg (List.toArray (gtl_v2 y))] (some 36) [] tI rfl (fun wx hm=>by have h:=put_any y wx; unfold putT putE at h; rw [hr] at h; exact h) fun z17 hz17=>?_
   replace hz17:z15 + 1 ≤ z17:=hz17
   refine hgE 27 [oh0,oh0,oh0,oh0,oh0,oh0,oh0,oh0,oh1,oh1,oh1,oh3,oh1,oh0,(oA 0 0 26),oh0] [2,3,7] [tT,tT,tT,tT,tT] [(w.heap.size,0,26)] [.code [1,1,1,1,1,1,1,1,0,1,0,1],.code [1,1,1,1,1,1,1,1,1]] ⟨[(2,(pt w.heap.size 0)),(3,i6 120),(7,(pt z15 0))],(gtl_b1 y w z15),[],z17⟩ ?_
   refine hrt [[⟨false,0,0,26⟩]] [.agg (List.toArray (gtl_v1)),i6 120] [(w.heap.size,0,26)] ?_
   intro wx hm
   exact ⟨congrArg _ (getV_none (by rw [hg,hr]; rfl)),(MemOk.bck hm2 hm).kept⟩
  refine hcp (.tuple #[sT (putT y),i6 0]) 10 [.agg (List.toArray (gtl_v2 y))] (some 36) [] tI rfl (fun wx hm=>by have h:=put_any y wx; unfold putE at h; rw [hr] at h; exact h) fun z20 hz20=>?_
  replace hz20:z15 + 1 ≤ z20:=hz20
  rcases Bool.eq_false_or_eq_true (ByteArray.toList (putT y) == ByteArray.toList s) with he | he
  ·skip
   refine hgE 28 [oh0,oh0,oh0,oh0,oh0,oh0,oh0,oh0,oh0,oh0,oh0,⟨false,3,[]⟩,oh0,(oA 1 0 26),(oA 0 0 26),oh0] [2,3] [fF,fF,fF,fF,eD (nF he)] [(z15,0,26),(w.heap.size,0,26)] [.code [1,1,1,1,1,1,1,1,1,1]] ⟨[(2,(pt w.heap.size 0)),(3,i6 0)],[⟨w.heap.size,31,true,(gtl_v2 y)⟩,⟨z15,31,true,(gtl_v2 y)⟩],[],z20⟩ ?_
   refine hrt [[⟨false,0,0,26⟩]] [.agg (List.toArray (gtl_v2 y)),i6 0] [(w.heap.size,0,26)] ?_
   intro wx hm
   exact ⟨congrArg _ (getV_some (by rw [hg,hr,show ((putT y).toList == s.toList) = true from he]; rfl)),(MemOk.bck hm2 hm).kept⟩
  ·skip
   refine hgE 27 [oh0,oh0,oh0,oh0,oh0,oh0,oh0,oh0,oh0,oh0,oh0,⟨false,3,[]⟩,oh1,oh0,(oA 0 0 26),oh0] [2,3,7] [fF,fF,fF,fF,eD (nT he)] [(w.heap.size,0,26)] [.code [1,1,1,1,1,1,1,1,0,1,0,1],.code [1,1,1,1,1,1,1,1,1]] ⟨[(2,(pt w.heap.size 0)),(3,i6 120),(7,(pt z15 0))],(gtl_b1 y w z15),[],z20⟩ ?_
   refine hrt [[⟨false,0,0,26⟩]] [.agg (List.toArray (gtl_v1)),i6 120] [(w.heap.size,0,26)] ?_
   intro wx hm
   exact ⟨congrArg _ (getV_none (by rw [hg,hr,show ((putT y).toList == s.toList) = false from he]; rfl)),(MemOk.bck hm2 hm).kept⟩
theorem zeroQ_of {q:AskM} (h:askZ q = true):q = zeroQ:=by
 obtain ⟨a1,a2,a3,a4,a5,a6,a7,a8,a9⟩:=q
 unfold askZ at h
 simp only [and_iff,beqZ,beqE,and_true] at h
 obtain ⟨rfl,rfl,rfl,rfl,rfl,rfl,⟨rfl,rfl⟩,h9⟩:=h
 rw [size_zero.1 h9]
 rfl
theorem recZ_iff {r:RecM} (h:recZ r = true):r = blankR 0:=by
 obtain ⟨a1,a2,a3,a4,a5,a6,a7,a8,a9,a0⟩:=r
 unfold recZ at h
 simp only [and_iff,beqE,and_true,beq_iff_eq] at h
 obtain ⟨rfl,rfl,⟨rfl,rfl⟩,h5,rfl,⟨rfl,rfl⟩,rfl,h0⟩:=h
 rw [size_zero.1 h5,size_zero.1 h0]
 rfl
theorem zeroS_of {s:SayR} (h:sayZ s = true):s = zeroS:=by
 obtain ⟨a1,a2,a3,rc⟩:=s
 unfold sayZ at h
 simp only [and_iff,beqE,and_true,beq_iff_eq] at h
 obtain ⟨rfl,rfl,rfl,h4⟩:=h
 have:rc = blankR 0:=by
  obtain ⟨a1,a2,a3,a4,a5,a6,a7,a8,a9,a0⟩:=rc
  obtain ⟨rfl,rfl,⟨rfl,rfl⟩,h5,rfl,⟨rfl,rfl⟩,rfl,h0⟩:=h4
  dsimp only at h5 h0
  rw [size_zero.1 h5,size_zero.1 h0]
  rfl
 rw [this]
 rfl
theorem letter_back {l:LetM} (h:rightL l = true):letterV (fldsM l) = some l:=by
 have hb:=letBd h
 have hn:=(fldsM_ok h).2.1
 have gn:∀ n:Int,numOk n = true → getOk (numT n) = true ∧ getV (numT n) = n:=fun n hn=>get_num ((numOk_iff n).1 hn)
 have hh:=headN_ok hb
 have h1:=gn l.fr (hh _ (by simp [headN]))
 have h2:=gn l.dst (hh _ (by simp [headN]))
 have h3:=gn l.id (hh _ (by simp [headN]))
 cases ha:l.ans with
 | true=>
  obtain ⟨hs,hq⟩:=hb.say ha
  have hsn:=sayN_ok hs
  have h4:=gn l.say.st (hsn _ (by simp [sayN]))
  have h5:=gn l.say.ep (hsn _ (by simp [sayN]))
  have h6:=gn l.say.ou (hsn _ (by simp [sayN]))
  have hre:=(saBd hs).2.2.2
  have e:fldsM l = [⟨1,numT l.fr⟩,⟨2,numT l.dst⟩,⟨3,numT l.id⟩,⟨32,numT l.say.st⟩,⟨33,numT l.say.ep⟩,⟨34,numT l.say.ou⟩,⟨35,recT l.say.rc⟩]:=by unfold fldsM; rw [ha]; rfl
  have hrc:(decide ((recT l.say.rc).size = 0) || (unpackE 0 (recT l.say.rc) == 0)) = true ∧ (bif decide ((recT l.say.rc).size = 0) then blankR 0 else unpackR 0 (recT l.say.rc)) = l.say.rc:=by
   unfold recT
   cases hz:recZ l.say.rc with
   | true=>exact ⟨rfl,(recZ_iff hz).symm⟩
   | false=>
    obtain ⟨hu1,hu2⟩:=unpack_pack (st:=0) (by omega) hre
    rw [cond_false,hu2,decide_eq_false (by rw [size_packS]; decide)]
    exact ⟨rfl,hu1⟩
  have hok:ok7 (fldsM l) = true:=by
   unfold ok7
   rw [e]
   show ((getOk (numT l.fr) && (getOk (numT l.dst) && (getOk (numT l.id) && true))) && ((getOk (numT l.say.st) && (getOk (numT l.say.ep) && (getOk (numT l.say.ou) && true))) && (decide ((recT l.say.rc).size = 0) || (unpackE 0 (recT l.say.rc) == 0)))) = true
   rw [h1.1,h2.1,h3.1,h4.1,h5.1,h6.1,hrc.1]
   rfl
  have hle:letter7 (fldsM l) = l:=by
   rw [e]
   show (⟨getV (numT l.fr),getV (numT l.dst),getV (numT l.id),true,zeroQ,⟨getV (numT l.say.st),getV (numT l.say.ep),getV (numT l.say.ou),bif decide ((recT l.say.rc).size = 0) then blankR 0 else unpackR 0 (recT l.say.rc)⟩⟩:LetM) = l
   rw [h1.2,h2.2,h3.2,h4.2,h5.2,h6.2,hrc.2,← zeroQ_of hq,← ha]
  unfold letterV
  rw [if_pos (by rw [hn,ha]; rfl),hok,hle]
  rfl
 | false=>
  obtain ⟨hq,_,hs⟩:=hb.ask ha
  have hqn:=askN_ok hq
  have g1:=gn l.ask.kind (hqn _ (by simp [askN]))
  have g2:=gn l.ask.stripe (hqn _ (by simp [askN]))
  have g3:=gn l.ask.epoch (hqn _ (by simp [askN]))
  have g4:=gn l.ask.seq (hqn _ (by simp [askN]))
  have g5:=gn l.ask.mask (hqn _ (by simp [askN]))
  have g6:=gn l.ask.node (hqn _ (by simp [askN]))
  have g7:=gn l.ask.oe (hqn _ (by simp [askN]))
  have g8:=gn l.ask.os (hqn _ (by simp [askN]))
  have e:fldsM l = [⟨1,numT l.fr⟩,⟨2,numT l.dst⟩,⟨3,numT l.id⟩,⟨16,numT l.ask.kind⟩,⟨17,numT l.ask.stripe⟩,⟨18,numT l.ask.epoch⟩,⟨19,numT l.ask.seq⟩,⟨20,numT l.ask.mask⟩,⟨21,numT l.ask.node⟩,⟨22,numT l.ask.oe⟩,⟨23,numT l.ask.os⟩,⟨24,l.ask.block⟩]:=by unfold fldsM; rw [ha]; rfl
  have hok:ok12 (fldsM l) = true:=by
   unfold ok12
   rw [e]
   show ((getOk (numT l.fr) && (getOk (numT l.dst) && (getOk (numT l.id) && true))) && (getOk (numT l.ask.kind) && (getOk (numT l.ask.stripe) && (getOk (numT l.ask.epoch) && (getOk (numT l.ask.seq) && (getOk (numT l.ask.mask) && (getOk (numT l.ask.node) && (getOk (numT l.ask.oe) && (getOk (numT l.ask.os) && true))))))))) = true
   rw [h1.1,h2.1,h3.1,g1.1,g2.1,g3.1,g4.1,g5.1,g6.1,g7.1,g8.1]
   rfl
  have hle:letter12 (fldsM l) = l:=by
   rw [e]
   show (⟨getV (numT l.fr),getV (numT l.dst),getV (numT l.id),false,⟨getV (numT l.ask.kind),getV (numT l.ask.stripe),getV (numT l.ask.epoch),getV (numT l.ask.seq),getV (numT l.ask.mask),getV (numT l.ask.node),getV (numT l.ask.oe),getV (numT l.ask.os),l.ask.block⟩,zeroS⟩:LetM) = l
   rw [h1.2,h2.2,h3.2,g1.2,g2.2,g3.2,g4.2,g5.2,g6.2,g7.2,g8.2,← zeroS_of hs,← ha]
  have hn2:(fldsM l).length = 12:=by rw [hn,ha]; rfl
  unfold letterV
  rw [if_neg (by rw [hn2]; decide),if_pos hn2,hok,hle]
  rfl
theorem putT_right {l:LetM} (h:rightL l = true):putT l = frameT (layT (fldsM l)):=by unfold putT; rw [h]; rfl
theorem get_put {l:LetM} (h:rightL l = true):getL (putT l) = some l:=by
 obtain ⟨h1,h2,h3,h4⟩:=fldsM_ok h
 obtain ⟨ho,ht⟩:=open_frame (s:=layT (fldsM l)) (by rw [len_layT]; omega)
 rw [← putT_right h] at ho ht
 have htk:takeM (intsOf (openT (putT l))) = some (fldsM l):=by
  rw [ht]
  unfold layT
  rw [intsOf_bytesI (byts_layI _)]
  simp only [layOk,Bool.and_eq_true,decide_eq_true_eq] at h1
  exact take_lay 65 _ (by omega) h1.2
 rw [getL_some ho htk (letter_back h),h,beq_self_eq_true]
 rfl
end Go.Proofs.Ytkffgdfbdmgncaa
