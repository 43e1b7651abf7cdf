import Derived.Test.YtpilmccjjbgmiaaLawM
import Derived.Test.YtpilmccjjbgmiaaUnpack8
import Derived.Test.YtpilmccjjbgmiaaShelfL
namespace Go.Proofs.Ytpilmccjjbgmiaa
open Go.RowKit
def gotM (M:Pl) (k:Int):RecM:=unpackR k (bytesI (readPl M k))
theorem unpack_bad {k:Int} {s:ByteArray} (h:unpackE k s ≠ 0):unpackR k s = blankR 0:=by
 unfold unpackE unpackR at *
 cases hg:takeGood k s with
 | true=>rw [hg] at h; exact absurd rfl h
 | false=>rfl
def secOf (k:Int) (r:RecM):List Int:=intsOf (packS k r)
def setPl (M:Pl) (k:Int) (r:RecM):Pl:=if M.goes = true then flushPl (writePl M k (secOf k r)) else writePl M k (secOf k r)
def setE (M:Pl) (k:Int) (r:RecM):Int:=if M.goes = true then goesE (writePl M k (secOf k r)) else 70
theorem mine_set (M:Pl) (pb:Nat) (k:Int) (r:RecM):minePl pb (setPl M k r) = minePl pb M:=by
 unfold setPl
 split
 ·rw [mine_flush,mine_write]
 ·rw [mine_write]
set_option maxRecDepth 100000 in
set_option maxHeartbeats 4000000 in
theorem shas_true (sb pb:Nat) (st k:Int) (hk:0 ≤ k ∧ k < st) (w:World) (hs:Blk w sb 92 [.pointer (some ⟨pb,0,none⟩),.int .i64 st]) :
  Calls Try.prog 58 #[.pointer (some ⟨sb,0,none⟩),.int .i64 k] w (RetK (.bool true) w):=by
 refine calls_of_holds (S:=(fun _=>False)) (l:=[(pt sb 0),.int .i64 k]) (n:=15) Try.func58 (body_of (by kernel_rfl)) rfl (by simp) (MemOk.start (bk:=[⟨sb,92,false,[(pt pb 0),.int .i64 st]⟩]) (wn:=[]) (by simpa using hs) (by simp) (by simp) (by simp)) ?_
 refine hgE 21 [oh0,oh0,oh0,oh0,oh1,oh1,oh1,oh1,⟨true,0,[⟨false,0,1,1⟩]⟩,oh1,oh3,oh0] [4] [dT ((k:Int) ≥ 0),dT ((k:Int) ≥ 0),dT ((k:Int) ≥ 0),dT ((k:Int) ≥ 0),dT ((k:Int) ≥ 0),dT ((k:Int) ≥ 0),dT ((k:Int) ≥ 0)] [(sb,1,1)] [.code [1,1]] ⟨[(4,.bool (decide ((k:Int) < st)))],[⟨sb,92,false,[(pt pb 0),i6 st]⟩],[],w.heap.size⟩ ?_
 refine hrt [] [.bool (decide ((k:Int) < st))] [] ?_
 intro wx hm
 exact ⟨ret_bool (decide_eq_true (by omega)),hm.kept⟩
def sgt_v1:List Value:=[.bool false] ++ rp 3 (.int .i64 0) ++ [.string ⟨#[]⟩,.bool false] ++ rp 3 (.int .i64 0) ++ [.string ⟨#[]⟩]
def sgt_v2 (k:Int) (M:Pl):List Value:=[.bool ((unpackR k (bytesI (readPl M k))).used),i6 ((unpackR k (bytesI (readPl M k))).fence),i6 ((unpackR k (bytesI (readPl M k))).de),i6 ((unpackR k (bytesI (readPl M k))).ds),sT ((unpackR k (bytesI (readPl M k))).block),.bool ((unpackR k (bytesI (readPl M k))).op),i6 ((unpackR k (bytesI (readPl M k))).ie),i6 ((unpackR k (bytesI (readPl M k))).is),i6 ((unpackR k (bytesI (readPl M k))).mask),sT ((unpackR k (bytesI (readPl M k))).staged)]
@[simp] def sgt_b1 (st:Int) (pb:Nat) (sb:Nat) (w:World):List Bk:=[⟨sb,92,false,[(pt pb 0),i6 st]⟩,⟨w.heap.size,25,true,(sgt_v1)⟩]
@[simp] def sgt_b2 (k:Int) (st:Int) (M:Pl) (pb:Nat) (sb:Nat) (w:World) (z6:Nat):List Bk:=[⟨sb,92,false,[(pt pb 0),i6 st]⟩,⟨w.heap.size,25,true,(sgt_v1)⟩,⟨z6,25,true,(sgt_v2 k M)⟩]
set_option maxRecDepth 100000 in
set_option maxHeartbeats 4000000 in
theorem get_pl (M:Pl) (sb pb:Nat) (st k:Int) (hk:0 ≤ k ∧ k < st) (hk2:0 ≤ k ∧ k < (M.n:Int)) (hoff:M.off = false) (w:World) (hP:PlatAt 90 94 w pb M) (hs:Blk w sb 92 [.pointer (some ⟨pb,0,none⟩),.int .i64 st]) :
  Calls Try.prog 23 #[.pointer (some ⟨sb,0,none⟩),.int .i64 k] w (RetK (.tuple #[.agg (gotM M k).cells.toArray,.int .i64 0]) w):=by
 refine calls_of_holds (S:=(fun _=>False)) (l:=[(pt sb 0),.int .i64 k]) (n:=37) Try.func23 (body_of (by kernel_rfl)) rfl (by simp) (MemOk.start (bk:=[⟨sb,92,false,[(pt pb 0),.int .i64 st]⟩]) (wn:=[]) (by simpa using hs) (by simp) (by simp) (by simp)) ?_
 refine hgE 13 [oh0,oh0,oh0,oh0] [0,1,4,5,9,10] [] [] [.ops [1,0,0] [2,3],.code [1,0,1],.code [1,1]] ⟨[(0,(pt sb 0)),(1,i6 k),(4,(pt w.heap.size 0)),(5,i6 0),(9,(pt sb 0)),(10,i6 k)],(sgt_b1 st pb sb w),[],w.heap.size + 1⟩ ?_
 refine hcp (.bool true) 58 [(pt sb 0),i6 k] (some 11) [] tI rfl (fun wx hm=>shas_true sb pb st k hk wx (hm.at_ 0 rfl)) fun z2 hz2=>?_
 replace hz2:w.heap.size + 1 ≤ z2:=hz2
 refine hgE 14 [oh0,oh0,oh0,oh0,oh0,(oA 0 0 1),oh0] [1,4,5,18,19] [fF] [(sb,0,1)] [.ops [1,1,0] [5,6,7,8,9,10],.code [1,1,1]] ⟨[(1,i6 k),(4,(pt w.heap.size 0)),(5,i6 0),(18,(pt pb 0)),(19,i6 k)],(sgt_b1 st pb sb w),[],z2⟩ ?_
 refine hcp (.tuple #[sT (bytesI (readPl M k)),i6 0]) 59 [(pt pb 0),i6 k] (some 20) [] tI rfl (fun wx hm=>read_pl M pb k hk2 hoff wx (hP.kept hm.kept (fun _ _ h=>h))) fun z4 hz4=>?_
 replace hz4:z2 ≤ z4:=hz4
 refine hgE 21 [oh0,oh0,oh0,oh0,oh0,oh0,oh0,oh0,oh0,oh0] [4,5,7,28,29] [fF] [] [.ops [1,1,1,1,0] [2,3,4,5,6,7,8],.code [1,1,1,1,1]] ⟨[(4,(pt w.heap.size 0)),(5,i6 0),(7,i6 0),(28,i6 k),(29,sT (bytesI (readPl M k)))],(sgt_b1 st pb sb w),[],z4⟩ ?_
 refine hcp (.tuple #[.agg (List.toArray (sgt_v2 k M)),i6 (unpackE k (bytesI (readPl M k)))]) 14 [i6 k,sT (bytesI (readPl M k))] (some 30) [] tI rfl (fun wx hm=>unpack_any k (bytesI (readPl M k)) wx) fun z6 hz6=>?_
 replace hz6:z4 ≤ z6:=hz6
 refine hgE 16 [oh0,oh0,oh0,oh0,(oA 2 0 10),oh0,oh0,oh0] [4,5,8,34] [] [(z6,0,10)] [.code [1,1,1,1,1,0,1],.code [1,1,1,1,1,1]] ⟨[(4,(pt w.heap.size 0)),(5,i6 0),(8,(pt z6 0)),(34,.bool ((unpackE k (bytesI (readPl M k))) != 0))],(sgt_b2 k st M pb sb w z6),[],z6 + 1⟩ ?_
 rcases Bool.eq_false_or_eq_true ((unpackE k (bytesI (readPl M k))) != 0) with d1 | d1
 ·skip
  refine hgE 10 [oh1,oh0,(oA 1 0 10),oh0] [4,5,8] [eD d1] [(w.heap.size,0,10)] [.code [1,1,1,1,1,0,1,0,1],.code [1,1,1,1,1,1]] ⟨[(4,(pt w.heap.size 0)),(5,i6 0),(8,(pt z6 0))],(sgt_b2 k st M pb sb w z6),[],z6 + 1⟩ ?_
  refine hrt [[⟨false,1,0,10⟩]] [.agg (List.toArray (sgt_v1)),i6 0] [(w.heap.size,0,10)] ?_
  intro wx hm
  refine ⟨?_,hm.kept⟩
  have e:=unpack_bad (k:=k) (s:=(bytesI (readPl M k))) (fun e=>by rw [e] at d1; cases d1)
  unfold gotM
  rw [e]
  rfl
 ·skip
  refine hgE 11 [oh0,(oA 2 0 10),(oA 1 0 10),oh0] [4,5] [eD d1] [(z6,0,10),(w.heap.size,0,10)] [.code [1,1,1,1,1,1,1]] ⟨[(4,(pt w.heap.size 0)),(5,i6 0)],[⟨sb,92,false,[(pt pb 0),i6 st]⟩,⟨w.heap.size,25,true,(sgt_v2 k M)⟩,⟨z6,25,true,(sgt_v2 k M)⟩],[],z6 + 1⟩ ?_
  refine hrt [[⟨false,1,0,10⟩]] [.agg (List.toArray (sgt_v2 k M)),i6 0] [(w.heap.size,0,10)] ?_
  intro wx hm
  refine ⟨?_,hm.kept⟩
  rfl
def sst_v1 (r:RecM):List Value:=[.bool r.used,i6 r.fence,i6 r.de,i6 r.ds,sT r.block,.bool r.op,i6 r.ie,i6 r.is,i6 r.mask,sT r.staged]
@[simp] def sst_b1 (st:Int) (r:RecM) (pb:Nat) (sb:Nat) (w:World):List Bk:=[⟨sb,92,false,[(pt pb 0),i6 st]⟩,⟨w.heap.size,25,true,(sst_v1 r)⟩]
set_option maxRecDepth 100000 in
set_option maxHeartbeats 4000000 in
theorem set_pl (M:Pl) (sb pb:Nat) (st k:Int) (r:RecM) (hrk:RecOk r) (hkb:0 ≤ k ∧ k ≤ 7) (hk:0 ≤ k ∧ k < st) (hk2:0 ≤ k ∧ k < (M.n:Int)) (ha:M.acts < 4611686018427387900) (hsb:¬ minePl pb M sb) (w:World) (hP:PlatAt 90 94 w pb M) (hs:Blk w sb 92 [.pointer (some ⟨pb,0,none⟩),.int .i64 st]) :
  Calls Try.prog 24 #[.pointer (some ⟨sb,0,none⟩),.int .i64 k,.agg #[.bool r.used,.int .i64 r.fence,.int .i64 r.de,.int .i64 r.ds,.string r.block,.bool r.op,.int .i64 r.ie,.int .i64 r.is,.int .i64 r.mask,.string r.staged]] w (fun e w'=>e = .returned (.int .i64 (setE M k r)) ∧ PlatAt 90 94 w' pb (setPl M k r) ∧ Kept (minePl pb M) w w'):=by
 have hmine:∀ x,minePl pb M x → x < w.heap.size:=fun x hx=>by
  obtain ⟨h1,h2,h3⟩:=hP.lt
  rcases hx with rfl | rfl | rfl <;> assumption
 refine calls_of_holds (S:=(fun _=>False)) (l:=[(pt sb 0),.int .i64 k,.agg (List.toArray (sst_v1 r))]) (n:=38) Try.func24 (body_of (by kernel_rfl)) rfl (by simp) (MemOk.start (bk:=[⟨sb,92,false,[(pt pb 0),.int .i64 st]⟩]) (wn:=[]) (by simpa using hs) (by simp) (by simp) (by simp)) ?_
 refine hgE 13 [oh0,oh0,oh0,oh0] [0,1,5,6,10,11] [] [] [.ops [1,0,0] [2,3],.code [1,0,1],.code [1,1]] ⟨[(0,(pt sb 0)),(1,i6 k),(5,(pt w.heap.size 0)),(6,i6 0),(10,(pt sb 0)),(11,i6 k)],(sst_b1 st r pb sb w),[],w.heap.size + 1⟩ ?_
 refine hcp (.bool true) 58 [(pt sb 0),i6 k] (some 12) [] tI rfl (fun wx hm=>shas_true sb pb st k hk wx (hm.at_ 0 rfl)) fun z2 hz2=>?_
 replace hz2:w.heap.size + 1 ≤ z2:=hz2
 refine hgE 11 [oh0,oh0,oh0,(oA 1 0 10)] [0,1,6,15,16] [fF] [(w.heap.size,0,10)] [.ops [1,1,0] [2,3,4,5,6,7],.code [1,1,1]] ⟨[(0,(pt sb 0)),(1,i6 k),(6,i6 0),(15,i6 k),(16,.agg (List.toArray (sst_v1 r)))],(sst_b1 st r pb sb w),[],z2⟩ ?_
 refine hcp (.tuple #[sT (packS k r),i6 0]) 12 [i6 k,.agg (List.toArray (sst_v1 r))] (some 17) [] tI rfl (fun wx hm=>by have h:=pack_any k r wx; rw [packT_ok hkb hrk,packE_ok hkb hrk] at h; exact h) fun z4 hz4=>?_
 replace hz4:z2 ≤ z4:=hz4
 refine hgE 26 [oh0,oh0,oh0,oh0,oh0,oh0,oh0,oh0,oh0,oh0,oh0,(oA 0 0 1),oh0,oh0] [0,6,26,27,28] [fF] [(sb,0,1)] [.ops [1,1,1,1,0,0] [6,7],.code [1,1,1,1,0,1],.code [1,1,1,1,1]] ⟨[(0,(pt sb 0)),(6,i6 0),(26,(pt pb 0)),(27,i6 k),(28,sT (packS k r))],(sst_b1 st r pb sb w),[],z4⟩ ?_
 have hbx:w.heap.size ≤ w.heap.size:=by omega
 have hnT:∀ x,minePl pb M x → ¬ Turned (sst_b1 st r pb sb w) x:=by
  rintro x hx ⟨b,hb,hr,he⟩
  have hx2:=hmine x hx
  simp at hb
  rcases hb with rfl | rfl <;> simp at he hr <;> omega
 have hnB:∀ b ∈ ((sst_b1 st r pb sb w):List Bk),¬ minePl pb M b.g:=by
  intro b hb h
  have hx2:=hmine _ h
  simp at hb
  rcases hb with rfl | rfl
  ·exact hsb h
  ·exact absurd hx2 (Nat.lt_irrefl _)
 refine holds_callW (w:=w) (S':=(minePl pb M)) (Y:=Nat) (fun _=>i6 (goesE M)) (fun _=>(sst_b1 st r pb sb w)) (fun _ W_=>PlatAt 90 94 W_ pb (writePl M k (secOf k r))) (fun _=>[(29,i6 (goesE M)),(0,(pt sb 0)),(6,i6 0),(26,(pt pb 0)),(27,i6 k),(28,sT (packS k r))]) (show _ = some (22,[(pt pb 0),i6 k,sT (packS k r)],some 29,[]) by kernel_rfl) tI (fun _=>rfl) (fun wx hm=>?_) (fun _ W1 hX1 hm1=>?_)
 ·refine (write_pl M pb k (packS k r) (by omega) hk2 (by rw [size_packS]) wx (hP.kept hm.kept (fun _ _ h=>h))).mono fun e w' ⟨h1,h2,h3⟩=>?_
  exact ⟨0,h1,h2,hm.off (fun _ h=>h.elim) h3 (fun _ h=>.inl h) hnB⟩
 refine hgE 10 [oh0,oh0,oh0] [0,6,9,31] [] [] [.code [1,1,1,1,0,1,1],.code [1,1,1,1,1]] ⟨[(0,(pt sb 0)),(6,i6 0),(9,i6 (goesE M)),(31,.bool ((goesE M) != 0))],(sst_b1 st r pb sb w),[],W1.heap.size⟩ ?_
 cases hg:M.goes with
 | false=>
  have hge:goesE M = 70:=by simp [goesE,hg]
  have hsE:setE M k r = goesE M:=by simp [setE,hg,hge]
  have hsP:setPl M k r = (writePl M k (secOf k r)):=by simp [setPl,hg]
  refine hgE 9 [oh1,oh0,oh0] [0,6] [oE (((goesE M) != 0) = true) (by rw [hge]; rfl)] [] [.code [1,1,1,1,0,1,1,0,1],.code [1,1,1,1,1]] ⟨[(0,(pt sb 0)),(6,i6 (goesE M))],(sst_b1 st r pb sb w),[],W1.heap.size⟩ ?_
  refine hrt [] [i6 (goesE M)] [] ?_
  intro wx hm
  rw [hsE,hsP]
  exact ⟨rfl,hX1.kept hm.kept (by rw [mine_write]; exact hnT),(hm1.back hm).kept⟩
 | true=>
  have hge:goesE M = 0:=by simp [goesE,hg]
  have hsE:setE M k r = goesE (writePl M k (secOf k r)):=by simp [setE,hg]
  have hsP:setPl M k r = flushPl (writePl M k (secOf k r)):=by simp [setPl,hg]
  refine hgE 11 [oh0,oh0,oh0,oh0,(oA 0 0 1)] [6,36] [oE (((goesE M) != 0) = false) (by rw [hge]; rfl)] [(sb,0,1)] [.ops [1,1,1,1,1,0] [4,5],.code [1,1,1,1,1,1]] ⟨[(6,i6 0),(36,(pt pb 0))],(sst_b1 st r pb sb w),[],W1.heap.size⟩ ?_
  refine holds_callW (w:=w) (S':=(minePl pb M)) (Y:=Nat) (fun _=>i6 (goesE (writePl M k (secOf k r)))) (fun _=>(sst_b1 st r pb sb w)) (fun _ W_=>PlatAt 90 94 W_ pb (flushPl (writePl M k (secOf k r)))) (fun _=>[(37,i6 (goesE (writePl M k (secOf k r)))),(6,i6 0),(36,(pt pb 0))]) (show _ = some (60,[(pt pb 0)],some 37,[]) by kernel_rfl) tI (fun _=>rfl) (fun wx hm=>?_) (fun _ W2 hX2 hm2=>?_)
  ·refine (flush_pl (writePl M k (secOf k r)) pb (by have:=acts_write M k (secOf k r); omega) wx (hX1.kept hm.kept (by rw [mine_write]; exact hnT))).mono fun e w' ⟨h1,h2,h3⟩=>?_
   rw [mine_write] at h3
   exact ⟨0,h1,h2,(hm1.back hm).off (fun _ h=>h) h3 (fun _ h=>.inl h) hnB⟩
  refine hgE 5 [oh0] [6] [] [] [.code [1,1,1,1,1,1]] ⟨[(6,i6 (goesE (writePl M k (secOf k r))))],(sst_b1 st r pb sb w),[],W2.heap.size⟩ ?_
  refine hrt [] [i6 (goesE (writePl M k (secOf k r)))] [] ?_
  intro wx hm
  rw [hsE,hsP]
  exact ⟨rfl,hX2.kept hm.kept (by rw [mine_flush,mine_write]; exact hnT),(hm2.back hm).kept⟩
end Go.Proofs.Ytpilmccjjbgmiaa
