import Derived.Test.YtpilmccjjbgmiaaUnpack8
import Derived.Test.YtpilmccjjbgmiaaPackR8
namespace Go.Proofs.Ytpilmccjjbgmiaa
open Go.RowKit
theorem refPack_cells (st:Int) (r:RecM) {cs:List Value} (h:r.cells = cs) (w:World):Calls Try.prog 13 #[.int .i64 st,.agg cs.toArray] w (RetK (.tuple #[.string (packT st r),.int .i64 (packE st r)]) w):=by
 subst h
 exact refPack_any st r w
theorem num_q2 (w:World) (t:ByteArray):Out.prune [2] (qListG Try.prog 16 w (fun _=>False) (opsOf (getCode (bodyOf Try.f52) [1,0])) (opsOf (getCode (bodyOf Try.f52) [1,0])).toList ⟨[(0,sT t),(2,i6 0)],[],[],w.heap.size⟩ [(false,.op oh0),(false,.op oh2),(false,.op oh2),(false,.op oh0),(false,.op oh2),(false,.op oh2),(false,.op oh2),(false,.op oh2),(false,.op oh0),(false,.op oh2),(false,.op oh2),(false,.op oh2),(false,.op oh2),(false,.op oh0)]) = some ⟨[(0:Int) ≤ 0 ∧ 0 < ((t).size:Int),inR .i64 ((byteAt t 0)),(0:Int) ≤ 1 ∧ 1 < ((t).size:Int),inR .i64 ((byteAt t 1)),inR .i64 ((256 * (byteAt t 1))),inR .i64 (((byteAt t 0) + (256 * (byteAt t 1)))),(0:Int) ≤ 2 ∧ 2 < ((t).size:Int),inR .i64 ((byteAt t 2)),inR .i64 ((65536 * (byteAt t 2))),inR .i64 ((((byteAt t 0) + (256 * (byteAt t 1))) + (65536 * (byteAt t 2))))],dupR [],⟨[(2,i6 (((byteAt t 0) + (256 * (byteAt t 1))) + (65536 * (byteAt t 2))))],[],[],w.heap.size⟩⟩:=by kernel_rfl
set_option maxRecDepth 100000 in
set_option maxHeartbeats 4000000 in
theorem num_any (t:ByteArray) (ht:3 ≤ t.size) (w:World) :
  Calls Try.prog 52 #[.string t] w (RetK (.int .i64 (numAt t 0)) w):=by
 have b0:=byteAt_bd t 0
 have b1:=byteAt_bd t 1
 have b2:=byteAt_bd t 2
 refine calls_of_holds (S:=(fun _=>False)) (l:=[.string t]) (n:=16) Try.func52 (body_of (by kernel_rfl)) rfl (by simp) (MemOk.none w _) ?_
 refine hgE 8 [oh0] [0,2] [] [] [.code [1,0],.code [1,1]] ⟨[(0,sT t),(2,i6 0)],[],[],w.heap.size⟩ ?_
 refine holds_quietG _ _ (by kernel_rfl) (by kernel_rfl) (by kernel_rfl) (num_q2 w t) ⟨⟨by omega,by omega⟩,in64 (by omega),⟨by omega,by omega⟩,in64 (by omega),in64 (by omega),in64 (by omega),⟨by omega,by omega⟩,in64 (by omega),in64 (by omega),in64 (by omega),trivial⟩ fun z2 hz2=>?_
 replace hz2:w.heap.size ≤ z2:=hz2
 refine hgE 3 [] [2] [] [] [.code [1,1]] ⟨[(2,i6 (((byteAt t 0) + (256 * (byteAt t 1))) + (65536 * (byteAt t 2))))],[],[],z2⟩ ?_
 refine hrt [] [i6 (((byteAt t 0) + (256 * (byteAt t 1))) + (65536 * (byteAt t 2)))] [] ?_
 intro wx hm
 exact ⟨rfl,hm.kept⟩
theorem byteAt_extract {s:ByteArray} {a e i:Nat} (h:a + i < e):byteAt (s.extract a e) i = byteAt s (a + i):=by
 simp only [byteAt]
 congr 3
 have:(s.extract a e).data[i]? = s.data[a + i]?:=by
  rw [ByteArray.data_extract,Array.getElem?_extract]
  split
  ·rfl
  ·rw [Array.getElem?_eq_none (by omega)]
 rw [this]
theorem num_at (s:ByteArray) (k:Nat) (h:k + 3 ≤ s.size) (w:World):Calls Try.prog 52 #[.string (s.extract k s.size)] w (RetK (.int .i64 (numAt s k)) w):=by
 have h1:=num_any (s.extract k s.size) (by rw [ByteArray.size_extract]; omega) w
 have e:numAt (s.extract k s.size) 0 = numAt s k:=by
  unfold numAt
  rw [byteAt_extract (by omega),byteAt_extract (by omega),byteAt_extract (by omega)]
  rfl
 rw [e] at h1
 exact h1
def ru_v1:List Value:=[.bool false] ++ rp 3 (.int .i64 0) ++ [.string ⟨#[]⟩,.bool false] ++ rp 3 (.int .i64 0) ++ [.string ⟨#[]⟩]
def ru_v2:List Value:=rp 64 (.int .u8 0)
def ru_v3 (s:ByteArray):List Value:=[.bool (((byteAt s 2) % 2) == 1),i6 (numAt s 3),i6 (numAt s 6),i6 (numAt s 9),sT ⟨#[]⟩,.bool ((((byteAt s 2) / 2) % 2) == 1),i6 (numAt s 12),i6 (numAt s 15),i6 (byteAt s 18),sT ⟨#[]⟩]
def ru_v4 (s:ByteArray):List Value:=(((ru_v3 s).set 0 (.bool (usedS s))).set 5 (.bool (openS s)))
def ru_v5 (s:ByteArray):List Value:=((ru_v4 s).set 4 (sT (ByteArray.extract s 19 35)))
def ru_v6 (s:ByteArray):List Value:=((ru_v5 s).set 9 (sT (ByteArray.extract s 35 51)))
def ru_v7 (s:ByteArray):List Value:=((ru_v6 s).set 4 (sT ⟨#[]⟩))
def ru_n1:List Nat:=[1,1,1,1,1,1,1,0,0]
def ru_n2:List Nat:=[1,1,1,1,1,1,1,0,1,0,1]
def ru_n3:List Nat:=[1,1,1,1,1,1,1,0,1]
def ru_n4:List Nat:=[1,1,1,1,1,1,1,1,1]
def ru_n5:List Nat:=[1,1,1,1,1,1,1,1]
def ru_n6:Array Bool:=#[true,true,true,true,true,true,true,true,true,true,true,true,true,true,true,true,true,true,true,true,true,true,true,true,true,true,true,true,true,true,true,true,false,false]
def ru_n7:Array Bool:=#[true,true,true,true,true,true,true,true,true,true,true,true,true,true,true,true,true,true,true,true,true,true,true,true,true,true,true,true,true,true,true,true,true,false]
def ru_n8:Array Bool:=#[true,true,true,true,true,true,true,true,true,true,true,true,true,true,true,true,true,true,true,true,true,true,true,true,true,true,true,true,true,true,true,true,true,true]
def ru_n9:List OH:=[oh0,oh0,oh0,oh0,oh0,oh0,oh0,oh0]
def ru_n10:List OH:=[oh0,oh0,oh0,⟨false,3,[]⟩]
def ru_n11:List OH:=[oh0,⟨false,0,[⟨false,2,0,10⟩]⟩,⟨false,0,[⟨false,0,0,10⟩]⟩,oh0]
def ru_n12:List OH:=[oh1,oh0,oh2,oh0,⟨false,0,[⟨false,2,9,1⟩]⟩,oh0,⟨false,0,[⟨false,2,0,10⟩]⟩]
def ru_n13:List OH:=[oh1,oh0,⟨false,0,[⟨false,0,0,10⟩]⟩,oh0]
def ru_n14:List OH:=[oh1,oh1,oh1,oh3,oh1,oh0,⟨false,0,[⟨false,0,0,10⟩]⟩,oh0]
@[simp] def ru_b1 (w:World):List Bk:=[⟨w.heap.size,25,true,(ru_v1)⟩,⟨w.heap.size + 1,5,true,(ru_v2)⟩]
@[simp] def ru_b2 (w:World) (g13:Nat):List Bk:=[⟨w.heap.size,25,true,(ru_v1)⟩,⟨w.heap.size + 1,5,true,(ru_v2)⟩,⟨g13,25,true,(ru_v1)⟩]
@[simp] def ru_b3 (s:ByteArray) (w:World) (g13:Nat):List Bk:=[⟨w.heap.size,25,true,(ru_v1)⟩,⟨w.heap.size + 1,5,true,(ru_v2)⟩,⟨g13,25,true,(ru_v3 s)⟩]
@[simp] def ru_b4 (s:ByteArray) (w:World) (g13:Nat):List Bk:=[⟨w.heap.size,25,true,(ru_v1)⟩,⟨w.heap.size + 1,5,true,(ru_v2)⟩,⟨g13,25,true,(ru_v4 s)⟩]
@[simp] def ru_b5 (s:ByteArray) (w:World) (g13:Nat):List Bk:=[⟨w.heap.size,25,true,(ru_v1)⟩,⟨w.heap.size + 1,5,true,(ru_v2)⟩,⟨g13,25,true,(ru_v5 s)⟩]
@[simp] def ru_b6 (s:ByteArray) (w:World) (g13:Nat):List Bk:=[⟨w.heap.size,25,true,(ru_v1)⟩,⟨w.heap.size + 1,5,true,(ru_v2)⟩,⟨g13,25,true,(ru_v6 s)⟩]
@[simp] def ru_b7 (s:ByteArray) (w:World) (g13:Nat):List Bk:=[⟨w.heap.size,25,true,(ru_v1)⟩,⟨w.heap.size + 1,5,true,(ru_v2)⟩,⟨g13,25,true,(ru_v7 s)⟩]
theorem ru_q13 (st:Int) (s:ByteArray) (w:World):Out.prune [0,1,4,5,57] (qList Try.prog 83 w (fun _=>False) ((opsOf (getCode (bodyOf Try.f15) [1,1,1,0])).toList.take 32) ⟨[(0,i6 st),(1,sT s),(4,(pt w.heap.size 0)),(5,i6 0)],(ru_b1 w),[],w.heap.size + 2⟩ [.op oh0,.op oh2,.op oh2,.op oh2,.op oh0,.op oh0,.op oh2,.op oh2,.op oh2,.op oh2,.op oh0,.op oh0,.op oh2,.call (i6 (numAt s 3)),.op oh0,.op oh2,.call (i6 (numAt s 6)),.op oh0,.op oh2,.call (i6 (numAt s 9)),.op oh0,.op oh0,.op oh2,.call (i6 (numAt s 12)),.op oh0,.op oh2,.call (i6 (numAt s 15)),.op oh0,.op oh0,.op oh2,.op oh2,.op oh0]) = some ⟨[(0:Int) ≤ 2 ∧ 2 < ((s).size:Int),inR .i64 ((byteAt s 2)),(0:Int) ≤ (byteAt s 2) ∧ (0:Int) < 2,(0:Int) ≤ 2 ∧ 2 < ((s).size:Int),inR .i64 ((byteAt s 2)),(0:Int) ≤ (byteAt s 2) ∧ (0:Int) < 2 ∧ (byteAt s 2) ≤ IntKind.max .i64,(0:Int) ≤ ((byteAt s 2) / 2) ∧ (0:Int) < 2,(0:Int) ≤ 3 ∧ 3 ≤ ((s).size:Int),∀ w',MemC w (fun _=>False) (ru_b1 w) [] (w.heap.size + 2) w' → Calls Try.prog 52 #[sT (ByteArray.extract s 3 (s).size)] w' (RetK (i6 (numAt s 3)) w'),(0:Int) ≤ 6 ∧ 6 ≤ ((s).size:Int),∀ w',MemC w (fun _=>False) (ru_b1 w) [] (w.heap.size + 2) w' → Calls Try.prog 52 #[sT (ByteArray.extract s 6 (s).size)] w' (RetK (i6 (numAt s 6)) w'),(0:Int) ≤ 9 ∧ 9 ≤ ((s).size:Int),∀ w',MemC w (fun _=>False) (ru_b1 w) [] (w.heap.size + 2) w' → Calls Try.prog 52 #[sT (ByteArray.extract s 9 (s).size)] w' (RetK (i6 (numAt s 9)) w'),(0:Int) ≤ 12 ∧ 12 ≤ ((s).size:Int),∀ w',MemC w (fun _=>False) (ru_b1 w) [] (w.heap.size + 2) w' → Calls Try.prog 52 #[sT (ByteArray.extract s 12 (s).size)] w' (RetK (i6 (numAt s 12)) w'),(0:Int) ≤ 15 ∧ 15 ≤ ((s).size:Int),∀ w',MemC w (fun _=>False) (ru_b1 w) [] (w.heap.size + 2) w' → Calls Try.prog 52 #[sT (ByteArray.extract s 15 (s).size)] w' (RetK (i6 (numAt s 15)) w'),(0:Int) ≤ 18 ∧ 18 < ((s).size:Int),inR .i64 ((byteAt s 18))],dupR [],⟨[(0,i6 st),(1,sT s),(4,(pt w.heap.size 0)),(5,i6 0),(57,.agg (List.toArray (ru_v3 s)))],(ru_b1 w),[],w.heap.size + 2⟩⟩:=by kernel_rfl
theorem ru_t14 (st:Int) (s:ByteArray) (w:World) (g13:Nat) (y13:Nat):tailP [0,1,4,5,6] (tailX Try.prog 83 (opsOf (getCode (bodyOf Try.f15) [1,1,1,0])) 1 ru_n7 ⟨[(6,(pt g13 0)),(0,i6 st),(1,sT s),(4,(pt w.heap.size 0)),(5,i6 0),(57,.agg (List.toArray (ru_v3 s)))],(ru_b2 w g13),[],y13⟩ [(33,false,(oA 2 0 10))]) = some (⟨[],dupR [(g13,0,10)],⟨[(0,i6 st),(1,sT s),(4,(pt w.heap.size 0)),(5,i6 0),(6,(pt g13 0))],(ru_b3 s w g13),[],y13⟩⟩,0,ru_n8):=by kernel_rfl
theorem ru_t15 (st:Int) (s:ByteArray) (w:World) (y13:Nat):tailP [0,1,4,5,6] (tailX Try.prog 83 (opsOf (getCode (bodyOf Try.f15) [1,1,1,0])) 2 ru_n6 ⟨[(0,i6 st),(1,sT s),(4,(pt w.heap.size 0)),(5,i6 0),(57,.agg (List.toArray (ru_v3 s)))],(ru_b1 w),[],y13⟩ [(32,false,oh0),(33,false,(oA 2 0 10))]) = some (⟨[],dupR [(y13,0,10)],⟨[(0,i6 st),(1,sT s),(4,(pt w.heap.size 0)),(5,i6 0),(6,(pt y13 0))],[⟨w.heap.size,25,true,(ru_v1)⟩,⟨w.heap.size + 1,5,true,(ru_v2)⟩,⟨y13,25,true,(ru_v3 s)⟩],[],y13 + 1⟩⟩,0,ru_n8):=by kernel_rfl
set_option maxRecDepth 100000 in
set_option maxHeartbeats 4000000 in
theorem refUnpack_any (st:Int) (s:ByteArray) (w:World) :
  Calls Try.prog 15 #[.int .i64 st,.string s] w (RetK (.tuple #[.agg (unpackR st s).cells.toArray,.int .i64 (unpackE st s)]) w):=by
 refine calls_of_holds (S:=(fun _=>False)) (l:=[.int .i64 st,.string s]) (n:=83) Try.func15 (body_of (by kernel_rfl)) rfl (by simp) (MemOk.none w _) ?_
 by_cases h1:st < 0
 ·skip
  refine hgE 30 [oh0,oh0,oh0,oh0,oh0,oh1,oh1,oh3,oh0,oh1,oh1,oh1,oh3,oh1,oh0,(oA 0 0 10),oh0] [0,1,4,5] [oE ((decide ((st:Int) < 0)) = true) (decide_eq_true h1),oE ((decide ((st:Int) < 0)) = true) (decide_eq_true h1),oE ((decide ((st:Int) < 0)) = true) (decide_eq_true h1),tT,tT,tT,tT,tT] [(w.heap.size,0,10)] [.code [1,0,1,0,1],.code [1,1]] ⟨[(0,i6 st),(1,sT s),(4,(pt w.heap.size 0)),(5,i6 80)],[⟨w.heap.size,25,true,(ru_v1)⟩],[],w.heap.size + 1⟩ ?_
  refine hrt [[⟨false,0,0,10⟩]] [.agg (List.toArray (ru_v1)),i6 80] [(w.heap.size,0,10)] ?_
  intro wx hm
  exact ⟨by
   have e1:takeGood st s = false:=by
    unfold takeGood
    simp [show ¬ 0 ≤ st by omega]
   have e2:takeNone st s = false:=by
    unfold takeNone
    simp [show ¬ 0 ≤ st by omega]
   unfold unpackR unpackE
   rw [e1,e2]
   rfl,hm.kept⟩
 by_cases h2:st ≥ 8
 ·skip
  refine hgE 30 [oh0,oh0,oh0,oh0,oh0,oh0,oh0,⟨false,3,[]⟩,oh0,oh1,oh1,oh1,oh3,oh1,oh0,(oA 0 0 10),oh0] [0,1,4,5] [oE ((decide ((st:Int) < 0)) = false) (decide_eq_false h1),oE ((decide ((st:Int) < 0)) = false) (decide_eq_false h1),oE ((decide ((st:Int) < 0)) = false) (decide_eq_false h1),oE ((decide ((st:Int) ≥ 8)) = true) (decide_eq_true h2),oE ((decide ((st:Int) ≥ 8)) = true) (decide_eq_true h2),oE ((decide ((st:Int) ≥ 8)) = true) (decide_eq_true h2),oE ((decide ((st:Int) ≥ 8)) = true) (decide_eq_true h2),tT] [(w.heap.size,0,10)] [.code [1,0,1,0,1],.code [1,1]] ⟨[(0,i6 st),(1,sT s),(4,(pt w.heap.size 0)),(5,i6 80)],[⟨w.heap.size,25,true,(ru_v1)⟩],[],w.heap.size + 1⟩ ?_
  refine hrt [[⟨false,0,0,10⟩]] [.agg (List.toArray (ru_v1)),i6 80] [(w.heap.size,0,10)] ?_
  intro wx hm
  exact ⟨by
   have e1:takeGood st s = false:=by
    unfold takeGood
    simp [show ¬ st < 8 by omega]
   have e2:takeNone st s = false:=by
    unfold takeNone
    simp [show ¬ st < 8 by omega]
   unfold unpackR unpackE
   rw [e1,e2]
   rfl,hm.kept⟩
 by_cases h3:(s.size:Int) = 64
 rotate_left
 ·skip
  refine hgE 30 [oh0,oh0,oh0,oh0,oh0,oh0,oh0,⟨false,3,[]⟩,oh0,oh0,oh0,oh0,⟨false,3,[]⟩,oh1,oh0,(oA 0 0 10),oh0] [0,1,4,5] [oE ((decide ((st:Int) < 0)) = false) (decide_eq_false h1),oE ((decide ((st:Int) < 0)) = false) (decide_eq_false h1),oE ((decide ((st:Int) < 0)) = false) (decide_eq_false h1),oE ((decide ((st:Int) ≥ 8)) = false) (decide_eq_false h2),oE ((decide ((st:Int) ≥ 8)) = false) (decide_eq_false h2),oE ((decide ((st:Int) ≥ 8)) = false) (decide_eq_false h2),oE ((decide ((st:Int) ≥ 8)) = false) (decide_eq_false h2),oE (((s.size:Int) != 64) = true) (bne_iff_ne.2 h3)] [(w.heap.size,0,10)] [.code [1,0,1,0,1],.code [1,1]] ⟨[(0,i6 st),(1,sT s),(4,(pt w.heap.size 0)),(5,i6 80)],[⟨w.heap.size,25,true,(ru_v1)⟩],[],w.heap.size + 1⟩ ?_
  refine hrt [[⟨false,0,0,10⟩]] [.agg (List.toArray (ru_v1)),i6 80] [(w.heap.size,0,10)] ?_
  intro wx hm
  exact ⟨by
   have e1:takeGood st s = false:=by
    unfold takeGood
    simp [h3]
   have e2:takeNone st s = false:=by
    unfold takeNone
    simp [h3]
   unfold unpackR unpackE
   rw [e1,e2]
   rfl,hm.kept⟩
 refine hgE 30 [oh0,oh0,oh0,oh0,oh0,oh0,oh0,⟨false,3,[]⟩,oh0,oh0,oh0,oh0,⟨false,3,[]⟩,oh0,oh0,oh0] [0,1,4,5,21,22] [oE ((decide ((st:Int) < 0)) = false) (decide_eq_false h1),oE ((decide ((st:Int) < 0)) = false) (decide_eq_false h1),oE ((decide ((st:Int) < 0)) = false) (decide_eq_false h1),oE ((decide ((st:Int) ≥ 8)) = false) (decide_eq_false h2),oE ((decide ((st:Int) ≥ 8)) = false) (decide_eq_false h2),oE ((decide ((st:Int) ≥ 8)) = false) (decide_eq_false h2),oE ((decide ((st:Int) ≥ 8)) = false) (decide_eq_false h2),oE (((s.size:Int) != 64) = false) (bne_eq_false_iff_eq.2 h3)] [] [.ops [1,1,0,0] [2,3],.code [1,1,0,1],.code [1,1,1]] ⟨[(0,i6 st),(1,sT s),(4,(pt w.heap.size 0)),(5,i6 0),(21,sT s),(22,.slice (some ⟨w.heap.size + 1,0,none⟩) 64 64)],(ru_b1 w),[],w.heap.size + 2⟩ ?_
 refine holds_opR (dst:=(some 23)) (x:=convert 40 9 (.slice (some ⟨w.heap.size + 1,0,none⟩) 64 64)) (.string zeros64) (by kernel_rfl) (by kernel_rfl) rfl (fun wx hm=>?_) ?_
 ·exact run_bytesAt (P:=Try.prog) wx 40 9 5 _ _ _ _ _ (List.replicate 64 0) ([]) [] (by kernel_rfl) (by kernel_rfl) (by kernel_rfl) (hm.at_ 1 rfl) rfl rfl (by intro n hn; rw [List.eq_of_mem_replicate hn]; omega)
 refine hgE 5 [oh0] [0,1,4,5,24] [] [] [.code [1,1,0,1],.code [1,1,1]] ⟨[(0,i6 st),(1,sT s),(4,(pt w.heap.size 0)),(5,i6 0),(24,.bool (ByteArray.toList s == ByteArray.toList zeros64))],(ru_b1 w),[],w.heap.size + 2⟩ ?_
 rcases Bool.eq_false_or_eq_true (ByteArray.toList s == ByteArray.toList zeros64) with hz | hz
 ·skip
  refine hgE 10 ru_n13 [0,1,4,5] [oE ((ByteArray.toList s == ByteArray.toList zeros64) = true) hz] [(w.heap.size,0,10)] [.code [1,1,0,1,0,1],.code [1,1,1]] ⟨[(0,i6 st),(1,sT s),(4,(pt w.heap.size 0)),(5,i6 0)],(ru_b1 w),[],w.heap.size + 2⟩ ?_
  refine hrt [[⟨false,0,0,10⟩]] [.agg (List.toArray (ru_v1)),i6 0] [(w.heap.size,0,10)] ?_
  intro wx hm
  exact ⟨by
   have e1:takeGood st s = false:=by
    unfold takeGood
    simp [hz]
   have e2:takeNone st s = true:=by
    unfold takeNone
    rw [hz,beq_iff_eq.2 h3,decide_eq_true (show 0 ≤ st by omega),decide_eq_true (show st < 8 by omega)]
    rfl
   unfold unpackR unpackE
   rw [e1,e2]
   rfl,hm.kept⟩
 have hs:s.size = 64:=by omega
 have hb2:=byteAt_bd s 2
 have hb18:=byteAt_bd s 18
 refine hgE 6 [oh0] [0,1,4,5] [oE ((ByteArray.toList s == ByteArray.toList zeros64) = false) hz] [] [.code [1,1,1,0],.code [1,1,1,1]] ⟨[(0,i6 st),(1,sT s),(4,(pt w.heap.size 0)),(5,i6 0)],(ru_b1 w),[],w.heap.size + 2⟩ ?_
 have HZ:∀ (g13 y13:Nat),w.heap.size + 2 ≤ g13 → w.heap.size + 2 ≤ y13 → Holds [] Try.prog (bodyOf Try.f15) 83 w (fun _=>False) (bodyPost Try.prog Try.f15 (RetK (.tuple #[.agg (unpackR st s).cells.toArray,.int .i64 (unpackE st s)]) w)) [.code [1,1,1,1]] ⟨[(0,.int .i64 st),(1,.string s),(4,(pt w.heap.size 0)),(5,.int .i64 0),(6,(pt g13 0))],(ru_b3 s w g13),[],y13⟩:=by
  intro g13 y13 hg13 hy13
  refine holds_bk (ru_b4 s w g13) (by
   have e1:=congr (congrArg (fun u_ v_:Bool=>([⟨w.heap.size,25,true,(ru_v1)⟩,⟨w.heap.size + 1,5,true,(ru_v2)⟩,⟨g13,25,true,[.bool u_,.int .i64 (numAt s 3),.int .i64 (numAt s 6),.int .i64 (numAt s 9),.string ⟨#[]⟩,.bool v_,.int .i64 (numAt s 12),.int .i64 (numAt s 15),.int .i64 (byteAt s 18),.string ⟨#[]⟩]⟩]:List Bk)) (show (((byteAt s 2) % 2) == 1) = usedS s from rfl)) (show ((((byteAt s 2) / 2) % 2) == 1) = openS s from rfl)
   exact e1) ?_
  refine hgE 9 [oh0,(oA 2 0 1)] [0,1,4,5,6,59] [] [(g13,0,1)] [.code [1,1,1,1,0,1],.code [1,1,1,1,1]] ⟨[(0,i6 st),(1,sT s),(4,(pt w.heap.size 0)),(5,i6 0),(6,(pt g13 0)),(59,.bool (usedS s))],(ru_b4 s w g13),[],y13⟩ ?_
  rcases Bool.eq_false_or_eq_true (usedS s) with d1 | d1
  ·skip
   refine hgE 16 [oh1,oh0,oh2,oh0,(oA 2 4 1),oh0,(oA 2 5 1)] [0,1,4,5,6,64] [eD d1,oE ((0:Int) ≤ 19 ∧ (19:Int) ≤ 35 ∧ 35 ≤ ((s).size:Int))] [(g13,4,1),(g13,5,1)] [.code [1,1,1,1,1,0,1],.code [1,1,1,1,1,1]] ⟨[(0,i6 st),(1,sT s),(4,(pt w.heap.size 0)),(5,i6 0),(6,(pt g13 0)),(64,.bool (openS s))],(ru_b5 s w g13),[],y13⟩ ?_
   rcases Bool.eq_false_or_eq_true (openS s) with d2 | d2
   ·skip
    refine hgE 14 ru_n12 [1,4,5,6,69,70] [eD d2,oE ((0:Int) ≤ 35 ∧ (35:Int) ≤ 51 ∧ 51 ≤ ((s).size:Int))] [(g13,9,1),(g13,0,10)] [.ops [1,1,1,1,1,1,0] [2,3,4,5,6,7],.code [1,1,1,1,1,1,1]] ⟨[(1,sT s),(4,(pt w.heap.size 0)),(5,i6 0),(6,(pt g13 0)),(69,i6 st),(70,.agg (List.toArray (ru_v6 s)))],(ru_b6 s w g13),[],y13⟩ ?_
    have hT:(takeR s).cells = (ru_v6 s):=takeR_cells d1 d2
    refine hcp (.tuple #[sT (packT st (takeR s)),i6 (packE st (takeR s))]) 13 [i6 st,.agg (List.toArray (ru_v6 s))] (some 71) [] tI rfl (fun wx hm=>refPack_cells st (takeR s) hT wx) fun z19 hz19=>?_
    replace hz19:y13 ≤ z19:=hz19
    refine hgE 15 ru_n9 [1,4,5,6,7,76] [] [] [.ops ru_n1 [3,4,5,6],.code ru_n3,.code ru_n5] ⟨[(1,sT s),(4,(pt w.heap.size 0)),(5,i6 0),(6,(pt g13 0)),(7,sT (packT st (takeR s))),(76,.bool ((packE st (takeR s)) != 0))],(ru_b6 s w g13),[],z19⟩ ?_
    rcases Bool.eq_false_or_eq_true ((packE st (takeR s)) != 0) with d3 | d3
    ·skip
     refine hgE 15 ru_n14 [4,5,6] [eD d3,eD d3,eD d3,eD d3,tT] [(w.heap.size,0,10)] [.code ru_n2,.code ru_n5] ⟨[(4,(pt w.heap.size 0)),(5,i6 80),(6,(pt g13 0))],(ru_b6 s w g13),[],z19⟩ ?_
     refine hrt [[⟨false,0,0,10⟩]] [.agg (List.toArray (ru_v1)),i6 80] [(w.heap.size,0,10)] ?_
     intro wx hm
     exact ⟨by
      have e2:takeNone st s = false:=by
       unfold takeNone
       rw [hz,Bool.and_false]
      have e1:takeGood st s = false:=by
       unfold takeGood
       rw [show (packE st (takeR s) == 0) = false from beq_eq_false_iff_ne.2 (bne_iff_ne.1 d3),Bool.and_false,Bool.false_and]
      unfold unpackR unpackE
      rw [e1,e2]
      rfl,hm.kept⟩
    ·skip
     refine hgE 8 ru_n10 [4,5,6,80] [eD d3,eD d3,eD d3,eD d3] [] [.code ru_n3,.code ru_n5] ⟨[(4,(pt w.heap.size 0)),(5,i6 0),(6,(pt g13 0)),(80,.bool (!(ByteArray.toList (packT st (takeR s)) == ByteArray.toList s)))],(ru_b6 s w g13),[],z19⟩ ?_
     rcases Bool.eq_false_or_eq_true (ByteArray.toList (packT st (takeR s)) == ByteArray.toList s) with d4 | d4
     ·skip
      refine hgE 11 ru_n11 [4,5] [eD (nF d4)] [(g13,0,10),(w.heap.size,0,10)] [.code ru_n4] ⟨[(4,(pt w.heap.size 0)),(5,i6 0)],[⟨w.heap.size,25,true,(ru_v6 s)⟩,⟨w.heap.size + 1,5,true,(ru_v2)⟩,⟨g13,25,true,(ru_v6 s)⟩],[],z19⟩ ?_
      refine hrt [[⟨false,0,0,10⟩]] [.agg (List.toArray (ru_v6 s)),i6 0] [(w.heap.size,0,10)] ?_
      intro wx hm
      exact ⟨by
       have e2:takeNone st s = false:=by
        unfold takeNone
        rw [hz,Bool.and_false]
       have e1:takeGood st s = true:=by
        unfold takeGood
        rw [hz,beq_iff_eq.2 h3,decide_eq_true (show 0 ≤ st by omega),decide_eq_true (show st < 8 by omega),d4,show (packE st (takeR s) == 0) = true from beq_iff_eq.2 (bne_eq_false_iff_eq.1 d3)]
        rfl
       unfold unpackR unpackE
       rw [e1,e2]
       rw [cond_true,Bool.true_or,cond_true,hT]
       rfl,hm.kept⟩
     ·skip
      refine hgE 10 ru_n13 [4,5,6] [eD (nT d4)] [(w.heap.size,0,10)] [.code ru_n2,.code ru_n5] ⟨[(4,(pt w.heap.size 0)),(5,i6 80),(6,(pt g13 0))],(ru_b6 s w g13),[],z19⟩ ?_
      refine hrt [[⟨false,0,0,10⟩]] [.agg (List.toArray (ru_v1)),i6 80] [(w.heap.size,0,10)] ?_
      intro wx hm
      exact ⟨by
       have e2:takeNone st s = false:=by
        unfold takeNone
        rw [hz,Bool.and_false]
       have e1:takeGood st s = false:=by
        unfold takeGood
        rw [d4,Bool.and_false]
       unfold unpackR unpackE
       rw [e1,e2]
       rfl,hm.kept⟩
   ·skip
    refine hgE 9 [oh0,oh0,(oA 2 0 10)] [1,4,5,6,69,70] [eD d2] [(g13,0,10)] [.ops [1,1,1,1,1,1,0] [2,3,4,5,6,7],.code [1,1,1,1,1,1,1]] ⟨[(1,sT s),(4,(pt w.heap.size 0)),(5,i6 0),(6,(pt g13 0)),(69,i6 st),(70,.agg (List.toArray (ru_v5 s)))],(ru_b5 s w g13),[],y13⟩ ?_
    have hT:(takeR s).cells = (ru_v5 s):=takeR_cells d1 d2
    refine hcp (.tuple #[sT (packT st (takeR s)),i6 (packE st (takeR s))]) 13 [i6 st,.agg (List.toArray (ru_v5 s))] (some 71) [] tI rfl (fun wx hm=>refPack_cells st (takeR s) hT wx) fun z29 hz29=>?_
    replace hz29:y13 ≤ z29:=hz29
    refine hgE 15 ru_n9 [1,4,5,6,7,76] [] [] [.ops ru_n1 [3,4,5,6],.code ru_n3,.code ru_n5] ⟨[(1,sT s),(4,(pt w.heap.size 0)),(5,i6 0),(6,(pt g13 0)),(7,sT (packT st (takeR s))),(76,.bool ((packE st (takeR s)) != 0))],(ru_b5 s w g13),[],z29⟩ ?_
    rcases Bool.eq_false_or_eq_true ((packE st (takeR s)) != 0) with d5 | d5
    ·skip
     refine hgE 15 ru_n14 [4,5,6] [eD d5,eD d5,eD d5,eD d5,tT] [(w.heap.size,0,10)] [.code ru_n2,.code ru_n5] ⟨[(4,(pt w.heap.size 0)),(5,i6 80),(6,(pt g13 0))],(ru_b5 s w g13),[],z29⟩ ?_
     refine hrt [[⟨false,0,0,10⟩]] [.agg (List.toArray (ru_v1)),i6 80] [(w.heap.size,0,10)] ?_
     intro wx hm
     exact ⟨by
      have e2:takeNone st s = false:=by
       unfold takeNone
       rw [hz,Bool.and_false]
      have e1:takeGood st s = false:=by
       unfold takeGood
       rw [show (packE st (takeR s) == 0) = false from beq_eq_false_iff_ne.2 (bne_iff_ne.1 d5),Bool.and_false,Bool.false_and]
      unfold unpackR unpackE
      rw [e1,e2]
      rfl,hm.kept⟩
    ·skip
     refine hgE 8 ru_n10 [4,5,6,80] [eD d5,eD d5,eD d5,eD d5] [] [.code ru_n3,.code ru_n5] ⟨[(4,(pt w.heap.size 0)),(5,i6 0),(6,(pt g13 0)),(80,.bool (!(ByteArray.toList (packT st (takeR s)) == ByteArray.toList s)))],(ru_b5 s w g13),[],z29⟩ ?_
     rcases Bool.eq_false_or_eq_true (ByteArray.toList (packT st (takeR s)) == ByteArray.toList s) with d6 | d6
     ·skip
      refine hgE 11 ru_n11 [4,5] [eD (nF d6)] [(g13,0,10),(w.heap.size,0,10)] [.code ru_n4] ⟨[(4,(pt w.heap.size 0)),(5,i6 0)],[⟨w.heap.size,25,true,(ru_v5 s)⟩,⟨w.heap.size + 1,5,true,(ru_v2)⟩,⟨g13,25,true,(ru_v5 s)⟩],[],z29⟩ ?_
      refine hrt [[⟨false,0,0,10⟩]] [.agg (List.toArray (ru_v5 s)),i6 0] [(w.heap.size,0,10)] ?_
      intro wx hm
      exact ⟨by
       have e2:takeNone st s = false:=by
        unfold takeNone
        rw [hz,Bool.and_false]
       have e1:takeGood st s = true:=by
        unfold takeGood
        rw [hz,beq_iff_eq.2 h3,decide_eq_true (show 0 ≤ st by omega),decide_eq_true (show st < 8 by omega),d6,show (packE st (takeR s) == 0) = true from beq_iff_eq.2 (bne_eq_false_iff_eq.1 d5)]
        rfl
       unfold unpackR unpackE
       rw [e1,e2]
       rw [cond_true,Bool.true_or,cond_true,hT]
       rfl,hm.kept⟩
     ·skip
      refine hgE 10 ru_n13 [4,5,6] [eD (nT d6)] [(w.heap.size,0,10)] [.code ru_n2,.code ru_n5] ⟨[(4,(pt w.heap.size 0)),(5,i6 80),(6,(pt g13 0))],(ru_b5 s w g13),[],z29⟩ ?_
      refine hrt [[⟨false,0,0,10⟩]] [.agg (List.toArray (ru_v1)),i6 80] [(w.heap.size,0,10)] ?_
      intro wx hm
      exact ⟨by
       have e2:takeNone st s = false:=by
        unfold takeNone
        rw [hz,Bool.and_false]
       have e1:takeGood st s = false:=by
        unfold takeGood
        rw [d6,Bool.and_false]
       unfold unpackR unpackE
       rw [e1,e2]
       rfl,hm.kept⟩
  ·skip
   refine hgE 11 [oh0,oh0,(oA 2 5 1)] [0,1,4,5,6,64] [eD d1] [(g13,5,1)] [.code [1,1,1,1,1,0,1],.code [1,1,1,1,1,1]] ⟨[(0,i6 st),(1,sT s),(4,(pt w.heap.size 0)),(5,i6 0),(6,(pt g13 0)),(64,.bool (openS s))],(ru_b4 s w g13),[],y13⟩ ?_
   rcases Bool.eq_false_or_eq_true (openS s) with d7 | d7
   ·skip
    refine hgE 14 ru_n12 [1,4,5,6,69,70] [eD d7,oE ((0:Int) ≤ 35 ∧ (35:Int) ≤ 51 ∧ 51 ≤ ((s).size:Int))] [(g13,9,1),(g13,0,10)] [.ops [1,1,1,1,1,1,0] [2,3,4,5,6,7],.code [1,1,1,1,1,1,1]] ⟨[(1,sT s),(4,(pt w.heap.size 0)),(5,i6 0),(6,(pt g13 0)),(69,i6 st),(70,.agg (List.toArray (ru_v7 s)))],(ru_b7 s w g13),[],y13⟩ ?_
    have hT:(takeR s).cells = (ru_v7 s):=takeR_cells d1 d7
    refine hcp (.tuple #[sT (packT st (takeR s)),i6 (packE st (takeR s))]) 13 [i6 st,.agg (List.toArray (ru_v7 s))] (some 71) [] tI rfl (fun wx hm=>refPack_cells st (takeR s) hT wx) fun z40 hz40=>?_
    replace hz40:y13 ≤ z40:=hz40
    refine hgE 15 ru_n9 [1,4,5,6,7,76] [] [] [.ops ru_n1 [3,4,5,6],.code ru_n3,.code ru_n5] ⟨[(1,sT s),(4,(pt w.heap.size 0)),(5,i6 0),(6,(pt g13 0)),(7,sT (packT st (takeR s))),(76,.bool ((packE st (takeR s)) != 0))],(ru_b7 s w g13),[],z40⟩ ?_
    rcases Bool.eq_false_or_eq_true ((packE st (takeR s)) != 0) with d8 | d8
    ·skip
     refine hgE 15 ru_n14 [4,5,6] [eD d8,eD d8,eD d8,eD d8,tT] [(w.heap.size,0,10)] [.code ru_n2,.code ru_n5] ⟨[(4,(pt w.heap.size 0)),(5,i6 80),(6,(pt g13 0))],(ru_b7 s w g13),[],z40⟩ ?_
     refine hrt [[⟨false,0,0,10⟩]] [.agg (List.toArray (ru_v1)),i6 80] [(w.heap.size,0,10)] ?_
     intro wx hm
     exact ⟨by
      have e2:takeNone st s = false:=by
       unfold takeNone
       rw [hz,Bool.and_false]
      have e1:takeGood st s = false:=by
       unfold takeGood
       rw [show (packE st (takeR s) == 0) = false from beq_eq_false_iff_ne.2 (bne_iff_ne.1 d8),Bool.and_false,Bool.false_and]
      unfold unpackR unpackE
      rw [e1,e2]
      rfl,hm.kept⟩
    ·skip
     refine hgE 8 ru_n10 [4,5,6,80] [eD d8,eD d8,eD d8,eD d8] [] [.code ru_n3,.code ru_n5] ⟨[(4,(pt w.heap.size 0)),(5,i6 0),(6,(pt g13 0)),(80,.bool (!(ByteArray.toList (packT st (takeR s)) == ByteArray.toList s)))],(ru_b7 s w g13),[],z40⟩ ?_
     rcases Bool.eq_false_or_eq_true (ByteArray.toList (packT st (takeR s)) == ByteArray.toList s) with d9 | d9
     ·skip
      refine hgE 11 ru_n11 [4,5] [eD (nF d9)] [(g13,0,10),(w.heap.size,0,10)] [.code ru_n4] ⟨[(4,(pt w.heap.size 0)),(5,i6 0)],[⟨w.heap.size,25,true,(ru_v7 s)⟩,⟨w.heap.size + 1,5,true,(ru_v2)⟩,⟨g13,25,true,(ru_v7 s)⟩],[],z40⟩ ?_
      refine hrt [[⟨false,0,0,10⟩]] [.agg (List.toArray (ru_v7 s)),i6 0] [(w.heap.size,0,10)] ?_
      intro wx hm
      exact ⟨by
       have e2:takeNone st s = false:=by
        unfold takeNone
        rw [hz,Bool.and_false]
       have e1:takeGood st s = true:=by
        unfold takeGood
        rw [hz,beq_iff_eq.2 h3,decide_eq_true (show 0 ≤ st by omega),decide_eq_true (show st < 8 by omega),d9,show (packE st (takeR s) == 0) = true from beq_iff_eq.2 (bne_eq_false_iff_eq.1 d8)]
        rfl
       unfold unpackR unpackE
       rw [e1,e2]
       rw [cond_true,Bool.true_or,cond_true,hT]
       rfl,hm.kept⟩
     ·skip
      refine hgE 10 ru_n13 [4,5,6] [eD (nT d9)] [(w.heap.size,0,10)] [.code ru_n2,.code ru_n5] ⟨[(4,(pt w.heap.size 0)),(5,i6 80),(6,(pt g13 0))],(ru_b7 s w g13),[],z40⟩ ?_
      refine hrt [[⟨false,0,0,10⟩]] [.agg (List.toArray (ru_v1)),i6 80] [(w.heap.size,0,10)] ?_
      intro wx hm
      exact ⟨by
       have e2:takeNone st s = false:=by
        unfold takeNone
        rw [hz,Bool.and_false]
       have e1:takeGood st s = false:=by
        unfold takeGood
        rw [d9,Bool.and_false]
       unfold unpackR unpackE
       rw [e1,e2]
       rfl,hm.kept⟩
   ·skip
    refine hgE 9 [oh0,oh0,(oA 2 0 10)] [1,4,5,6,69,70] [eD d7] [(g13,0,10)] [.ops [1,1,1,1,1,1,0] [2,3,4,5,6,7],.code [1,1,1,1,1,1,1]] ⟨[(1,sT s),(4,(pt w.heap.size 0)),(5,i6 0),(6,(pt g13 0)),(69,i6 st),(70,.agg (List.toArray (ru_v4 s)))],(ru_b4 s w g13),[],y13⟩ ?_
    have hT:(takeR s).cells = (ru_v4 s):=takeR_cells d1 d7
    refine hcp (.tuple #[sT (packT st (takeR s)),i6 (packE st (takeR s))]) 13 [i6 st,.agg (List.toArray (ru_v4 s))] (some 71) [] tI rfl (fun wx hm=>refPack_cells st (takeR s) hT wx) fun z50 hz50=>?_
    replace hz50:y13 ≤ z50:=hz50
    refine hgE 15 ru_n9 [1,4,5,6,7,76] [] [] [.ops ru_n1 [3,4,5,6],.code ru_n3,.code ru_n5] ⟨[(1,sT s),(4,(pt w.heap.size 0)),(5,i6 0),(6,(pt g13 0)),(7,sT (packT st (takeR s))),(76,.bool ((packE st (takeR s)) != 0))],(ru_b4 s w g13),[],z50⟩ ?_
    rcases Bool.eq_false_or_eq_true ((packE st (takeR s)) != 0) with d10 | d10
    ·skip
     refine hgE 15 ru_n14 [4,5,6] [eD d10,eD d10,eD d10,eD d10,tT] [(w.heap.size,0,10)] [.code ru_n2,.code ru_n5] ⟨[(4,(pt w.heap.size 0)),(5,i6 80),(6,(pt g13 0))],(ru_b4 s w g13),[],z50⟩ ?_
     refine hrt [[⟨false,0,0,10⟩]] [.agg (List.toArray (ru_v1)),i6 80] [(w.heap.size,0,10)] ?_
     intro wx hm
     exact ⟨by
      have e2:takeNone st s = false:=by
       unfold takeNone
       rw [hz,Bool.and_false]
      have e1:takeGood st s = false:=by
       unfold takeGood
       rw [show (packE st (takeR s) == 0) = false from beq_eq_false_iff_ne.2 (bne_iff_ne.1 d10),Bool.and_false,Bool.false_and]
      unfold unpackR unpackE
      rw [e1,e2]
      rfl,hm.kept⟩
    ·skip
     refine hgE 8 ru_n10 [4,5,6,80] [eD d10,eD d10,eD d10,eD d10] [] [.code ru_n3,.code ru_n5] ⟨[(4,(pt w.heap.size 0)),(5,i6 0),(6,(pt g13 0)),(80,.bool (!(ByteArray.toList (packT st (takeR s)) == ByteArray.toList s)))],(ru_b4 s w g13),[],z50⟩ ?_
     rcases Bool.eq_false_or_eq_true (ByteArray.toList (packT st (takeR s)) == ByteArray.toList s) with d11 | d11
     ·skip
      refine hgE 11 ru_n11 [4,5] [eD (nF d11)] [(g13,0,10),(w.heap.size,0,10)] [.code ru_n4] ⟨[(4,(pt w.heap.size 0)),(5,i6 0)],[⟨w.heap.size,25,true,(ru_v4 s)⟩,⟨w.heap.size + 1,5,true,(ru_v2)⟩,⟨g13,25,true,(ru_v4 s)⟩],[],z50⟩ ?_
      refine hrt [[⟨false,0,0,10⟩]] [.agg (List.toArray (ru_v4 s)),i6 0] [(w.heap.size,0,10)] ?_
      intro wx hm
      exact ⟨by
       have e2:takeNone st s = false:=by
        unfold takeNone
        rw [hz,Bool.and_false]
       have e1:takeGood st s = true:=by
        unfold takeGood
        rw [hz,beq_iff_eq.2 h3,decide_eq_true (show 0 ≤ st by omega),decide_eq_true (show st < 8 by omega),d11,show (packE st (takeR s) == 0) = true from beq_iff_eq.2 (bne_eq_false_iff_eq.1 d10)]
        rfl
       unfold unpackR unpackE
       rw [e1,e2]
       rw [cond_true,Bool.true_or,cond_true,hT]
       rfl,hm.kept⟩
     ·skip
      refine hgE 10 ru_n13 [4,5,6] [eD (nT d11)] [(w.heap.size,0,10)] [.code ru_n2,.code ru_n5] ⟨[(4,(pt w.heap.size 0)),(5,i6 80),(6,(pt g13 0))],(ru_b4 s w g13),[],z50⟩ ?_
      refine hrt [[⟨false,0,0,10⟩]] [.agg (List.toArray (ru_v1)),i6 80] [(w.heap.size,0,10)] ?_
      intro wx hm
      exact ⟨by
       have e2:takeNone st s = false:=by
        unfold takeNone
        rw [hz,Bool.and_false]
       have e1:takeGood st s = false:=by
        unfold takeGood
        rw [d11,Bool.and_false]
       unfold unpackR unpackE
       rw [e1,e2]
       rfl,hm.kept⟩
 have H1:∀ (g13 y13:Nat),w.heap.size + 2 ≤ g13 → w.heap.size + 2 ≤ y13 → Holds [] Try.prog (bodyOf Try.f15) 83 w (fun _=>False) (bodyPost Try.prog Try.f15 (RetK (.tuple #[.agg (unpackR st s).cells.toArray,.int .i64 (unpackE st s)]) w)) (.any [1,1,1,0] 1 ru_n7 :: [.code [1,1,1,1]]) ⟨[(6,(pt g13 0)),(0,.int .i64 st),(1,.string s),(4,(pt w.heap.size 0)),(5,.int .i64 0),(57,.agg (List.toArray (ru_v3 s)))],(ru_b2 w g13),[],y13⟩:=by
  intro g13 y13 hg13 hy13
  refine holds_tail panicOk_body _ _ (ru_t14 st s w g13 y13) trivial ?_
  refine holds_done (by kernel_rfl) ?_
  exact HZ g13 _ (by omega) (by omega)
 refine holds_float (fl:=32) (t:=25) (d:=6) (cs:=(ru_v1)) (ls0:=ru_n6) (ls1:=ru_n7) (f:=1) 32 _ _ (by kernel_rfl) (by kernel_rfl) (by kernel_rfl) (by kernel_rfl) (by decide) (by kernel_rfl) (by kernel_rfl) (by kernel_rfl) (ru_q13 st s w) ⟨⟨by omega,by omega⟩,in64 (by omega),⟨by omega,by omega⟩,⟨by omega,by omega⟩,in64 (by omega),⟨by omega,by omega,le_max64 (by omega)⟩,⟨by omega,by omega⟩,⟨by omega,by omega⟩,(fun wx hm=>num_at s 3 (by omega) wx),⟨by omega,by omega⟩,(fun wx hm=>num_at s 6 (by omega) wx),⟨by omega,by omega⟩,(fun wx hm=>num_at s 9 (by omega) wx),⟨by omega,by omega⟩,(fun wx hm=>num_at s 12 (by omega) wx),⟨by omega,by omega⟩,(fun wx hm=>num_at s 15 (by omega) wx),⟨by omega,by omega⟩,in64 (by omega),trivial⟩ H1 ?_
 intro y13 hy13
 replace hy13:w.heap.size + 2 ≤ y13:=hy13
 refine holds_tail panicOk_body _ _ (ru_t15 st s w y13) trivial ?_
 refine holds_done (by kernel_rfl) ?_
 exact HZ _ _ (by omega) (by omega)
end Go.Proofs.Ytpilmccjjbgmiaa
