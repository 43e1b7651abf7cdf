import Derived.Test.YtfiheghjhgnblaaEngT
import Derived.Test.YtfiheghjhgnblaaProg
namespace Go.Proofs.Ytfiheghjhgnblaa
open Go.RowKit
set_option maxRecDepth 100000 in
set_option maxHeartbeats 4000000 in
theorem within_true (a b c:Int) (h1:b ≤ a) (h2:a ≤ c) (w:World) :
  Calls Try.prog 38 #[.int .i64 a,.int .i64 b,.int .i64 c] w (RetK (.bool true) w):=by
 refine calls_of_holds (S:=(fun _=>False)) (l:=[.int .i64 a,.int .i64 b,.int .i64 c]) (n:=15) Try.func38 (body_of (by kernel_rfl)) rfl (by simp) (MemOk.none w _) ?_
 refine hgE 19 [oh0,oh0,oh0,oh0,oh0,oh1,oh1,oh1,oh3,oh0] [6] [dT ((a:Int) ≥ b),dT ((a:Int) ≥ b),dT ((a:Int) ≥ b),dT ((a:Int) ≥ b)] [] [.code [1,1]] ⟨[(6,.bool (decide ((a:Int) ≤ c)))],[],[],w.heap.size⟩ ?_
 refine hrt [] [.bool (decide ((a:Int) ≤ c))] [] ?_
 intro wx hm
 refine ⟨?_,hm.kept⟩
 exact ret_bool (decide_eq_true (by omega))
@[simp] def beforeany_b1 (a:Int) (b:Int) (c:Int) (d:Int) (w:World):List Bk:=[⟨w.heap.size,33,true,[i6 a,i6 b]⟩,⟨w.heap.size + 1,33,true,[i6 c,i6 d]⟩]
set_option maxRecDepth 100000 in
set_option maxHeartbeats 4000000 in
theorem before_any (a b c d:Int) (w:World) :
  Calls Try.prog 79 #[.agg #[.int .i64 a,.int .i64 b],.agg #[.int .i64 c,.int .i64 d]] w (RetK (.bool (beforeM a b c d)) w):=by
 refine calls_of_holds (S:=(fun _=>False)) (l:=[.agg #[.int .i64 a,.int .i64 b],.agg #[.int .i64 c,.int .i64 d]]) (n:=24) Try.func79 (body_of (by kernel_rfl)) rfl (by simp) (MemOk.none w _) ?_
 refine hgE 17 [oh0,oh0,oh0,oh0,(oA 0 0 1),oh0,(oA 1 0 1),oh0,oh0] [2,3,4,10] [] [(w.heap.size,0,1),(w.heap.size + 1,0,1)] [.ops [1,0] [6,7,8,9,10,11,12,13,14,15,16,17,18,19],.code [1,1]] ⟨[(2,(pt w.heap.size 0)),(3,(pt (w.heap.size + 1) 0)),(4,.bool false),(10,.bool (decide ((a:Int) < c)))],(beforeany_b1 a b c d w),[],w.heap.size + 2⟩ ?_
 rcases Bool.eq_false_or_eq_true (decide ((a:Int) < c)) with d1 | d1
 ·skip
  refine hgE 18 [oh1,oh1,oh1,oh1,oh1,oh1,oh0,oh0,oh0,oh0,oh0,oh1,oh3,oh0] [4] [eD d1,eD d1,eD d1,eD d1,eD d1,eD d1,eD d1,eD d1] [] [.code [1,1]] ⟨[(4,.bool true)],(beforeany_b1 a b c d w),[],w.heap.size + 2⟩ ?_
  refine hrt [] [.bool true] [] ?_
  intro wx hm
  refine ⟨?_,hm.kept⟩
  exact ret_bool (by simp [beforeM,d1])
 ·skip
  refine hgE 9 [oh0,(oA 0 0 1),oh0,(oA 1 0 1),oh0,oh0] [2,3,4,10,16] [eD d1,eD d1,eD d1,eD d1,eD d1,eD d1] [(w.heap.size,0,1),(w.heap.size + 1,0,1)] [.ops [1,0] [12,13,14,15,16,17,18,19],.code [1,1]] ⟨[(2,(pt w.heap.size 0)),(3,(pt (w.heap.size + 1) 0)),(4,.bool false),(10,.bool (decide ((a:Int) < c))),(16,.bool (a == c))],(beforeany_b1 a b c d w),[],w.heap.size + 2⟩ ?_
  rcases Bool.eq_false_or_eq_true (a == c) with d2 | d2
  ·skip
   refine hgE 12 [oh1,⟨true,0,[⟨false,0,1,1⟩]⟩,oh1,⟨true,0,[⟨false,1,1,1⟩]⟩,oh1,oh3,⟨false,3,[]⟩,oh0] [4] [eD d2,eD d2,eD d2,eD d2,eD d2,eD d1,eD d2,eD d1] [(w.heap.size,1,1),(w.heap.size + 1,1,1)] [.code [1,1]] ⟨[(4,.bool (decide ((b:Int) < d)))],(beforeany_b1 a b c d w),[],w.heap.size + 2⟩ ?_
   refine hrt [] [.bool (decide ((b:Int) < d))] [] ?_
   intro wx hm
   refine ⟨?_,hm.kept⟩
   exact ret_bool (by simp [beforeM,d1,d2])
  ·skip
   refine hgE 12 [oh0,oh0,oh0,oh0,oh0,⟨false,3,[]⟩,⟨false,3,[]⟩,oh0] [4] [eD d2,eD d2,eD d2,eD d2,eD d2,eD d1,eD d2,eD d1] [] [.code [1,1]] ⟨[(4,.bool false)],(beforeany_b1 a b c d w),[],w.heap.size + 2⟩ ?_
   refine hrt [] [.bool false] [] ?_
   intro wx hm
   refine ⟨?_,hm.kept⟩
   exact ret_bool (by simp [beforeM,d1,d2])
@[simp] def beforeref_b1 (a:Int) (b:Int) (c:Int) (d:Int) (w:World):List Bk:=[⟨w.heap.size,33,true,[i6 a,i6 b]⟩,⟨w.heap.size + 1,33,true,[i6 c,i6 d]⟩]
def say_v1 (f:Int) (st:Int):List Value:=[i6 st,i6 f,i6 0,.bool false,i6 0,i6 0,i6 0,sT ⟨#[]⟩,.bool false,i6 0,i6 0,i6 0,sT ⟨#[]⟩]
def say_v2 (u:Bool) (f:Int) (de:Int) (ds:Int) (b:ByteArray) (o:Bool) (ie:Int) (is:Int) (m:Int) (s:ByteArray):List Value:=[.bool u,i6 f,i6 de,i6 ds,sT b,.bool o,i6 ie,i6 is,i6 m,sT s]
def say_v3:List Value:=rp 3 (.int .i64 0) ++ [.bool false] ++ rp 3 (.int .i64 0) ++ [.string ⟨#[]⟩,.bool false] ++ rp 3 (.int .i64 0) ++ [.string ⟨#[]⟩]
def say_v4:List Value:=[.bool false] ++ rp 3 (.int .i64 0) ++ [.string ⟨#[]⟩,.bool false] ++ rp 3 (.int .i64 0) ++ [.string ⟨#[]⟩]
def say_Q (u:Bool) (f:Int) (de:Int) (ds:Int) (b:ByteArray) (o:Bool) (ie:Int) (is:Int) (m:Int) (s:ByteArray) (st:Int) (w:World):Exit → Act → World → Prop:=bodyPost Try.prog Try.f78 (RetK (.tuple #[.agg #[.bool u,i6 f,i6 de,i6 ds,sT b,.bool o,i6 ie,i6 is,i6 m,sT s],.agg #[i6 st,i6 f,i6 0,.bool false,i6 0,i6 0,i6 0,sT ⟨#[]⟩,.bool false,i6 0,i6 0,i6 0,sT ⟨#[]⟩]]) w)
def say_n1:Array Bool:=#[false,true,true,false,false,false,false]
def say_n2:Array Bool:=#[false,true,true,true,false,false,false]
def say_n3:Array Bool:=#[true,false,true,false,false,false,false]
def say_n4:Array Bool:=#[true,false,true,false,false,true,false]
def say_n5:Array Bool:=#[true,false,true,true,false,false,false]
def say_n6:Array Bool:=#[true,false,true,true,false,true,false]
def say_n7:Array Bool:=#[true,true,false,false,false,false,false]
def say_n8:Array Bool:=#[true,true,false,false,false,true,false]
def say_n9:Array Bool:=#[true,true,true,false,false,false,false]
def say_n10:Array Bool:=#[true,true,true,false,false,true,false]
def say_n11:Array Bool:=#[true,true,true,true,false,false,false]
def say_n12:Array Bool:=#[true,true,true,true,false,true,false]
def say_n13:Array Bool:=#[true,true,true,true,true,false,false]
def say_n14:Array Bool:=#[true,true,true,true,true,true,false]
@[simp] def say_b1 (u:Bool) (f:Int) (de:Int) (ds:Int) (b:ByteArray) (o:Bool) (ie:Int) (is:Int) (m:Int) (s:ByteArray) (w:World):List Bk:=[⟨w.heap.size,43,true,(say_v2 u f de ds b o ie is m s)⟩,⟨w.heap.size + 1,43,true,(say_v2 u f de ds b o ie is m s)⟩,⟨w.heap.size + 2,45,true,(say_v3)⟩]
@[simp] def say_b2 (u:Bool) (f:Int) (de:Int) (ds:Int) (b:ByteArray) (o:Bool) (ie:Int) (is:Int) (m:Int) (s:ByteArray) (st:Int) (w:World):List Bk:=[⟨w.heap.size,43,true,(say_v2 u f de ds b o ie is m s)⟩,⟨w.heap.size + 1,43,true,(say_v2 u f de ds b o ie is m s)⟩,⟨w.heap.size + 2,45,true,(say_v1 f st)⟩]
@[simp] def say_b3 (u:Bool) (f:Int) (de:Int) (ds:Int) (b:ByteArray) (o:Bool) (ie:Int) (is:Int) (m:Int) (s:ByteArray) (w:World):List Bk:=[⟨w.heap.size,43,true,(say_v2 u f de ds b o ie is m s)⟩,⟨w.heap.size + 1,43,true,(say_v4)⟩,⟨w.heap.size + 2,45,true,(say_v3)⟩]
theorem say_e3 (u:Bool) (f:Int) (de:Int) (ds:Int) (b:ByteArray) (o:Bool) (ie:Int) (is:Int) (m:Int) (s:ByteArray) (st:Int) (w:World) (z2:Nat):Out.prune [4,5] (opStep Try.prog 11 (opsOf (getCode (bodyOf Try.f78) [1,0])) ⟨[(4,(pt (w.heap.size + 1) 0)),(5,(pt (w.heap.size + 2) 0)),(10,.agg (List.toArray (say_v1 f st)))],(say_b1 u f de ds b o ie is m s w),[],z2⟩ 6 (oA 2 0 13)) = some ⟨[],dupR [(w.heap.size + 2,0,13)],⟨[(4,(pt (w.heap.size + 1) 0)),(5,(pt (w.heap.size + 2) 0))],(say_b2 u f de ds b o ie is m s st w),[],z2⟩⟩:=by kernel_rfl
theorem say_e4 (u:Bool) (f:Int) (de:Int) (ds:Int) (b:ByteArray) (o:Bool) (ie:Int) (is:Int) (m:Int) (s:ByteArray) (st:Int) (w:World) (z2:Nat):Out.prune [4,5,10] (opStep Try.prog 11 (opsOf (getCode (bodyOf Try.f78) [1,0])) ⟨[(4,(pt (w.heap.size + 1) 0)),(5,(pt (w.heap.size + 2) 0)),(6,.agg (List.toArray (say_v2 u f de ds b o ie is m s))),(10,.agg (List.toArray (say_v1 f st)))],(say_b3 u f de ds b o ie is m s w),[],z2⟩ 5 (oA 1 0 10)) = some ⟨[],dupR [(w.heap.size + 1,0,10)],⟨[(4,(pt (w.heap.size + 1) 0)),(5,(pt (w.heap.size + 2) 0)),(10,.agg (List.toArray (say_v1 f st)))],(say_b1 u f de ds b o ie is m s w),[],z2⟩⟩:=by kernel_rfl
theorem say_e5 (u:Bool) (f:Int) (de:Int) (ds:Int) (b:ByteArray) (o:Bool) (ie:Int) (is:Int) (m:Int) (s:ByteArray) (st:Int) (w:World) (z2:Nat):Out.prune [4,5,10] (opStep Try.prog 11 (opsOf (getCode (bodyOf Try.f78) [1,0])) ⟨[(4,(pt (w.heap.size + 1) 0)),(5,(pt (w.heap.size + 2) 0)),(7,i6 st),(9,i6 f)],(say_b1 u f de ds b o ie is m s w),[],z2⟩ 4 oh0) = some ⟨[],dupR [],⟨[(4,(pt (w.heap.size + 1) 0)),(5,(pt (w.heap.size + 2) 0)),(10,.agg (List.toArray (say_v1 f st)))],(say_b1 u f de ds b o ie is m s w),[],z2⟩⟩:=by kernel_rfl
theorem say_e6 (u:Bool) (f:Int) (de:Int) (ds:Int) (b:ByteArray) (o:Bool) (ie:Int) (is:Int) (m:Int) (s:ByteArray) (st:Int) (w:World) (z2:Nat):Out.prune [4,5,6,10] (opStep Try.prog 11 (opsOf (getCode (bodyOf Try.f78) [1,0])) ⟨[(4,(pt (w.heap.size + 1) 0)),(5,(pt (w.heap.size + 2) 0)),(6,.agg (List.toArray (say_v2 u f de ds b o ie is m s))),(7,i6 st),(9,i6 f)],(say_b3 u f de ds b o ie is m s w),[],z2⟩ 4 oh0) = some ⟨[],dupR [],⟨[(4,(pt (w.heap.size + 1) 0)),(5,(pt (w.heap.size + 2) 0)),(6,.agg (List.toArray (say_v2 u f de ds b o ie is m s))),(10,.agg (List.toArray (say_v1 f st)))],(say_b3 u f de ds b o ie is m s w),[],z2⟩⟩:=by kernel_rfl
theorem say_e7 (u:Bool) (f:Int) (de:Int) (ds:Int) (b:ByteArray) (o:Bool) (ie:Int) (is:Int) (m:Int) (s:ByteArray) (st:Int) (w:World) (z2:Nat):Out.prune [4,5,7,9] (opStep Try.prog 11 (opsOf (getCode (bodyOf Try.f78) [1,0])) ⟨[(4,(pt (w.heap.size + 1) 0)),(5,(pt (w.heap.size + 2) 0)),(6,.agg (List.toArray (say_v2 u f de ds b o ie is m s))),(7,i6 st),(9,i6 f)],(say_b3 u f de ds b o ie is m s w),[],z2⟩ 5 (oA 1 0 10)) = some ⟨[],dupR [(w.heap.size + 1,0,10)],⟨[(4,(pt (w.heap.size + 1) 0)),(5,(pt (w.heap.size + 2) 0)),(7,i6 st),(9,i6 f)],(say_b1 u f de ds b o ie is m s w),[],z2⟩⟩:=by kernel_rfl
theorem say_e8 (u:Bool) (f:Int) (de:Int) (ds:Int) (b:ByteArray) (o:Bool) (ie:Int) (is:Int) (m:Int) (s:ByteArray) (st:Int) (w:World) (z2:Nat):Out.prune [4,5,7,9] (opStep Try.prog 11 (opsOf (getCode (bodyOf Try.f78) [1,0])) ⟨[(4,(pt (w.heap.size + 1) 0)),(5,(pt (w.heap.size + 2) 0)),(7,i6 st),(8,(pt w.heap.size 1))],(say_b1 u f de ds b o ie is m s w),[],z2⟩ 3 (oA 0 1 1)) = some ⟨[],dupR [(w.heap.size,1,1)],⟨[(4,(pt (w.heap.size + 1) 0)),(5,(pt (w.heap.size + 2) 0)),(7,i6 st),(9,i6 f)],(say_b1 u f de ds b o ie is m s w),[],z2⟩⟩:=by kernel_rfl
theorem say_e9 (u:Bool) (f:Int) (de:Int) (ds:Int) (b:ByteArray) (o:Bool) (ie:Int) (is:Int) (m:Int) (s:ByteArray) (st:Int) (w:World) (z2:Nat):Out.prune [4,5,7,9] (opStep Try.prog 11 (opsOf (getCode (bodyOf Try.f78) [1,0])) ⟨[(1,i6 st),(4,(pt (w.heap.size + 1) 0)),(5,(pt (w.heap.size + 2) 0)),(9,i6 f)],(say_b1 u f de ds b o ie is m s w),[],z2⟩ 1 oh0) = some ⟨[],dupR [],⟨[(4,(pt (w.heap.size + 1) 0)),(5,(pt (w.heap.size + 2) 0)),(7,i6 st),(9,i6 f)],(say_b1 u f de ds b o ie is m s w),[],z2⟩⟩:=by kernel_rfl
theorem say_e10 (u:Bool) (f:Int) (de:Int) (ds:Int) (b:ByteArray) (o:Bool) (ie:Int) (is:Int) (m:Int) (s:ByteArray) (st:Int) (w:World) (z2:Nat):Out.prune [4,5,6,10] (opStep Try.prog 11 (opsOf (getCode (bodyOf Try.f78) [1,0])) ⟨[(2,(pt w.heap.size 0)),(4,(pt (w.heap.size + 1) 0)),(5,(pt (w.heap.size + 2) 0)),(10,.agg (List.toArray (say_v1 f st)))],(say_b3 u f de ds b o ie is m s w),[],z2⟩ 0 (oA 0 0 10)) = some ⟨[],dupR [(w.heap.size,0,10)],⟨[(4,(pt (w.heap.size + 1) 0)),(5,(pt (w.heap.size + 2) 0)),(6,.agg (List.toArray (say_v2 u f de ds b o ie is m s))),(10,.agg (List.toArray (say_v1 f st)))],(say_b3 u f de ds b o ie is m s w),[],z2⟩⟩:=by kernel_rfl
theorem say_e11 (u:Bool) (f:Int) (de:Int) (ds:Int) (b:ByteArray) (o:Bool) (ie:Int) (is:Int) (m:Int) (s:ByteArray) (st:Int) (w:World) (z2:Nat):Out.prune [4,5,6,7,9] (opStep Try.prog 11 (opsOf (getCode (bodyOf Try.f78) [1,0])) ⟨[(4,(pt (w.heap.size + 1) 0)),(5,(pt (w.heap.size + 2) 0)),(6,.agg (List.toArray (say_v2 u f de ds b o ie is m s))),(7,i6 st),(8,(pt w.heap.size 1))],(say_b3 u f de ds b o ie is m s w),[],z2⟩ 3 (oA 0 1 1)) = some ⟨[],dupR [(w.heap.size,1,1)],⟨[(4,(pt (w.heap.size + 1) 0)),(5,(pt (w.heap.size + 2) 0)),(6,.agg (List.toArray (say_v2 u f de ds b o ie is m s))),(7,i6 st),(9,i6 f)],(say_b3 u f de ds b o ie is m s w),[],z2⟩⟩:=by kernel_rfl
theorem say_e12 (u:Bool) (f:Int) (de:Int) (ds:Int) (b:ByteArray) (o:Bool) (ie:Int) (is:Int) (m:Int) (s:ByteArray) (st:Int) (w:World) (z2:Nat):Out.prune [4,5,7,8] (opStep Try.prog 11 (opsOf (getCode (bodyOf Try.f78) [1,0])) ⟨[(4,(pt (w.heap.size + 1) 0)),(5,(pt (w.heap.size + 2) 0)),(6,.agg (List.toArray (say_v2 u f de ds b o ie is m s))),(7,i6 st),(8,(pt w.heap.size 1))],(say_b3 u f de ds b o ie is m s w),[],z2⟩ 5 (oA 1 0 10)) = some ⟨[],dupR [(w.heap.size + 1,0,10)],⟨[(4,(pt (w.heap.size + 1) 0)),(5,(pt (w.heap.size + 2) 0)),(7,i6 st),(8,(pt w.heap.size 1))],(say_b1 u f de ds b o ie is m s w),[],z2⟩⟩:=by kernel_rfl
theorem say_e13 (u:Bool) (f:Int) (de:Int) (ds:Int) (b:ByteArray) (o:Bool) (ie:Int) (is:Int) (m:Int) (s:ByteArray) (st:Int) (w:World) (z2:Nat):Out.prune [4,5,7,8] (opStep Try.prog 11 (opsOf (getCode (bodyOf Try.f78) [1,0])) ⟨[(2,(pt w.heap.size 0)),(4,(pt (w.heap.size + 1) 0)),(5,(pt (w.heap.size + 2) 0)),(7,i6 st)],(say_b1 u f de ds b o ie is m s w),[],z2⟩ 2 oh0) = some ⟨[],dupR [],⟨[(4,(pt (w.heap.size + 1) 0)),(5,(pt (w.heap.size + 2) 0)),(7,i6 st),(8,(pt w.heap.size 1))],(say_b1 u f de ds b o ie is m s w),[],z2⟩⟩:=by kernel_rfl
theorem say_e14 (u:Bool) (f:Int) (de:Int) (ds:Int) (b:ByteArray) (o:Bool) (ie:Int) (is:Int) (m:Int) (s:ByteArray) (st:Int) (w:World) (z2:Nat):Out.prune [4,5,6,7,9] (opStep Try.prog 11 (opsOf (getCode (bodyOf Try.f78) [1,0])) ⟨[(1,i6 st),(4,(pt (w.heap.size + 1) 0)),(5,(pt (w.heap.size + 2) 0)),(6,.agg (List.toArray (say_v2 u f de ds b o ie is m s))),(9,i6 f)],(say_b3 u f de ds b o ie is m s w),[],z2⟩ 1 oh0) = some ⟨[],dupR [],⟨[(4,(pt (w.heap.size + 1) 0)),(5,(pt (w.heap.size + 2) 0)),(6,.agg (List.toArray (say_v2 u f de ds b o ie is m s))),(7,i6 st),(9,i6 f)],(say_b3 u f de ds b o ie is m s w),[],z2⟩⟩:=by kernel_rfl
theorem say_e15 (u:Bool) (f:Int) (de:Int) (ds:Int) (b:ByteArray) (o:Bool) (ie:Int) (is:Int) (m:Int) (s:ByteArray) (st:Int) (w:World) (z2:Nat):Out.prune [1,4,5,9] (opStep Try.prog 11 (opsOf (getCode (bodyOf Try.f78) [1,0])) ⟨[(1,i6 st),(4,(pt (w.heap.size + 1) 0)),(5,(pt (w.heap.size + 2) 0)),(6,.agg (List.toArray (say_v2 u f de ds b o ie is m s))),(9,i6 f)],(say_b3 u f de ds b o ie is m s w),[],z2⟩ 5 (oA 1 0 10)) = some ⟨[],dupR [(w.heap.size + 1,0,10)],⟨[(1,i6 st),(4,(pt (w.heap.size + 1) 0)),(5,(pt (w.heap.size + 2) 0)),(9,i6 f)],(say_b1 u f de ds b o ie is m s w),[],z2⟩⟩:=by kernel_rfl
theorem say_e16 (u:Bool) (f:Int) (de:Int) (ds:Int) (b:ByteArray) (o:Bool) (ie:Int) (is:Int) (m:Int) (s:ByteArray) (st:Int) (w:World) (z2:Nat):Out.prune [4,5,7,8] (opStep Try.prog 11 (opsOf (getCode (bodyOf Try.f78) [1,0])) ⟨[(1,i6 st),(4,(pt (w.heap.size + 1) 0)),(5,(pt (w.heap.size + 2) 0)),(8,(pt w.heap.size 1))],(say_b1 u f de ds b o ie is m s w),[],z2⟩ 1 oh0) = some ⟨[],dupR [],⟨[(4,(pt (w.heap.size + 1) 0)),(5,(pt (w.heap.size + 2) 0)),(7,i6 st),(8,(pt w.heap.size 1))],(say_b1 u f de ds b o ie is m s w),[],z2⟩⟩:=by kernel_rfl
theorem say_e17 (u:Bool) (f:Int) (de:Int) (ds:Int) (b:ByteArray) (o:Bool) (ie:Int) (is:Int) (m:Int) (s:ByteArray) (st:Int) (w:World) (z2:Nat):Out.prune [1,4,5,9] (opStep Try.prog 11 (opsOf (getCode (bodyOf Try.f78) [1,0])) ⟨[(1,i6 st),(4,(pt (w.heap.size + 1) 0)),(5,(pt (w.heap.size + 2) 0)),(8,(pt w.heap.size 1))],(say_b1 u f de ds b o ie is m s w),[],z2⟩ 3 (oA 0 1 1)) = some ⟨[],dupR [(w.heap.size,1,1)],⟨[(1,i6 st),(4,(pt (w.heap.size + 1) 0)),(5,(pt (w.heap.size + 2) 0)),(9,i6 f)],(say_b1 u f de ds b o ie is m s w),[],z2⟩⟩:=by kernel_rfl
theorem say_e18 (u:Bool) (f:Int) (de:Int) (ds:Int) (b:ByteArray) (o:Bool) (ie:Int) (is:Int) (m:Int) (s:ByteArray) (st:Int) (w:World) (z2:Nat):Out.prune [4,5,6,7,9] (opStep Try.prog 11 (opsOf (getCode (bodyOf Try.f78) [1,0])) ⟨[(2,(pt w.heap.size 0)),(4,(pt (w.heap.size + 1) 0)),(5,(pt (w.heap.size + 2) 0)),(7,i6 st),(9,i6 f)],(say_b3 u f de ds b o ie is m s w),[],z2⟩ 0 (oA 0 0 10)) = some ⟨[],dupR [(w.heap.size,0,10)],⟨[(4,(pt (w.heap.size + 1) 0)),(5,(pt (w.heap.size + 2) 0)),(6,.agg (List.toArray (say_v2 u f de ds b o ie is m s))),(7,i6 st),(9,i6 f)],(say_b3 u f de ds b o ie is m s w),[],z2⟩⟩:=by kernel_rfl
theorem say_e19 (u:Bool) (f:Int) (de:Int) (ds:Int) (b:ByteArray) (o:Bool) (ie:Int) (is:Int) (m:Int) (s:ByteArray) (st:Int) (w:World) (z2:Nat):Out.prune [2,4,5,10] (opStep Try.prog 11 (opsOf (getCode (bodyOf Try.f78) [1,0])) ⟨[(2,(pt w.heap.size 0)),(4,(pt (w.heap.size + 1) 0)),(5,(pt (w.heap.size + 2) 0)),(7,i6 st),(9,i6 f)],(say_b3 u f de ds b o ie is m s w),[],z2⟩ 4 oh0) = some ⟨[],dupR [],⟨[(2,(pt w.heap.size 0)),(4,(pt (w.heap.size + 1) 0)),(5,(pt (w.heap.size + 2) 0)),(10,.agg (List.toArray (say_v1 f st)))],(say_b3 u f de ds b o ie is m s w),[],z2⟩⟩:=by kernel_rfl
theorem say_e20 (u:Bool) (f:Int) (de:Int) (ds:Int) (b:ByteArray) (o:Bool) (ie:Int) (is:Int) (m:Int) (s:ByteArray) (st:Int) (w:World) (z2:Nat):Out.prune [4,5,6,7,8] (opStep Try.prog 11 (opsOf (getCode (bodyOf Try.f78) [1,0])) ⟨[(2,(pt w.heap.size 0)),(4,(pt (w.heap.size + 1) 0)),(5,(pt (w.heap.size + 2) 0)),(6,.agg (List.toArray (say_v2 u f de ds b o ie is m s))),(7,i6 st)],(say_b3 u f de ds b o ie is m s w),[],z2⟩ 2 oh0) = some ⟨[],dupR [],⟨[(4,(pt (w.heap.size + 1) 0)),(5,(pt (w.heap.size + 2) 0)),(6,.agg (List.toArray (say_v2 u f de ds b o ie is m s))),(7,i6 st),(8,(pt w.heap.size 1))],(say_b3 u f de ds b o ie is m s w),[],z2⟩⟩:=by kernel_rfl
theorem say_e21 (u:Bool) (f:Int) (de:Int) (ds:Int) (b:ByteArray) (o:Bool) (ie:Int) (is:Int) (m:Int) (s:ByteArray) (st:Int) (w:World) (z2:Nat):Out.prune [2,4,5,7] (opStep Try.prog 11 (opsOf (getCode (bodyOf Try.f78) [1,0])) ⟨[(2,(pt w.heap.size 0)),(4,(pt (w.heap.size + 1) 0)),(5,(pt (w.heap.size + 2) 0)),(6,.agg (List.toArray (say_v2 u f de ds b o ie is m s))),(7,i6 st)],(say_b3 u f de ds b o ie is m s w),[],z2⟩ 5 (oA 1 0 10)) = some ⟨[],dupR [(w.heap.size + 1,0,10)],⟨[(2,(pt w.heap.size 0)),(4,(pt (w.heap.size + 1) 0)),(5,(pt (w.heap.size + 2) 0)),(7,i6 st)],(say_b1 u f de ds b o ie is m s w),[],z2⟩⟩:=by kernel_rfl
theorem say_e22 (u:Bool) (f:Int) (de:Int) (ds:Int) (b:ByteArray) (o:Bool) (ie:Int) (is:Int) (m:Int) (s:ByteArray) (st:Int) (w:World) (z2:Nat):Out.prune [4,5,6,7,8] (opStep Try.prog 11 (opsOf (getCode (bodyOf Try.f78) [1,0])) ⟨[(1,i6 st),(4,(pt (w.heap.size + 1) 0)),(5,(pt (w.heap.size + 2) 0)),(6,.agg (List.toArray (say_v2 u f de ds b o ie is m s))),(8,(pt w.heap.size 1))],(say_b3 u f de ds b o ie is m s w),[],z2⟩ 1 oh0) = some ⟨[],dupR [],⟨[(4,(pt (w.heap.size + 1) 0)),(5,(pt (w.heap.size + 2) 0)),(6,.agg (List.toArray (say_v2 u f de ds b o ie is m s))),(7,i6 st),(8,(pt w.heap.size 1))],(say_b3 u f de ds b o ie is m s w),[],z2⟩⟩:=by kernel_rfl
theorem say_e23 (u:Bool) (f:Int) (de:Int) (ds:Int) (b:ByteArray) (o:Bool) (ie:Int) (is:Int) (m:Int) (s:ByteArray) (st:Int) (w:World) (z2:Nat):Out.prune [1,4,5,6,9] (opStep Try.prog 11 (opsOf (getCode (bodyOf Try.f78) [1,0])) ⟨[(1,i6 st),(4,(pt (w.heap.size + 1) 0)),(5,(pt (w.heap.size + 2) 0)),(6,.agg (List.toArray (say_v2 u f de ds b o ie is m s))),(8,(pt w.heap.size 1))],(say_b3 u f de ds b o ie is m s w),[],z2⟩ 3 (oA 0 1 1)) = some ⟨[],dupR [(w.heap.size,1,1)],⟨[(1,i6 st),(4,(pt (w.heap.size + 1) 0)),(5,(pt (w.heap.size + 2) 0)),(6,.agg (List.toArray (say_v2 u f de ds b o ie is m s))),(9,i6 f)],(say_b3 u f de ds b o ie is m s w),[],z2⟩⟩:=by kernel_rfl
theorem say_e24 (u:Bool) (f:Int) (de:Int) (ds:Int) (b:ByteArray) (o:Bool) (ie:Int) (is:Int) (m:Int) (s:ByteArray) (st:Int) (w:World) (z2:Nat):Out.prune [1,4,5,8] (opStep Try.prog 11 (opsOf (getCode (bodyOf Try.f78) [1,0])) ⟨[(1,i6 st),(4,(pt (w.heap.size + 1) 0)),(5,(pt (w.heap.size + 2) 0)),(6,.agg (List.toArray (say_v2 u f de ds b o ie is m s))),(8,(pt w.heap.size 1))],(say_b3 u f de ds b o ie is m s w),[],z2⟩ 5 (oA 1 0 10)) = some ⟨[],dupR [(w.heap.size + 1,0,10)],⟨[(1,i6 st),(4,(pt (w.heap.size + 1) 0)),(5,(pt (w.heap.size + 2) 0)),(8,(pt w.heap.size 1))],(say_b1 u f de ds b o ie is m s w),[],z2⟩⟩:=by kernel_rfl
theorem say_e25 (u:Bool) (f:Int) (de:Int) (ds:Int) (b:ByteArray) (o:Bool) (ie:Int) (is:Int) (m:Int) (s:ByteArray) (st:Int) (w:World) (z2:Nat):Out.prune [2,4,5,7] (opStep Try.prog 11 (opsOf (getCode (bodyOf Try.f78) [1,0])) ⟨[(1,i6 st),(2,(pt w.heap.size 0)),(4,(pt (w.heap.size + 1) 0)),(5,(pt (w.heap.size + 2) 0))],(say_b1 u f de ds b o ie is m s w),[],z2⟩ 1 oh0) = some ⟨[],dupR [],⟨[(2,(pt w.heap.size 0)),(4,(pt (w.heap.size + 1) 0)),(5,(pt (w.heap.size + 2) 0)),(7,i6 st)],(say_b1 u f de ds b o ie is m s w),[],z2⟩⟩:=by kernel_rfl
theorem say_e26 (u:Bool) (f:Int) (de:Int) (ds:Int) (b:ByteArray) (o:Bool) (ie:Int) (is:Int) (m:Int) (s:ByteArray) (st:Int) (w:World) (z2:Nat):Out.prune [1,4,5,8] (opStep Try.prog 11 (opsOf (getCode (bodyOf Try.f78) [1,0])) ⟨[(1,i6 st),(2,(pt w.heap.size 0)),(4,(pt (w.heap.size + 1) 0)),(5,(pt (w.heap.size + 2) 0))],(say_b1 u f de ds b o ie is m s w),[],z2⟩ 2 oh0) = some ⟨[],dupR [],⟨[(1,i6 st),(4,(pt (w.heap.size + 1) 0)),(5,(pt (w.heap.size + 2) 0)),(8,(pt w.heap.size 1))],(say_b1 u f de ds b o ie is m s w),[],z2⟩⟩:=by kernel_rfl
theorem say_e27 (u:Bool) (f:Int) (de:Int) (ds:Int) (b:ByteArray) (o:Bool) (ie:Int) (is:Int) (m:Int) (s:ByteArray) (st:Int) (w:World) (z2:Nat):Out.prune [4,5,6,7,8] (opStep Try.prog 11 (opsOf (getCode (bodyOf Try.f78) [1,0])) ⟨[(2,(pt w.heap.size 0)),(4,(pt (w.heap.size + 1) 0)),(5,(pt (w.heap.size + 2) 0)),(7,i6 st),(8,(pt w.heap.size 1))],(say_b3 u f de ds b o ie is m s w),[],z2⟩ 0 (oA 0 0 10)) = some ⟨[],dupR [(w.heap.size,0,10)],⟨[(4,(pt (w.heap.size + 1) 0)),(5,(pt (w.heap.size + 2) 0)),(6,.agg (List.toArray (say_v2 u f de ds b o ie is m s))),(7,i6 st),(8,(pt w.heap.size 1))],(say_b3 u f de ds b o ie is m s w),[],z2⟩⟩:=by kernel_rfl
theorem say_e28 (u:Bool) (f:Int) (de:Int) (ds:Int) (b:ByteArray) (o:Bool) (ie:Int) (is:Int) (m:Int) (s:ByteArray) (st:Int) (w:World) (z2:Nat):Out.prune [2,4,5,7,9] (opStep Try.prog 11 (opsOf (getCode (bodyOf Try.f78) [1,0])) ⟨[(2,(pt w.heap.size 0)),(4,(pt (w.heap.size + 1) 0)),(5,(pt (w.heap.size + 2) 0)),(7,i6 st),(8,(pt w.heap.size 1))],(say_b3 u f de ds b o ie is m s w),[],z2⟩ 3 (oA 0 1 1)) = some ⟨[],dupR [(w.heap.size,1,1)],⟨[(2,(pt w.heap.size 0)),(4,(pt (w.heap.size + 1) 0)),(5,(pt (w.heap.size + 2) 0)),(7,i6 st),(9,i6 f)],(say_b3 u f de ds b o ie is m s w),[],z2⟩⟩:=by kernel_rfl
theorem say_e29 (u:Bool) (f:Int) (de:Int) (ds:Int) (b:ByteArray) (o:Bool) (ie:Int) (is:Int) (m:Int) (s:ByteArray) (st:Int) (w:World) (z2:Nat):Out.prune [1,4,5,6,9] (opStep Try.prog 11 (opsOf (getCode (bodyOf Try.f78) [1,0])) ⟨[(1,i6 st),(2,(pt w.heap.size 0)),(4,(pt (w.heap.size + 1) 0)),(5,(pt (w.heap.size + 2) 0)),(9,i6 f)],(say_b3 u f de ds b o ie is m s w),[],z2⟩ 0 (oA 0 0 10)) = some ⟨[],dupR [(w.heap.size,0,10)],⟨[(1,i6 st),(4,(pt (w.heap.size + 1) 0)),(5,(pt (w.heap.size + 2) 0)),(6,.agg (List.toArray (say_v2 u f de ds b o ie is m s))),(9,i6 f)],(say_b3 u f de ds b o ie is m s w),[],z2⟩⟩:=by kernel_rfl
theorem say_e30 (u:Bool) (f:Int) (de:Int) (ds:Int) (b:ByteArray) (o:Bool) (ie:Int) (is:Int) (m:Int) (s:ByteArray) (st:Int) (w:World) (z2:Nat):Out.prune [2,4,5,7,9] (opStep Try.prog 11 (opsOf (getCode (bodyOf Try.f78) [1,0])) ⟨[(1,i6 st),(2,(pt w.heap.size 0)),(4,(pt (w.heap.size + 1) 0)),(5,(pt (w.heap.size + 2) 0)),(9,i6 f)],(say_b3 u f de ds b o ie is m s w),[],z2⟩ 1 oh0) = some ⟨[],dupR [],⟨[(2,(pt w.heap.size 0)),(4,(pt (w.heap.size + 1) 0)),(5,(pt (w.heap.size + 2) 0)),(7,i6 st),(9,i6 f)],(say_b3 u f de ds b o ie is m s w),[],z2⟩⟩:=by kernel_rfl
theorem say_e31 (u:Bool) (f:Int) (de:Int) (ds:Int) (b:ByteArray) (o:Bool) (ie:Int) (is:Int) (m:Int) (s:ByteArray) (st:Int) (w:World) (z2:Nat):Out.prune [2,4,5,6,7] (opStep Try.prog 11 (opsOf (getCode (bodyOf Try.f78) [1,0])) ⟨[(1,i6 st),(2,(pt w.heap.size 0)),(4,(pt (w.heap.size + 1) 0)),(5,(pt (w.heap.size + 2) 0)),(6,.agg (List.toArray (say_v2 u f de ds b o ie is m s)))],(say_b3 u f de ds b o ie is m s w),[],z2⟩ 1 oh0) = some ⟨[],dupR [],⟨[(2,(pt w.heap.size 0)),(4,(pt (w.heap.size + 1) 0)),(5,(pt (w.heap.size + 2) 0)),(6,.agg (List.toArray (say_v2 u f de ds b o ie is m s))),(7,i6 st)],(say_b3 u f de ds b o ie is m s w),[],z2⟩⟩:=by kernel_rfl
theorem say_e32 (u:Bool) (f:Int) (de:Int) (ds:Int) (b:ByteArray) (o:Bool) (ie:Int) (is:Int) (m:Int) (s:ByteArray) (st:Int) (w:World) (z2:Nat):Out.prune [1,4,5,6,8] (opStep Try.prog 11 (opsOf (getCode (bodyOf Try.f78) [1,0])) ⟨[(1,i6 st),(2,(pt w.heap.size 0)),(4,(pt (w.heap.size + 1) 0)),(5,(pt (w.heap.size + 2) 0)),(6,.agg (List.toArray (say_v2 u f de ds b o ie is m s)))],(say_b3 u f de ds b o ie is m s w),[],z2⟩ 2 oh0) = some ⟨[],dupR [],⟨[(1,i6 st),(4,(pt (w.heap.size + 1) 0)),(5,(pt (w.heap.size + 2) 0)),(6,.agg (List.toArray (say_v2 u f de ds b o ie is m s))),(8,(pt w.heap.size 1))],(say_b3 u f de ds b o ie is m s w),[],z2⟩⟩:=by kernel_rfl
theorem say_e33 (u:Bool) (f:Int) (de:Int) (ds:Int) (b:ByteArray) (o:Bool) (ie:Int) (is:Int) (m:Int) (s:ByteArray) (st:Int) (w:World) (z2:Nat):Out.prune [1,2,4,5] (opStep Try.prog 11 (opsOf (getCode (bodyOf Try.f78) [1,0])) ⟨[(1,i6 st),(2,(pt w.heap.size 0)),(4,(pt (w.heap.size + 1) 0)),(5,(pt (w.heap.size + 2) 0)),(6,.agg (List.toArray (say_v2 u f de ds b o ie is m s)))],(say_b3 u f de ds b o ie is m s w),[],z2⟩ 5 (oA 1 0 10)) = some ⟨[],dupR [(w.heap.size + 1,0,10)],⟨[(1,i6 st),(2,(pt w.heap.size 0)),(4,(pt (w.heap.size + 1) 0)),(5,(pt (w.heap.size + 2) 0))],(say_b1 u f de ds b o ie is m s w),[],z2⟩⟩:=by kernel_rfl
theorem say_e34 (u:Bool) (f:Int) (de:Int) (ds:Int) (b:ByteArray) (o:Bool) (ie:Int) (is:Int) (m:Int) (s:ByteArray) (st:Int) (w:World) (z2:Nat):Out.prune [2,4,5,6,7] (opStep Try.prog 11 (opsOf (getCode (bodyOf Try.f78) [1,0])) ⟨[(2,(pt w.heap.size 0)),(4,(pt (w.heap.size + 1) 0)),(5,(pt (w.heap.size + 2) 0)),(7,i6 st)],(say_b3 u f de ds b o ie is m s w),[],z2⟩ 0 (oA 0 0 10)) = some ⟨[],dupR [(w.heap.size,0,10)],⟨[(2,(pt w.heap.size 0)),(4,(pt (w.heap.size + 1) 0)),(5,(pt (w.heap.size + 2) 0)),(6,.agg (List.toArray (say_v2 u f de ds b o ie is m s))),(7,i6 st)],(say_b3 u f de ds b o ie is m s w),[],z2⟩⟩:=by kernel_rfl
theorem say_e35 (u:Bool) (f:Int) (de:Int) (ds:Int) (b:ByteArray) (o:Bool) (ie:Int) (is:Int) (m:Int) (s:ByteArray) (st:Int) (w:World) (z2:Nat):Out.prune [2,4,5,7,8] (opStep Try.prog 11 (opsOf (getCode (bodyOf Try.f78) [1,0])) ⟨[(2,(pt w.heap.size 0)),(4,(pt (w.heap.size + 1) 0)),(5,(pt (w.heap.size + 2) 0)),(7,i6 st)],(say_b3 u f de ds b o ie is m s w),[],z2⟩ 2 oh0) = some ⟨[],dupR [],⟨[(2,(pt w.heap.size 0)),(4,(pt (w.heap.size + 1) 0)),(5,(pt (w.heap.size + 2) 0)),(7,i6 st),(8,(pt w.heap.size 1))],(say_b3 u f de ds b o ie is m s w),[],z2⟩⟩:=by kernel_rfl
theorem say_e36 (u:Bool) (f:Int) (de:Int) (ds:Int) (b:ByteArray) (o:Bool) (ie:Int) (is:Int) (m:Int) (s:ByteArray) (st:Int) (w:World) (z2:Nat):Out.prune [1,4,5,6,8] (opStep Try.prog 11 (opsOf (getCode (bodyOf Try.f78) [1,0])) ⟨[(1,i6 st),(2,(pt w.heap.size 0)),(4,(pt (w.heap.size + 1) 0)),(5,(pt (w.heap.size + 2) 0)),(8,(pt w.heap.size 1))],(say_b3 u f de ds b o ie is m s w),[],z2⟩ 0 (oA 0 0 10)) = some ⟨[],dupR [(w.heap.size,0,10)],⟨[(1,i6 st),(4,(pt (w.heap.size + 1) 0)),(5,(pt (w.heap.size + 2) 0)),(6,.agg (List.toArray (say_v2 u f de ds b o ie is m s))),(8,(pt w.heap.size 1))],(say_b3 u f de ds b o ie is m s w),[],z2⟩⟩:=by kernel_rfl
theorem say_e37 (u:Bool) (f:Int) (de:Int) (ds:Int) (b:ByteArray) (o:Bool) (ie:Int) (is:Int) (m:Int) (s:ByteArray) (st:Int) (w:World) (z2:Nat):Out.prune [2,4,5,7,8] (opStep Try.prog 11 (opsOf (getCode (bodyOf Try.f78) [1,0])) ⟨[(1,i6 st),(2,(pt w.heap.size 0)),(4,(pt (w.heap.size + 1) 0)),(5,(pt (w.heap.size + 2) 0)),(8,(pt w.heap.size 1))],(say_b3 u f de ds b o ie is m s w),[],z2⟩ 1 oh0) = some ⟨[],dupR [],⟨[(2,(pt w.heap.size 0)),(4,(pt (w.heap.size + 1) 0)),(5,(pt (w.heap.size + 2) 0)),(7,i6 st),(8,(pt w.heap.size 1))],(say_b3 u f de ds b o ie is m s w),[],z2⟩⟩:=by kernel_rfl
theorem say_e38 (u:Bool) (f:Int) (de:Int) (ds:Int) (b:ByteArray) (o:Bool) (ie:Int) (is:Int) (m:Int) (s:ByteArray) (st:Int) (w:World) (z2:Nat):Out.prune [1,2,4,5,9] (opStep Try.prog 11 (opsOf (getCode (bodyOf Try.f78) [1,0])) ⟨[(1,i6 st),(2,(pt w.heap.size 0)),(4,(pt (w.heap.size + 1) 0)),(5,(pt (w.heap.size + 2) 0)),(8,(pt w.heap.size 1))],(say_b3 u f de ds b o ie is m s w),[],z2⟩ 3 (oA 0 1 1)) = some ⟨[],dupR [(w.heap.size,1,1)],⟨[(1,i6 st),(2,(pt w.heap.size 0)),(4,(pt (w.heap.size + 1) 0)),(5,(pt (w.heap.size + 2) 0)),(9,i6 f)],(say_b3 u f de ds b o ie is m s w),[],z2⟩⟩:=by kernel_rfl
theorem say_e39 (u:Bool) (f:Int) (de:Int) (ds:Int) (b:ByteArray) (o:Bool) (ie:Int) (is:Int) (m:Int) (s:ByteArray) (st:Int) (w:World) (z2:Nat):Out.prune [1,2,4,5,6] (opStep Try.prog 11 (opsOf (getCode (bodyOf Try.f78) [1,0])) ⟨[(1,i6 st),(2,(pt w.heap.size 0)),(4,(pt (w.heap.size + 1) 0)),(5,(pt (w.heap.size + 2) 0))],(say_b3 u f de ds b o ie is m s w),[],z2⟩ 0 (oA 0 0 10)) = some ⟨[],dupR [(w.heap.size,0,10)],⟨[(1,i6 st),(2,(pt w.heap.size 0)),(4,(pt (w.heap.size + 1) 0)),(5,(pt (w.heap.size + 2) 0)),(6,.agg (List.toArray (say_v2 u f de ds b o ie is m s)))],(say_b3 u f de ds b o ie is m s w),[],z2⟩⟩:=by kernel_rfl
theorem say_e40 (u:Bool) (f:Int) (de:Int) (ds:Int) (b:ByteArray) (o:Bool) (ie:Int) (is:Int) (m:Int) (s:ByteArray) (st:Int) (w:World) (z2:Nat):Out.prune [2,4,5,7] (opStep Try.prog 11 (opsOf (getCode (bodyOf Try.f78) [1,0])) ⟨[(1,i6 st),(2,(pt w.heap.size 0)),(4,(pt (w.heap.size + 1) 0)),(5,(pt (w.heap.size + 2) 0))],(say_b3 u f de ds b o ie is m s w),[],z2⟩ 1 oh0) = some ⟨[],dupR [],⟨[(2,(pt w.heap.size 0)),(4,(pt (w.heap.size + 1) 0)),(5,(pt (w.heap.size + 2) 0)),(7,i6 st)],(say_b3 u f de ds b o ie is m s w),[],z2⟩⟩:=by kernel_rfl
theorem say_e41 (u:Bool) (f:Int) (de:Int) (ds:Int) (b:ByteArray) (o:Bool) (ie:Int) (is:Int) (m:Int) (s:ByteArray) (st:Int) (w:World) (z2:Nat):Out.prune [1,2,4,5,8] (opStep Try.prog 11 (opsOf (getCode (bodyOf Try.f78) [1,0])) ⟨[(1,i6 st),(2,(pt w.heap.size 0)),(4,(pt (w.heap.size + 1) 0)),(5,(pt (w.heap.size + 2) 0))],(say_b3 u f de ds b o ie is m s w),[],z2⟩ 2 oh0) = some ⟨[],dupR [],⟨[(1,i6 st),(2,(pt w.heap.size 0)),(4,(pt (w.heap.size + 1) 0)),(5,(pt (w.heap.size + 2) 0)),(8,(pt w.heap.size 1))],(say_b3 u f de ds b o ie is m s w),[],z2⟩⟩:=by kernel_rfl
set_option maxRecDepth 100000 in
set_option maxHeartbeats 4000000 in
theorem say_any (u:Bool) (f de ds:Int) (b:ByteArray) (o:Bool) (ie is m:Int) (s:ByteArray) (st:Int) (w:World) :
  Calls Try.prog 78 #[.agg #[.bool u,.int .i64 f,.int .i64 de,.int .i64 ds,.string b,.bool o,.int .i64 ie,.int .i64 is,.int .i64 m,.string s],.int .i64 st] w (RetK (.tuple #[.agg #[.bool u,.int .i64 f,.int .i64 de,.int .i64 ds,.string b,.bool o,.int .i64 ie,.int .i64 is,.int .i64 m,.string s],.agg #[.int .i64 st,.int .i64 f,.int .i64 0,.bool false,.int .i64 0,.int .i64 0,.int .i64 0,.string ⟨#[]⟩,.bool false,.int .i64 0,.int .i64 0,.int .i64 0,.string ⟨#[]⟩]]) w):=by
 refine calls_of_holds (S:=(fun _=>False)) (l:=[.agg (List.toArray (say_v2 u f de ds b o ie is m s)),.int .i64 st]) (n:=11) Try.func78 (body_of (by kernel_rfl)) rfl (by simp) (MemOk.none w _) ?_
 refine hgE 10 [oh0,oh0,oh0] [1,2,4,5] [] [] [.code [1,0],.code [1,1]] ⟨[(1,i6 st),(2,(pt w.heap.size 0)),(4,(pt (w.heap.size + 1) 0)),(5,(pt (w.heap.size + 2) 0))],(say_b3 u f de ds b o ie is m s w),[],w.heap.size + 3⟩ ?_
 suffices HZ2:∀ z2:Nat,w.heap.size + 3 ≤ z2 → Holds [] Try.prog (bodyOf Try.f78) 11 w (fun _=>False) (say_Q u f de ds b o ie is m s st w) [.code [1,1]] ⟨[(4,(pt (w.heap.size + 1) 0)),(5,(pt (w.heap.size + 2) 0))],(say_b2 u f de ds b o ie is m s st w),[],z2⟩ by
  have A2_0:∀ z2:Nat,w.heap.size + 3 ≤ z2 → Holds [] Try.prog (bodyOf Try.f78) 11 w (fun _=>False) (say_Q u f de ds b o ie is m s st w) [.any [1,0] 0 #[true,true,true,true,true,true,true],.code [1,1]] ⟨[(4,(pt (w.heap.size + 1) 0)),(5,(pt (w.heap.size + 2) 0))],(say_b2 u f de ds b o ie is m s st w),[],z2⟩:=by
   intro z2 hz2
   exact holds_done (by kernel_rfl) (HZ2 z2 hz2)
  have A2_1:∀ z2:Nat,w.heap.size + 3 ≤ z2 → Holds [] Try.prog (bodyOf Try.f78) 11 w (fun _=>False) (say_Q u f de ds b o ie is m s st w) [.any [1,0] 1 say_n14,.code [1,1]] ⟨[(4,(pt (w.heap.size + 1) 0)),(5,(pt (w.heap.size + 2) 0)),(10,.agg (List.toArray (say_v1 f st)))],(say_b1 u f de ds b o ie is m s w),[],z2⟩:=by
   intro z2 hz2
   exact holds_anyAll (l:=[6]) (by kernel_rfl) (by simp) ⟨edge_op (ls':=#[true,true,true,true,true,true,true]) (by kernel_rfl) (say_e3 u f de ds b o ie is m s st w z2) tI (A2_0 z2 hz2),tI⟩
  have A2_2:∀ z2:Nat,w.heap.size + 3 ≤ z2 → Holds [] Try.prog (bodyOf Try.f78) 11 w (fun _=>False) (say_Q u f de ds b o ie is m s st w) [.any [1,0] 2 say_n13,.code [1,1]] ⟨[(4,(pt (w.heap.size + 1) 0)),(5,(pt (w.heap.size + 2) 0)),(6,.agg (List.toArray (say_v2 u f de ds b o ie is m s))),(10,.agg (List.toArray (say_v1 f st)))],(say_b3 u f de ds b o ie is m s w),[],z2⟩:=by
   intro z2 hz2
   exact holds_anyAll (l:=[5]) (by kernel_rfl) (by simp) ⟨edge_op (ls':=say_n14) (by kernel_rfl) (say_e4 u f de ds b o ie is m s st w z2) tI (A2_1 z2 hz2),tI⟩
  have A2_3:∀ z2:Nat,w.heap.size + 3 ≤ z2 → Holds [] Try.prog (bodyOf Try.f78) 11 w (fun _=>False) (say_Q u f de ds b o ie is m s st w) [.any [1,0] 2 say_n12,.code [1,1]] ⟨[(4,(pt (w.heap.size + 1) 0)),(5,(pt (w.heap.size + 2) 0)),(7,i6 st),(9,i6 f)],(say_b1 u f de ds b o ie is m s w),[],z2⟩:=by
   intro z2 hz2
   exact holds_anyAll (l:=[4]) (by kernel_rfl) (by simp) ⟨edge_op (ls':=say_n14) (by kernel_rfl) (say_e5 u f de ds b o ie is m s st w z2) tI (A2_1 z2 hz2),tI⟩
  have A2_4:∀ z2:Nat,w.heap.size + 3 ≤ z2 → Holds [] Try.prog (bodyOf Try.f78) 11 w (fun _=>False) (say_Q u f de ds b o ie is m s st w) [.any [1,0] 3 say_n11,.code [1,1]] ⟨[(4,(pt (w.heap.size + 1) 0)),(5,(pt (w.heap.size + 2) 0)),(6,.agg (List.toArray (say_v2 u f de ds b o ie is m s))),(7,i6 st),(9,i6 f)],(say_b3 u f de ds b o ie is m s w),[],z2⟩:=by
   intro z2 hz2
   exact holds_anyAll (l:=[4,5]) (by kernel_rfl) (by simp) ⟨edge_op (ls':=say_n13) (by kernel_rfl) (say_e6 u f de ds b o ie is m s st w z2) tI (A2_2 z2 hz2),edge_op (ls':=say_n12) (by kernel_rfl) (say_e7 u f de ds b o ie is m s st w z2) tI (A2_3 z2 hz2),tI⟩
  have A2_5:∀ z2:Nat,w.heap.size + 3 ≤ z2 → Holds [] Try.prog (bodyOf Try.f78) 11 w (fun _=>False) (say_Q u f de ds b o ie is m s st w) [.any [1,0] 3 say_n10,.code [1,1]] ⟨[(4,(pt (w.heap.size + 1) 0)),(5,(pt (w.heap.size + 2) 0)),(7,i6 st),(8,(pt w.heap.size 1))],(say_b1 u f de ds b o ie is m s w),[],z2⟩:=by
   intro z2 hz2
   exact holds_anyAll (l:=[3]) (by kernel_rfl) (by simp) ⟨edge_op (ls':=say_n12) (by kernel_rfl) (say_e8 u f de ds b o ie is m s st w z2) tI (A2_3 z2 hz2),tI⟩
  have A2_6:∀ z2:Nat,w.heap.size + 3 ≤ z2 → Holds [] Try.prog (bodyOf Try.f78) 11 w (fun _=>False) (say_Q u f de ds b o ie is m s st w) [.any [1,0] 3 say_n6,.code [1,1]] ⟨[(1,i6 st),(4,(pt (w.heap.size + 1) 0)),(5,(pt (w.heap.size + 2) 0)),(9,i6 f)],(say_b1 u f de ds b o ie is m s w),[],z2⟩:=by
   intro z2 hz2
   exact holds_anyAll (l:=[1]) (by kernel_rfl) (by simp) ⟨edge_op (ls':=say_n12) (by kernel_rfl) (say_e9 u f de ds b o ie is m s st w z2) tI (A2_3 z2 hz2),tI⟩
  have A2_7:∀ z2:Nat,w.heap.size + 3 ≤ z2 → Holds [] Try.prog (bodyOf Try.f78) 11 w (fun _=>False) (say_Q u f de ds b o ie is m s st w) [.any [1,0] 3 #[false,true,true,true,true,false,false],.code [1,1]] ⟨[(2,(pt w.heap.size 0)),(4,(pt (w.heap.size + 1) 0)),(5,(pt (w.heap.size + 2) 0)),(10,.agg (List.toArray (say_v1 f st)))],(say_b3 u f de ds b o ie is m s w),[],z2⟩:=by
   intro z2 hz2
   exact holds_anyAll (l:=[0]) (by kernel_rfl) (by simp) ⟨edge_op (ls':=say_n13) (by kernel_rfl) (say_e10 u f de ds b o ie is m s st w z2) tI (A2_2 z2 hz2),tI⟩
  have A2_8:∀ z2:Nat,w.heap.size + 3 ≤ z2 → Holds [] Try.prog (bodyOf Try.f78) 11 w (fun _=>False) (say_Q u f de ds b o ie is m s st w) [.any [1,0] 4 say_n9,.code [1,1]] ⟨[(4,(pt (w.heap.size + 1) 0)),(5,(pt (w.heap.size + 2) 0)),(6,.agg (List.toArray (say_v2 u f de ds b o ie is m s))),(7,i6 st),(8,(pt w.heap.size 1))],(say_b3 u f de ds b o ie is m s w),[],z2⟩:=by
   intro z2 hz2
   exact holds_anyAll (l:=[3,5]) (by kernel_rfl) (by simp) ⟨edge_op (ls':=say_n11) (by kernel_rfl) (say_e11 u f de ds b o ie is m s st w z2) tI (A2_4 z2 hz2),edge_op (ls':=say_n10) (by kernel_rfl) (say_e12 u f de ds b o ie is m s st w z2) tI (A2_5 z2 hz2),tI⟩
  have A2_9:∀ z2:Nat,w.heap.size + 3 ≤ z2 → Holds [] Try.prog (bodyOf Try.f78) 11 w (fun _=>False) (say_Q u f de ds b o ie is m s st w) [.any [1,0] 4 say_n8,.code [1,1]] ⟨[(2,(pt w.heap.size 0)),(4,(pt (w.heap.size + 1) 0)),(5,(pt (w.heap.size + 2) 0)),(7,i6 st)],(say_b1 u f de ds b o ie is m s w),[],z2⟩:=by
   intro z2 hz2
   exact holds_anyAll (l:=[2]) (by kernel_rfl) (by simp) ⟨edge_op (ls':=say_n10) (by kernel_rfl) (say_e13 u f de ds b o ie is m s st w z2) tI (A2_5 z2 hz2),tI⟩
  have A2_10:∀ z2:Nat,w.heap.size + 3 ≤ z2 → Holds [] Try.prog (bodyOf Try.f78) 11 w (fun _=>False) (say_Q u f de ds b o ie is m s st w) [.any [1,0] 4 say_n5,.code [1,1]] ⟨[(1,i6 st),(4,(pt (w.heap.size + 1) 0)),(5,(pt (w.heap.size + 2) 0)),(6,.agg (List.toArray (say_v2 u f de ds b o ie is m s))),(9,i6 f)],(say_b3 u f de ds b o ie is m s w),[],z2⟩:=by
   intro z2 hz2
   exact holds_anyAll (l:=[1,5]) (by kernel_rfl) (by simp) ⟨edge_op (ls':=say_n11) (by kernel_rfl) (say_e14 u f de ds b o ie is m s st w z2) tI (A2_4 z2 hz2),edge_op (ls':=say_n6) (by kernel_rfl) (say_e15 u f de ds b o ie is m s st w z2) tI (A2_6 z2 hz2),tI⟩
  have A2_11:∀ z2:Nat,w.heap.size + 3 ≤ z2 → Holds [] Try.prog (bodyOf Try.f78) 11 w (fun _=>False) (say_Q u f de ds b o ie is m s st w) [.any [1,0] 4 say_n4,.code [1,1]] ⟨[(1,i6 st),(4,(pt (w.heap.size + 1) 0)),(5,(pt (w.heap.size + 2) 0)),(8,(pt w.heap.size 1))],(say_b1 u f de ds b o ie is m s w),[],z2⟩:=by
   intro z2 hz2
   exact holds_anyAll (l:=[1,3]) (by kernel_rfl) (by simp) ⟨edge_op (ls':=say_n10) (by kernel_rfl) (say_e16 u f de ds b o ie is m s st w z2) tI (A2_5 z2 hz2),edge_op (ls':=say_n6) (by kernel_rfl) (say_e17 u f de ds b o ie is m s st w z2) tI (A2_6 z2 hz2),tI⟩
  have A2_12:∀ z2:Nat,w.heap.size + 3 ≤ z2 → Holds [] Try.prog (bodyOf Try.f78) 11 w (fun _=>False) (say_Q u f de ds b o ie is m s st w) [.any [1,0] 4 say_n2,.code [1,1]] ⟨[(2,(pt w.heap.size 0)),(4,(pt (w.heap.size + 1) 0)),(5,(pt (w.heap.size + 2) 0)),(7,i6 st),(9,i6 f)],(say_b3 u f de ds b o ie is m s w),[],z2⟩:=by
   intro z2 hz2
   exact holds_anyAll (l:=[0,4]) (by kernel_rfl) (by simp) ⟨edge_op (ls':=say_n11) (by kernel_rfl) (say_e18 u f de ds b o ie is m s st w z2) tI (A2_4 z2 hz2),edge_op (ls':=#[false,true,true,true,true,false,false]) (by kernel_rfl) (say_e19 u f de ds b o ie is m s st w z2) tI (A2_7 z2 hz2),tI⟩
  have A2_13:∀ z2:Nat,w.heap.size + 3 ≤ z2 → Holds [] Try.prog (bodyOf Try.f78) 11 w (fun _=>False) (say_Q u f de ds b o ie is m s st w) [.any [1,0] 5 say_n7,.code [1,1]] ⟨[(2,(pt w.heap.size 0)),(4,(pt (w.heap.size + 1) 0)),(5,(pt (w.heap.size + 2) 0)),(6,.agg (List.toArray (say_v2 u f de ds b o ie is m s))),(7,i6 st)],(say_b3 u f de ds b o ie is m s w),[],z2⟩:=by
   intro z2 hz2
   exact holds_anyAll (l:=[2,5]) (by kernel_rfl) (by simp) ⟨edge_op (ls':=say_n9) (by kernel_rfl) (say_e20 u f de ds b o ie is m s st w z2) tI (A2_8 z2 hz2),edge_op (ls':=say_n8) (by kernel_rfl) (say_e21 u f de ds b o ie is m s st w z2) tI (A2_9 z2 hz2),tI⟩
  have A2_14:∀ z2:Nat,w.heap.size + 3 ≤ z2 → Holds [] Try.prog (bodyOf Try.f78) 11 w (fun _=>False) (say_Q u f de ds b o ie is m s st w) [.any [1,0] 5 say_n3,.code [1,1]] ⟨[(1,i6 st),(4,(pt (w.heap.size + 1) 0)),(5,(pt (w.heap.size + 2) 0)),(6,.agg (List.toArray (say_v2 u f de ds b o ie is m s))),(8,(pt w.heap.size 1))],(say_b3 u f de ds b o ie is m s w),[],z2⟩:=by
   intro z2 hz2
   exact holds_anyAll (l:=[1,3,5]) (by kernel_rfl) (by simp) ⟨edge_op (ls':=say_n9) (by kernel_rfl) (say_e22 u f de ds b o ie is m s st w z2) tI (A2_8 z2 hz2),edge_op (ls':=say_n5) (by kernel_rfl) (say_e23 u f de ds b o ie is m s st w z2) tI (A2_10 z2 hz2),edge_op (ls':=say_n4) (by kernel_rfl) (say_e24 u f de ds b o ie is m s st w z2) tI (A2_11 z2 hz2),tI⟩
  have A2_15:∀ z2:Nat,w.heap.size + 3 ≤ z2 → Holds [] Try.prog (bodyOf Try.f78) 11 w (fun _=>False) (say_Q u f de ds b o ie is m s st w) [.any [1,0] 5 #[true,false,false,false,false,true,false],.code [1,1]] ⟨[(1,i6 st),(2,(pt w.heap.size 0)),(4,(pt (w.heap.size + 1) 0)),(5,(pt (w.heap.size + 2) 0))],(say_b1 u f de ds b o ie is m s w),[],z2⟩:=by
   intro z2 hz2
   exact holds_anyAll (l:=[1,2]) (by kernel_rfl) (by simp) ⟨edge_op (ls':=say_n8) (by kernel_rfl) (say_e25 u f de ds b o ie is m s st w z2) tI (A2_9 z2 hz2),edge_op (ls':=say_n4) (by kernel_rfl) (say_e26 u f de ds b o ie is m s st w z2) tI (A2_11 z2 hz2),tI⟩
  have A2_16:∀ z2:Nat,w.heap.size + 3 ≤ z2 → Holds [] Try.prog (bodyOf Try.f78) 11 w (fun _=>False) (say_Q u f de ds b o ie is m s st w) [.any [1,0] 5 say_n1,.code [1,1]] ⟨[(2,(pt w.heap.size 0)),(4,(pt (w.heap.size + 1) 0)),(5,(pt (w.heap.size + 2) 0)),(7,i6 st),(8,(pt w.heap.size 1))],(say_b3 u f de ds b o ie is m s w),[],z2⟩:=by
   intro z2 hz2
   exact holds_anyAll (l:=[0,3]) (by kernel_rfl) (by simp) ⟨edge_op (ls':=say_n9) (by kernel_rfl) (say_e27 u f de ds b o ie is m s st w z2) tI (A2_8 z2 hz2),edge_op (ls':=say_n2) (by kernel_rfl) (say_e28 u f de ds b o ie is m s st w z2) tI (A2_12 z2 hz2),tI⟩
  have A2_17:∀ z2:Nat,w.heap.size + 3 ≤ z2 → Holds [] Try.prog (bodyOf Try.f78) 11 w (fun _=>False) (say_Q u f de ds b o ie is m s st w) [.any [1,0] 5 #[false,false,true,true,false,false,false],.code [1,1]] ⟨[(1,i6 st),(2,(pt w.heap.size 0)),(4,(pt (w.heap.size + 1) 0)),(5,(pt (w.heap.size + 2) 0)),(9,i6 f)],(say_b3 u f de ds b o ie is m s w),[],z2⟩:=by
   intro z2 hz2
   exact holds_anyAll (l:=[0,1]) (by kernel_rfl) (by simp) ⟨edge_op (ls':=say_n5) (by kernel_rfl) (say_e29 u f de ds b o ie is m s st w z2) tI (A2_10 z2 hz2),edge_op (ls':=say_n2) (by kernel_rfl) (say_e30 u f de ds b o ie is m s st w z2) tI (A2_12 z2 hz2),tI⟩
  have A2_18:∀ z2:Nat,w.heap.size + 3 ≤ z2 → Holds [] Try.prog (bodyOf Try.f78) 11 w (fun _=>False) (say_Q u f de ds b o ie is m s st w) [.any [1,0] 6 #[true,false,false,false,false,false,false],.code [1,1]] ⟨[(1,i6 st),(2,(pt w.heap.size 0)),(4,(pt (w.heap.size + 1) 0)),(5,(pt (w.heap.size + 2) 0)),(6,.agg (List.toArray (say_v2 u f de ds b o ie is m s)))],(say_b3 u f de ds b o ie is m s w),[],z2⟩:=by
   intro z2 hz2
   exact holds_anyAll (l:=[1,2,5]) (by kernel_rfl) (by simp) ⟨edge_op (ls':=say_n7) (by kernel_rfl) (say_e31 u f de ds b o ie is m s st w z2) tI (A2_13 z2 hz2),edge_op (ls':=say_n3) (by kernel_rfl) (say_e32 u f de ds b o ie is m s st w z2) tI (A2_14 z2 hz2),edge_op (ls':=#[true,false,false,false,false,true,false]) (by kernel_rfl) (say_e33 u f de ds b o ie is m s st w z2) tI (A2_15 z2 hz2),tI⟩
  have A2_19:∀ z2:Nat,w.heap.size + 3 ≤ z2 → Holds [] Try.prog (bodyOf Try.f78) 11 w (fun _=>False) (say_Q u f de ds b o ie is m s st w) [.any [1,0] 6 #[false,true,false,false,false,false,false],.code [1,1]] ⟨[(2,(pt w.heap.size 0)),(4,(pt (w.heap.size + 1) 0)),(5,(pt (w.heap.size + 2) 0)),(7,i6 st)],(say_b3 u f de ds b o ie is m s w),[],z2⟩:=by
   intro z2 hz2
   exact holds_anyAll (l:=[0,2]) (by kernel_rfl) (by simp) ⟨edge_op (ls':=say_n7) (by kernel_rfl) (say_e34 u f de ds b o ie is m s st w z2) tI (A2_13 z2 hz2),edge_op (ls':=say_n1) (by kernel_rfl) (say_e35 u f de ds b o ie is m s st w z2) tI (A2_16 z2 hz2),tI⟩
  have A2_20:∀ z2:Nat,w.heap.size + 3 ≤ z2 → Holds [] Try.prog (bodyOf Try.f78) 11 w (fun _=>False) (say_Q u f de ds b o ie is m s st w) [.any [1,0] 6 #[false,false,true,false,false,false,false],.code [1,1]] ⟨[(1,i6 st),(2,(pt w.heap.size 0)),(4,(pt (w.heap.size + 1) 0)),(5,(pt (w.heap.size + 2) 0)),(8,(pt w.heap.size 1))],(say_b3 u f de ds b o ie is m s w),[],z2⟩:=by
   intro z2 hz2
   exact holds_anyAll (l:=[0,1,3]) (by kernel_rfl) (by simp) ⟨edge_op (ls':=say_n3) (by kernel_rfl) (say_e36 u f de ds b o ie is m s st w z2) tI (A2_14 z2 hz2),edge_op (ls':=say_n1) (by kernel_rfl) (say_e37 u f de ds b o ie is m s st w z2) tI (A2_16 z2 hz2),edge_op (ls':=#[false,false,true,true,false,false,false]) (by kernel_rfl) (say_e38 u f de ds b o ie is m s st w z2) tI (A2_17 z2 hz2),tI⟩
  have A2_21:∀ z2:Nat,w.heap.size + 3 ≤ z2 → Holds [] Try.prog (bodyOf Try.f78) 11 w (fun _=>False) (say_Q u f de ds b o ie is m s st w) [.any [1,0] 7 #[false,false,false,false,false,false,false],.code [1,1]] ⟨[(1,i6 st),(2,(pt w.heap.size 0)),(4,(pt (w.heap.size + 1) 0)),(5,(pt (w.heap.size + 2) 0))],(say_b3 u f de ds b o ie is m s w),[],z2⟩:=by
   intro z2 hz2
   exact holds_anyAll (l:=[0,1,2]) (by kernel_rfl) (by simp) ⟨edge_op (ls':=#[true,false,false,false,false,false,false]) (by kernel_rfl) (say_e39 u f de ds b o ie is m s st w z2) tI (A2_18 z2 hz2),edge_op (ls':=#[false,true,false,false,false,false,false]) (by kernel_rfl) (say_e40 u f de ds b o ie is m s st w z2) tI (A2_19 z2 hz2),edge_op (ls':=#[false,false,true,false,false,false,false]) (by kernel_rfl) (say_e41 u f de ds b o ie is m s st w z2) tI (A2_20 z2 hz2),tI⟩
  exact holds_anyStart (by kernel_rfl) (by kernel_rfl) (by kernel_rfl) (by kernel_rfl) (A2_21 _ (Nat.le_refl _))
 intro z2 hz2
 refine hgE 3 [] [4,5] [] [] [.code [1,1]] ⟨[(4,(pt (w.heap.size + 1) 0)),(5,(pt (w.heap.size + 2) 0))],(say_b2 u f de ds b o ie is m s st w),[],z2⟩ ?_
 refine hrt [[⟨false,1,0,10⟩],[⟨false,2,0,13⟩]] [.agg (List.toArray (say_v2 u f de ds b o ie is m s)),.agg (List.toArray (say_v1 f st))] [(w.heap.size + 1,0,10),(w.heap.size + 2,0,13)] ?_
 intro wx hm
 exact ⟨rfl,hm.kept⟩
def closed_v1 (u:Bool) (f:Int) (de:Int) (ds:Int) (b:ByteArray):List Value:=[.bool u,i6 f,i6 de,i6 ds,sT b,.bool false,i6 0,i6 0,i6 0,sT ⟨#[]⟩]
set_option maxRecDepth 100000 in
set_option maxHeartbeats 4000000 in
theorem closed_any (u:Bool) (f de ds:Int) (b:ByteArray) (o:Bool) (ie is m:Int) (s:ByteArray) (w:World) :
  Calls Try.prog 81 #[.agg #[.bool u,.int .i64 f,.int .i64 de,.int .i64 ds,.string b,.bool o,.int .i64 ie,.int .i64 is,.int .i64 m,.string s]] w (RetK (.agg #[.bool u,.int .i64 f,.int .i64 de,.int .i64 ds,.string b,.bool false,.int .i64 0,.int .i64 0,.int .i64 0,.string ⟨#[]⟩]) w):=by
 refine calls_of_holds (S:=(fun _=>False)) (l:=[.agg #[.bool u,.int .i64 f,.int .i64 de,.int .i64 ds,.string b,.bool o,.int .i64 ie,.int .i64 is,.int .i64 m,.string s]]) (n:=9) Try.func81 (body_of (by kernel_rfl)) rfl (by simp) (MemOk.none w _) ?_
 refine hgE 25 [oh0,oh0,oh0,oh0,(oA 0 5 1),oh0,(oA 0 6 2),oh0,(oA 0 8 1),oh0,(oA 0 9 1),(oA 0 0 10),(oA 1 0 10)] [2] [] [(w.heap.size,5,1),(w.heap.size,6,2),(w.heap.size,8,1),(w.heap.size,9,1),(w.heap.size,0,10),(w.heap.size + 1,0,10)] [.code [1,1,1]] ⟨[(2,(pt (w.heap.size + 1) 0))],[⟨w.heap.size,43,true,(closed_v1 u f de ds b)⟩,⟨w.heap.size + 1,43,true,(closed_v1 u f de ds b)⟩],[],w.heap.size + 2⟩ ?_
 refine hrt [[⟨false,1,0,10⟩]] [.agg (List.toArray (closed_v1 u f de ds b))] [(w.heap.size + 1,0,10)] ?_
 intro wx hm
 exact ⟨rfl,hm.kept⟩
def done_v1 (u:Bool) (f:Int) (o:Bool) (ie:Int) (is:Int) (m:Int) (s:ByteArray):List Value:=[.bool u,i6 f,i6 ie,i6 is,sT s,.bool o,i6 ie,i6 is,i6 m,sT s]
def done_v2 (u:Bool) (f:Int) (ie:Int) (is:Int) (s:ByteArray):List Value:=[.bool u,i6 f,i6 ie,i6 is,sT s,.bool false,i6 0,i6 0,i6 0,sT ⟨#[]⟩]
set_option maxRecDepth 100000 in
set_option maxHeartbeats 4000000 in
theorem done_any (u:Bool) (f de ds:Int) (b:ByteArray) (o:Bool) (ie is m:Int) (s:ByteArray) (w:World) :
  Calls Try.prog 80 #[.agg #[.bool u,.int .i64 f,.int .i64 de,.int .i64 ds,.string b,.bool o,.int .i64 ie,.int .i64 is,.int .i64 m,.string s]] w (RetK (.agg #[.bool u,.int .i64 f,.int .i64 ie,.int .i64 is,.string s,.bool false,.int .i64 0,.int .i64 0,.int .i64 0,.string ⟨#[]⟩]) w):=by
 refine calls_of_holds (S:=(fun _=>False)) (l:=[.agg #[.bool u,.int .i64 f,.int .i64 de,.int .i64 ds,.string b,.bool o,.int .i64 ie,.int .i64 is,.int .i64 m,.string s]]) (n:=11) Try.func80 (body_of (by kernel_rfl)) rfl (by simp) (MemOk.none w _) ?_
 refine hgE 22 [oh0,oh0,oh0,(oA 0 6 2),oh0,(oA 0 9 1),oh0,(oA 0 2 2),oh0,(oA 0 4 1),(oA 0 0 10)] [2,9] [] [(w.heap.size,6,2),(w.heap.size,9,1),(w.heap.size,2,2),(w.heap.size,4,1),(w.heap.size,0,10)] [.ops [1,1,0] [1,2],.code [1,1,1]] ⟨[(2,(pt (w.heap.size + 1) 0)),(9,.agg (List.toArray (done_v1 u f o ie is m s)))],[⟨w.heap.size,43,true,(done_v1 u f o ie is m s)⟩,⟨w.heap.size + 1,43,true,[.bool false,i6 0,i6 0,i6 0,sT ⟨#[]⟩,.bool false,i6 0,i6 0,i6 0,sT ⟨#[]⟩]⟩],[],w.heap.size + 2⟩ ?_
 refine hcp (.agg (List.toArray (done_v2 u f ie is s))) 81 [.agg (List.toArray (done_v1 u f o ie is m s))] (some 10) [] tI rfl (fun wx hm=>closed_any u f ie is s o ie is m s wx) fun z2 hz2=>?_
 replace hz2:w.heap.size + 2 ≤ z2:=hz2
 refine hgE 5 [(oA 1 0 10)] [2] [] [(w.heap.size + 1,0,10)] [.code [1,1,1]] ⟨[(2,(pt (w.heap.size + 1) 0))],[⟨w.heap.size,43,true,(done_v1 u f o ie is m s)⟩,⟨w.heap.size + 1,43,true,(done_v2 u f ie is s)⟩],[],z2⟩ ?_
 refine hrt [[⟨false,1,0,10⟩]] [.agg (List.toArray (done_v2 u f ie is s))] [(w.heap.size + 1,0,10)] ?_
 intro wx hm
 exact ⟨rfl,hm.kept⟩
def stale_v1 (r:RecM) (q:AskM):List Value:=[.bool r.used,i6 r.fence,i6 r.de,i6 r.ds,sT r.block,.bool r.op,i6 r.ie,i6 r.is,i6 r.mask,sT r.staged,i6 q.kind,i6 q.stripe,i6 q.epoch,i6 q.seq,i6 q.mask,i6 q.node,i6 q.oe,i6 q.os,sT q.block,i6 q.epoch,i6 q.seq]
def stale_v2 (r:RecM):List Value:=[.bool r.used,i6 r.fence,i6 r.de,i6 r.ds,sT r.block,.bool r.op,i6 r.ie,i6 r.is,i6 r.mask,sT r.staged]
def stale_v3 (r:RecM):List Value:=[i6 2,i6 r.fence,i6 0,.bool false,i6 0,i6 0,i6 0,sT ⟨#[]⟩,.bool false,i6 0,i6 0,i6 0,sT ⟨#[]⟩]
set_option maxRecDepth 100000 in
set_option maxHeartbeats 4000000 in
theorem stale_any (r:RecM) (q:AskM) (w:World) :
  Calls Try.prog 60 #[.agg #[.bool r.used,.int .i64 r.fence,.int .i64 r.de,.int .i64 r.ds,.string r.block,.bool r.op,.int .i64 r.ie,.int .i64 r.is,.int .i64 r.mask,.string r.staged,.int .i64 q.kind,.int .i64 q.stripe,.int .i64 q.epoch,.int .i64 q.seq,.int .i64 q.mask,.int .i64 q.node,.int .i64 q.oe,.int .i64 q.os,.string q.block,.int .i64 q.epoch,.int .i64 q.seq]] w (RetK (outV (sayM r 2)) w):=by
 refine calls_of_holds (S:=(fun _=>False)) (l:=[.agg (List.toArray (stale_v1 r q))]) (n:=9) Try.func60 (body_of (by kernel_rfl)) rfl (by simp) (MemOk.none w _) ?_
 refine hgE 13 [oh0,oh0,oh0,oh0,(oA 0 0 10)] [2,3,5] [] [(w.heap.size,0,10)] [.ops [1,0] [2,3,4,5,6],.code [1,1]] ⟨[(2,(pt (w.heap.size + 1) 0)),(3,(pt (w.heap.size + 2) 0)),(5,.agg (List.toArray (stale_v2 r)))],[⟨w.heap.size,90,true,(stale_v1 r q)⟩,⟨w.heap.size + 1,43,true,[.bool false,i6 0,i6 0,i6 0,sT ⟨#[]⟩,.bool false,i6 0,i6 0,i6 0,sT ⟨#[]⟩]⟩,⟨w.heap.size + 2,45,true,[i6 0,i6 0,i6 0,.bool false,i6 0,i6 0,i6 0,sT ⟨#[]⟩,.bool false,i6 0,i6 0,i6 0,sT ⟨#[]⟩]⟩],[],w.heap.size + 3⟩ ?_
 refine hcp (.tuple #[.agg (List.toArray (stale_v2 r)),.agg (List.toArray (stale_v3 r))]) 78 [.agg (List.toArray (stale_v2 r)),i6 2] (some 6) [] tI rfl (fun wx hm=>say_any r.used r.fence r.de r.ds r.block r.op r.ie r.is r.mask r.staged 2 wx) fun z2 hz2=>?_
 replace hz2:w.heap.size + 3 ≤ z2:=hz2
 refine hgE 8 [oh0,oh0,(oA 1 0 10),(oA 2 0 13)] [2,3] [] [(w.heap.size + 1,0,10),(w.heap.size + 2,0,13)] [.code [1,1]] ⟨[(2,(pt (w.heap.size + 1) 0)),(3,(pt (w.heap.size + 2) 0))],[⟨w.heap.size,90,true,(stale_v1 r q)⟩,⟨w.heap.size + 1,43,true,(stale_v2 r)⟩,⟨w.heap.size + 2,45,true,(stale_v3 r)⟩],[],z2⟩ ?_
 refine hrt [[⟨false,1,0,10⟩],[⟨false,2,0,13⟩]] [.agg (List.toArray (stale_v2 r)),.agg (List.toArray (stale_v3 r))] [(w.heap.size + 1,0,10),(w.heap.size + 2,0,13)] ?_
 intro wx hm
 exact ⟨rfl,hm.kept⟩
def blank_v1 (r:RecM) (q:AskM):List Value:=(stale_v1 r q)
def blank_v2 (r:RecM):List Value:=(stale_v2 r)
def blank_v3 (r:RecM):List Value:=((stale_v3 r).set 0 (i6 5))
set_option maxRecDepth 100000 in
set_option maxHeartbeats 4000000 in
theorem blank_any (r:RecM) (q:AskM) (w:World) :
  Calls Try.prog 62 #[.agg #[.bool r.used,.int .i64 r.fence,.int .i64 r.de,.int .i64 r.ds,.string r.block,.bool r.op,.int .i64 r.ie,.int .i64 r.is,.int .i64 r.mask,.string r.staged,.int .i64 q.kind,.int .i64 q.stripe,.int .i64 q.epoch,.int .i64 q.seq,.int .i64 q.mask,.int .i64 q.node,.int .i64 q.oe,.int .i64 q.os,.string q.block,.int .i64 q.epoch,.int .i64 q.seq]] w (RetK (outV (sayM r 5)) w):=by
 refine calls_of_holds (S:=(fun _=>False)) (l:=[.agg (List.toArray (blank_v1 r q))]) (n:=9) Try.func62 (body_of (by kernel_rfl)) rfl (by simp) (MemOk.none w _) ?_
 refine hgE 13 [oh0,oh0,oh0,oh0,(oA 0 0 10)] [2,3,5] [] [(w.heap.size,0,10)] [.ops [1,0] [2,3,4,5,6],.code [1,1]] ⟨[(2,(pt (w.heap.size + 1) 0)),(3,(pt (w.heap.size + 2) 0)),(5,.agg (List.toArray (blank_v2 r)))],[⟨w.heap.size,90,true,(blank_v1 r q)⟩,⟨w.heap.size + 1,43,true,[.bool false,i6 0,i6 0,i6 0,sT ⟨#[]⟩,.bool false,i6 0,i6 0,i6 0,sT ⟨#[]⟩]⟩,⟨w.heap.size + 2,45,true,[i6 0,i6 0,i6 0,.bool false,i6 0,i6 0,i6 0,sT ⟨#[]⟩,.bool false,i6 0,i6 0,i6 0,sT ⟨#[]⟩]⟩],[],w.heap.size + 3⟩ ?_
 refine hcp (.tuple #[.agg (List.toArray (blank_v2 r)),.agg (List.toArray (blank_v3 r))]) 78 [.agg (List.toArray (blank_v2 r)),i6 5] (some 6) [] tI rfl (fun wx hm=>say_any r.used r.fence r.de r.ds r.block r.op r.ie r.is r.mask r.staged 5 wx) fun z2 hz2=>?_
 replace hz2:w.heap.size + 3 ≤ z2:=hz2
 refine hgE 8 [oh0,oh0,(oA 1 0 10),(oA 2 0 13)] [2,3] [] [(w.heap.size + 1,0,10),(w.heap.size + 2,0,13)] [.code [1,1]] ⟨[(2,(pt (w.heap.size + 1) 0)),(3,(pt (w.heap.size + 2) 0))],[⟨w.heap.size,90,true,(blank_v1 r q)⟩,⟨w.heap.size + 1,43,true,(blank_v2 r)⟩,⟨w.heap.size + 2,45,true,(blank_v3 r)⟩],[],z2⟩ ?_
 refine hrt [[⟨false,1,0,10⟩],[⟨false,2,0,13⟩]] [.agg (List.toArray (blank_v2 r)),.agg (List.toArray (blank_v3 r))] [(w.heap.size + 1,0,10),(w.heap.size + 2,0,13)] ?_
 intro wx hm
 exact ⟨rfl,hm.kept⟩
def check_v1 (r:RecM) (q:AskM):List Value:=(stale_v1 r q)
def check_v2 (r:RecM):List Value:=(stale_v2 r)
def check_v3 (r:RecM):List Value:=((stale_v3 r).set 0 (i6 1))
set_option maxRecDepth 100000 in
set_option maxHeartbeats 4000000 in
theorem check_any (r:RecM) (q:AskM) (w:World) :
  Calls Try.prog 67 #[.agg #[.bool r.used,.int .i64 r.fence,.int .i64 r.de,.int .i64 r.ds,.string r.block,.bool r.op,.int .i64 r.ie,.int .i64 r.is,.int .i64 r.mask,.string r.staged,.int .i64 q.kind,.int .i64 q.stripe,.int .i64 q.epoch,.int .i64 q.seq,.int .i64 q.mask,.int .i64 q.node,.int .i64 q.oe,.int .i64 q.os,.string q.block,.int .i64 q.epoch,.int .i64 q.seq]] w (RetK (outV (sayM r 1)) w):=by
 refine calls_of_holds (S:=(fun _=>False)) (l:=[.agg (List.toArray (check_v1 r q))]) (n:=9) Try.func67 (body_of (by kernel_rfl)) rfl (by simp) (MemOk.none w _) ?_
 refine hgE 13 [oh0,oh0,oh0,oh0,(oA 0 0 10)] [2,3,5] [] [(w.heap.size,0,10)] [.ops [1,0] [2,3,4,5,6],.code [1,1]] ⟨[(2,(pt (w.heap.size + 1) 0)),(3,(pt (w.heap.size + 2) 0)),(5,.agg (List.toArray (check_v2 r)))],[⟨w.heap.size,90,true,(check_v1 r q)⟩,⟨w.heap.size + 1,43,true,[.bool false,i6 0,i6 0,i6 0,sT ⟨#[]⟩,.bool false,i6 0,i6 0,i6 0,sT ⟨#[]⟩]⟩,⟨w.heap.size + 2,45,true,[i6 0,i6 0,i6 0,.bool false,i6 0,i6 0,i6 0,sT ⟨#[]⟩,.bool false,i6 0,i6 0,i6 0,sT ⟨#[]⟩]⟩],[],w.heap.size + 3⟩ ?_
 refine hcp (.tuple #[.agg (List.toArray (check_v2 r)),.agg (List.toArray (check_v3 r))]) 78 [.agg (List.toArray (check_v2 r)),i6 1] (some 6) [] tI rfl (fun wx hm=>say_any r.used r.fence r.de r.ds r.block r.op r.ie r.is r.mask r.staged 1 wx) fun z2 hz2=>?_
 replace hz2:w.heap.size + 3 ≤ z2:=hz2
 refine hgE 8 [oh0,oh0,(oA 1 0 10),(oA 2 0 13)] [2,3] [] [(w.heap.size + 1,0,10),(w.heap.size + 2,0,13)] [.code [1,1]] ⟨[(2,(pt (w.heap.size + 1) 0)),(3,(pt (w.heap.size + 2) 0))],[⟨w.heap.size,90,true,(check_v1 r q)⟩,⟨w.heap.size + 1,43,true,(check_v2 r)⟩,⟨w.heap.size + 2,45,true,(check_v3 r)⟩],[],z2⟩ ?_
 refine hrt [[⟨false,1,0,10⟩],[⟨false,2,0,13⟩]] [.agg (List.toArray (check_v2 r)),.agg (List.toArray (check_v3 r))] [(w.heap.size + 1,0,10),(w.heap.size + 2,0,13)] ?_
 intro wx hm
 exact ⟨rfl,hm.kept⟩
def fence_v1 (r:RecM) (q:AskM):List Value:=[i6 1,i6 q.epoch,i6 0,.bool r.used,i6 q.epoch,i6 r.de,i6 r.ds,sT r.block,.bool r.op,i6 r.ie,i6 r.is,i6 r.mask,sT r.staged]
def fence_v2 (r:RecM) (q:AskM):List Value:=((stale_v1 r q).set 1 (i6 q.epoch))
def fence_v3 (r:RecM) (q:AskM):List Value:=((stale_v2 r).set 1 (i6 q.epoch))
def fence_v4:List Value:=say_v3
def fence_v5:List Value:=say_v4
def fence_v6 (r:RecM) (q:AskM):List Value:=(stale_v1 r q)
def fence_v7 (r:RecM):List Value:=(stale_v2 r)
def fence_v8 (r:RecM):List Value:=(stale_v3 r)
def fence_Q (r:RecM) (q:AskM) (w:World):Exit → Act → World → Prop:=bodyPost Try.prog Try.f59 (RetK (outV (fenceM r q)) w)
@[simp] def fence_b1 (r:RecM) (q:AskM) (w:World) (z7:Nat):List Bk:=[⟨w.heap.size,90,true,(fence_v2 r q)⟩,⟨w.heap.size + 1,43,true,(fence_v3 r q)⟩,⟨w.heap.size + 2,45,true,(fence_v4)⟩,⟨z7,43,true,(fence_v3 r q)⟩,⟨z7 + 1,45,true,(fence_v1 r q)⟩]
@[simp] def fence_b2 (r:RecM) (q:AskM) (w:World) (z7:Nat):List Bk:=[⟨w.heap.size,90,true,(fence_v2 r q)⟩,⟨w.heap.size + 1,43,true,(fence_v3 r q)⟩,⟨w.heap.size + 2,45,true,(fence_v1 r q)⟩,⟨z7,43,true,(fence_v3 r q)⟩,⟨z7 + 1,45,true,(fence_v1 r q)⟩]
@[simp] def fence_b3 (r:RecM) (q:AskM) (w:World) (z7:Nat):List Bk:=[⟨w.heap.size,90,true,(fence_v2 r q)⟩,⟨w.heap.size + 1,43,true,(fence_v5)⟩,⟨w.heap.size + 2,45,true,(fence_v4)⟩,⟨z7,43,true,(fence_v3 r q)⟩,⟨z7 + 1,45,true,(fence_v1 r q)⟩]
@[simp] def fence_b4 (r:RecM) (q:AskM) (w:World):List Bk:=[⟨w.heap.size,90,true,(fence_v6 r q)⟩,⟨w.heap.size + 1,43,true,(fence_v5)⟩,⟨w.heap.size + 2,45,true,(fence_v4)⟩]
theorem fence_e10 (r:RecM) (q:AskM) (w:World) (z7:Nat) (z9:Nat):Out.prune [2,3] (opStep Try.prog 32 (opsOf (getCode (bodyOf Try.f59) [1,1,1,1,1,0])) ⟨[(2,(pt (w.heap.size + 1) 0)),(3,(pt (w.heap.size + 2) 0)),(31,.agg (List.toArray (fence_v1 r q)))],(fence_b1 r q w z7),[],z9⟩ 3 (oA 2 0 13)) = some ⟨[],dupR [(w.heap.size + 2,0,13)],⟨[(2,(pt (w.heap.size + 1) 0)),(3,(pt (w.heap.size + 2) 0))],(fence_b2 r q w z7),[],z9⟩⟩:=by kernel_rfl
theorem fence_e11 (r:RecM) (q:AskM) (w:World) (z7:Nat) (z9:Nat):Out.prune [2,3,31] (opStep Try.prog 32 (opsOf (getCode (bodyOf Try.f59) [1,1,1,1,1,0])) ⟨[(2,(pt (w.heap.size + 1) 0)),(3,(pt (w.heap.size + 2) 0)),(30,.agg (List.toArray (fence_v3 r q))),(31,.agg (List.toArray (fence_v1 r q)))],(fence_b3 r q w z7),[],z9⟩ 2 (oA 1 0 10)) = some ⟨[],dupR [(w.heap.size + 1,0,10)],⟨[(2,(pt (w.heap.size + 1) 0)),(3,(pt (w.heap.size + 2) 0)),(31,.agg (List.toArray (fence_v1 r q)))],(fence_b1 r q w z7),[],z9⟩⟩:=by kernel_rfl
theorem fence_e12 (r:RecM) (q:AskM) (w:World) (z7:Nat) (z9:Nat):Out.prune [2,3,31] (opStep Try.prog 32 (opsOf (getCode (bodyOf Try.f59) [1,1,1,1,1,0])) ⟨[(2,(pt (w.heap.size + 1) 0)),(3,(pt (w.heap.size + 2) 0)),(5,(pt (z7 + 1) 0))],(fence_b1 r q w z7),[],z9⟩ 1 (oA 4 0 13)) = some ⟨[],dupR [(z7 + 1,0,13)],⟨[(2,(pt (w.heap.size + 1) 0)),(3,(pt (w.heap.size + 2) 0)),(31,.agg (List.toArray (fence_v1 r q)))],(fence_b1 r q w z7),[],z9⟩⟩:=by kernel_rfl
theorem fence_e13 (r:RecM) (q:AskM) (w:World) (z7:Nat) (z9:Nat):Out.prune [2,3,30,31] (opStep Try.prog 32 (opsOf (getCode (bodyOf Try.f59) [1,1,1,1,1,0])) ⟨[(2,(pt (w.heap.size + 1) 0)),(3,(pt (w.heap.size + 2) 0)),(5,(pt (z7 + 1) 0)),(30,.agg (List.toArray (fence_v3 r q)))],(fence_b3 r q w z7),[],z9⟩ 1 (oA 4 0 13)) = some ⟨[],dupR [(z7 + 1,0,13)],⟨[(2,(pt (w.heap.size + 1) 0)),(3,(pt (w.heap.size + 2) 0)),(30,.agg (List.toArray (fence_v3 r q))),(31,.agg (List.toArray (fence_v1 r q)))],(fence_b3 r q w z7),[],z9⟩⟩:=by kernel_rfl
theorem fence_e14 (r:RecM) (q:AskM) (w:World) (z7:Nat) (z9:Nat):Out.prune [2,3,5] (opStep Try.prog 32 (opsOf (getCode (bodyOf Try.f59) [1,1,1,1,1,0])) ⟨[(2,(pt (w.heap.size + 1) 0)),(3,(pt (w.heap.size + 2) 0)),(5,(pt (z7 + 1) 0)),(30,.agg (List.toArray (fence_v3 r q)))],(fence_b3 r q w z7),[],z9⟩ 2 (oA 1 0 10)) = some ⟨[],dupR [(w.heap.size + 1,0,10)],⟨[(2,(pt (w.heap.size + 1) 0)),(3,(pt (w.heap.size + 2) 0)),(5,(pt (z7 + 1) 0))],(fence_b1 r q w z7),[],z9⟩⟩:=by kernel_rfl
theorem fence_e15 (r:RecM) (q:AskM) (w:World) (z7:Nat) (z9:Nat):Out.prune [2,3,30,31] (opStep Try.prog 32 (opsOf (getCode (bodyOf Try.f59) [1,1,1,1,1,0])) ⟨[(2,(pt (w.heap.size + 1) 0)),(3,(pt (w.heap.size + 2) 0)),(4,(pt z7 0)),(31,.agg (List.toArray (fence_v1 r q)))],(fence_b3 r q w z7),[],z9⟩ 0 (oA 3 0 10)) = some ⟨[],dupR [(z7,0,10)],⟨[(2,(pt (w.heap.size + 1) 0)),(3,(pt (w.heap.size + 2) 0)),(30,.agg (List.toArray (fence_v3 r q))),(31,.agg (List.toArray (fence_v1 r q)))],(fence_b3 r q w z7),[],z9⟩⟩:=by kernel_rfl
theorem fence_e16 (r:RecM) (q:AskM) (w:World) (z7:Nat) (z9:Nat):Out.prune [2,3,5,30] (opStep Try.prog 32 (opsOf (getCode (bodyOf Try.f59) [1,1,1,1,1,0])) ⟨[(2,(pt (w.heap.size + 1) 0)),(3,(pt (w.heap.size + 2) 0)),(4,(pt z7 0)),(5,(pt (z7 + 1) 0))],(fence_b3 r q w z7),[],z9⟩ 0 (oA 3 0 10)) = some ⟨[],dupR [(z7,0,10)],⟨[(2,(pt (w.heap.size + 1) 0)),(3,(pt (w.heap.size + 2) 0)),(5,(pt (z7 + 1) 0)),(30,.agg (List.toArray (fence_v3 r q)))],(fence_b3 r q w z7),[],z9⟩⟩:=by kernel_rfl
theorem fence_e17 (r:RecM) (q:AskM) (w:World) (z7:Nat) (z9:Nat):Out.prune [2,3,4,31] (opStep Try.prog 32 (opsOf (getCode (bodyOf Try.f59) [1,1,1,1,1,0])) ⟨[(2,(pt (w.heap.size + 1) 0)),(3,(pt (w.heap.size + 2) 0)),(4,(pt z7 0)),(5,(pt (z7 + 1) 0))],(fence_b3 r q w z7),[],z9⟩ 1 (oA 4 0 13)) = some ⟨[],dupR [(z7 + 1,0,13)],⟨[(2,(pt (w.heap.size + 1) 0)),(3,(pt (w.heap.size + 2) 0)),(4,(pt z7 0)),(31,.agg (List.toArray (fence_v1 r q)))],(fence_b3 r q w z7),[],z9⟩⟩:=by kernel_rfl
set_option maxRecDepth 100000 in
set_option maxHeartbeats 4000000 in
theorem fence_any (r:RecM) (q:AskM) (w:World) :
  Calls Try.prog 59 #[.agg #[.bool r.used,.int .i64 r.fence,.int .i64 r.de,.int .i64 r.ds,.string r.block,.bool r.op,.int .i64 r.ie,.int .i64 r.is,.int .i64 r.mask,.string r.staged,.int .i64 q.kind,.int .i64 q.stripe,.int .i64 q.epoch,.int .i64 q.seq,.int .i64 q.mask,.int .i64 q.node,.int .i64 q.oe,.int .i64 q.os,.string q.block,.int .i64 q.epoch,.int .i64 q.seq]] w (RetK (outV (fenceM r q)) w):=by
 refine calls_of_holds (S:=(fun _=>False)) (l:=[.agg (List.toArray (fence_v6 r q))]) (n:=32) Try.func59 (body_of (by kernel_rfl)) rfl (by simp) (MemOk.none w _) ?_
 refine hgE 20 [oh0,oh0,oh0,oh0,oh0,(oA 0 12 1),oh0,oh0,(oA 0 1 1),oh0] [1,2,3,12] [] [(w.heap.size,12,1),(w.heap.size,1,1)] [.code [1,0,1],.code [1,1]] ⟨[(1,(pt w.heap.size 0)),(2,(pt (w.heap.size + 1) 0)),(3,(pt (w.heap.size + 2) 0)),(12,.bool (decide ((q.epoch:Int) < r.fence)))],(fence_b4 r q w),[],w.heap.size + 3⟩ ?_
 rcases Bool.eq_false_or_eq_true (decide ((q.epoch:Int) < r.fence)) with d1 | d1
 ·skip
  refine hgE 7 [oh1,(oA 0 0 21)] [1,2,3,13] [eD d1] [(w.heap.size,0,21)] [.ops [1,0,1,0,0] [1,2,3,4,5],.code [1,0,1,0,1],.code [1,1]] ⟨[(1,(pt w.heap.size 0)),(2,(pt (w.heap.size + 1) 0)),(3,(pt (w.heap.size + 2) 0)),(13,.agg (List.toArray (fence_v6 r q)))],(fence_b4 r q w),[],w.heap.size + 3⟩ ?_
  refine hcp (.tuple #[.agg (List.toArray (fence_v7 r)),.agg (List.toArray (fence_v8 r))]) 60 [.agg (List.toArray (fence_v6 r q))] (some 14) [] tI rfl (fun wx hm=>stale_any r q wx) fun z3 hz3=>?_
  replace hz3:w.heap.size + 3 ≤ z3:=hz3
  refine hgE 8 [oh0,oh0,(oA 1 0 10),(oA 2 0 13)] [1,2,3] [] [(w.heap.size + 1,0,10),(w.heap.size + 2,0,13)] [.code [1,0,1,0,1],.code [1,1]] ⟨[(1,(pt w.heap.size 0)),(2,(pt (w.heap.size + 1) 0)),(3,(pt (w.heap.size + 2) 0))],[⟨w.heap.size,90,true,(fence_v6 r q)⟩,⟨w.heap.size + 1,43,true,(fence_v7 r)⟩,⟨w.heap.size + 2,45,true,(fence_v8 r)⟩],[],z3⟩ ?_
  refine hrt [[⟨false,1,0,10⟩],[⟨false,2,0,13⟩]] [.agg (List.toArray (fence_v7 r)),.agg (List.toArray (fence_v8 r))] [(w.heap.size + 1,0,10),(w.heap.size + 2,0,13)] ?_
  intro wx hm
  have e:fenceM r q = sayM r 2:=by
   unfold fenceM
   rw [d1,cond_true]
  exact ⟨Eq.trans (b:=Ending.returned (outV (sayM r 2))) rfl (congrArg (fun p=>Ending.returned (outV p)) e.symm),hm.kept⟩
 ·skip
  refine hgE 18 [oh0,oh0,oh0,(oA 0 12 1),oh0,oh0,(oA 0 1 1),oh0,(oA 0 0 10)] [2,3,24] [eD d1] [(w.heap.size,12,1),(w.heap.size,1,1),(w.heap.size,0,10)] [.ops [1,1,1,0] [2,3,4,5,6,7,8,9],.code [1,1,1,1]] ⟨[(2,(pt (w.heap.size + 1) 0)),(3,(pt (w.heap.size + 2) 0)),(24,.agg (List.toArray (fence_v3 r q)))],[⟨w.heap.size,90,true,(fence_v2 r q)⟩,⟨w.heap.size + 1,43,true,(fence_v5)⟩,⟨w.heap.size + 2,45,true,(fence_v4)⟩],[],w.heap.size + 3⟩ ?_
  refine hcp (.tuple #[.agg (List.toArray (fence_v3 r q)),.agg #[i6 1,i6 q.epoch,i6 0,.bool false,i6 0,i6 0,i6 0,sT ⟨#[]⟩,.bool false,i6 0,i6 0,i6 0,sT ⟨#[]⟩]]) 78 [.agg (List.toArray (fence_v3 r q)),i6 1] (some 25) [] tI rfl (fun wx hm=>say_any r.used q.epoch r.de r.ds r.block r.op r.ie r.is r.mask r.staged 1 wx) fun z7 hz7=>?_
  replace hz7:w.heap.size + 3 ≤ z7:=hz7
  refine hgE 18 [oh0,oh0,oh0,oh0,oh0,(oA 3 0 10),(oA 4 0 13),(oA 3 0 10),oh0,(oA 4 3 10)] [2,3,4,5] [] [(z7,0,10),(z7 + 1,0,13),(z7,0,10),(z7 + 1,3,10)] [.code [1,1,1,1,1,0],.code [1,1,1,1,1,1]] ⟨[(2,(pt (w.heap.size + 1) 0)),(3,(pt (w.heap.size + 2) 0)),(4,(pt z7 0)),(5,(pt (z7 + 1) 0))],(fence_b3 r q w z7),[],z7 + 2⟩ ?_
  suffices HZ9:∀ z9:Nat,z7 + 2 ≤ z9 → Holds [] Try.prog (bodyOf Try.f59) 32 w (fun _=>False) (fence_Q r q w) [.code [1,1,1,1,1,1]] ⟨[(2,(pt (w.heap.size + 1) 0)),(3,(pt (w.heap.size + 2) 0))],(fence_b2 r q w z7),[],z9⟩ by
   have A9_0:∀ z9:Nat,z7 + 2 ≤ z9 → Holds [] Try.prog (bodyOf Try.f59) 32 w (fun _=>False) (fence_Q r q w) [.any [1,1,1,1,1,0] 0 #[true,true,true,true],.code [1,1,1,1,1,1]] ⟨[(2,(pt (w.heap.size + 1) 0)),(3,(pt (w.heap.size + 2) 0))],(fence_b2 r q w z7),[],z9⟩:=by
    intro z9 hz9
    exact holds_done (by kernel_rfl) (HZ9 z9 hz9)
   have A9_1:∀ z9:Nat,z7 + 2 ≤ z9 → Holds [] Try.prog (bodyOf Try.f59) 32 w (fun _=>False) (fence_Q r q w) [.any [1,1,1,1,1,0] 1 #[true,true,true,false],.code [1,1,1,1,1,1]] ⟨[(2,(pt (w.heap.size + 1) 0)),(3,(pt (w.heap.size + 2) 0)),(31,.agg (List.toArray (fence_v1 r q)))],(fence_b1 r q w z7),[],z9⟩:=by
    intro z9 hz9
    exact holds_anyAll (l:=[3]) (by kernel_rfl) (by simp) ⟨edge_op (ls':=#[true,true,true,true]) (by kernel_rfl) (fence_e10 r q w z7 z9) tI (A9_0 z9 hz9),tI⟩
   have A9_2:∀ z9:Nat,z7 + 2 ≤ z9 → Holds [] Try.prog (bodyOf Try.f59) 32 w (fun _=>False) (fence_Q r q w) [.any [1,1,1,1,1,0] 2 #[true,true,false,false],.code [1,1,1,1,1,1]] ⟨[(2,(pt (w.heap.size + 1) 0)),(3,(pt (w.heap.size + 2) 0)),(30,.agg (List.toArray (fence_v3 r q))),(31,.agg (List.toArray (fence_v1 r q)))],(fence_b3 r q w z7),[],z9⟩:=by
    intro z9 hz9
    exact holds_anyAll (l:=[2]) (by kernel_rfl) (by simp) ⟨edge_op (ls':=#[true,true,true,false]) (by kernel_rfl) (fence_e11 r q w z7 z9) tI (A9_1 z9 hz9),tI⟩
   have A9_3:∀ z9:Nat,z7 + 2 ≤ z9 → Holds [] Try.prog (bodyOf Try.f59) 32 w (fun _=>False) (fence_Q r q w) [.any [1,1,1,1,1,0] 2 #[true,false,true,false],.code [1,1,1,1,1,1]] ⟨[(2,(pt (w.heap.size + 1) 0)),(3,(pt (w.heap.size + 2) 0)),(5,(pt (z7 + 1) 0))],(fence_b1 r q w z7),[],z9⟩:=by
    intro z9 hz9
    exact holds_anyAll (l:=[1]) (by kernel_rfl) (by simp) ⟨edge_op (ls':=#[true,true,true,false]) (by kernel_rfl) (fence_e12 r q w z7 z9) tI (A9_1 z9 hz9),tI⟩
   have A9_4:∀ z9:Nat,z7 + 2 ≤ z9 → Holds [] Try.prog (bodyOf Try.f59) 32 w (fun _=>False) (fence_Q r q w) [.any [1,1,1,1,1,0] 3 #[true,false,false,false],.code [1,1,1,1,1,1]] ⟨[(2,(pt (w.heap.size + 1) 0)),(3,(pt (w.heap.size + 2) 0)),(5,(pt (z7 + 1) 0)),(30,.agg (List.toArray (fence_v3 r q)))],(fence_b3 r q w z7),[],z9⟩:=by
    intro z9 hz9
    exact holds_anyAll (l:=[1,2]) (by kernel_rfl) (by simp) ⟨edge_op (ls':=#[true,true,false,false]) (by kernel_rfl) (fence_e13 r q w z7 z9) tI (A9_2 z9 hz9),edge_op (ls':=#[true,false,true,false]) (by kernel_rfl) (fence_e14 r q w z7 z9) tI (A9_3 z9 hz9),tI⟩
   have A9_5:∀ z9:Nat,z7 + 2 ≤ z9 → Holds [] Try.prog (bodyOf Try.f59) 32 w (fun _=>False) (fence_Q r q w) [.any [1,1,1,1,1,0] 3 #[false,true,false,false],.code [1,1,1,1,1,1]] ⟨[(2,(pt (w.heap.size + 1) 0)),(3,(pt (w.heap.size + 2) 0)),(4,(pt z7 0)),(31,.agg (List.toArray (fence_v1 r q)))],(fence_b3 r q w z7),[],z9⟩:=by
    intro z9 hz9
    exact holds_anyAll (l:=[0]) (by kernel_rfl) (by simp) ⟨edge_op (ls':=#[true,true,false,false]) (by kernel_rfl) (fence_e15 r q w z7 z9) tI (A9_2 z9 hz9),tI⟩
   have A9_6:∀ z9:Nat,z7 + 2 ≤ z9 → Holds [] Try.prog (bodyOf Try.f59) 32 w (fun _=>False) (fence_Q r q w) [.any [1,1,1,1,1,0] 4 #[false,false,false,false],.code [1,1,1,1,1,1]] ⟨[(2,(pt (w.heap.size + 1) 0)),(3,(pt (w.heap.size + 2) 0)),(4,(pt z7 0)),(5,(pt (z7 + 1) 0))],(fence_b3 r q w z7),[],z9⟩:=by
    intro z9 hz9
    exact holds_anyAll (l:=[0,1]) (by kernel_rfl) (by simp) ⟨edge_op (ls':=#[true,false,false,false]) (by kernel_rfl) (fence_e16 r q w z7 z9) tI (A9_4 z9 hz9),edge_op (ls':=#[false,true,false,false]) (by kernel_rfl) (fence_e17 r q w z7 z9) tI (A9_5 z9 hz9),tI⟩
   exact holds_anyStart (by kernel_rfl) (by kernel_rfl) (by kernel_rfl) (by kernel_rfl) (A9_6 _ (Nat.le_refl _))
  intro z9 hz9
  refine hgE 3 [] [2,3] [] [] [.code [1,1,1,1,1,1]] ⟨[(2,(pt (w.heap.size + 1) 0)),(3,(pt (w.heap.size + 2) 0))],(fence_b2 r q w z7),[],z9⟩ ?_
  refine hrt [[⟨false,1,0,10⟩],[⟨false,2,0,13⟩]] [.agg (List.toArray (fence_v3 r q)),.agg (List.toArray (fence_v1 r q))] [(w.heap.size + 1,0,10),(w.heap.size + 2,0,13)] ?_
  intro wx hm
  have e:fenceM r q = followM r q:=by
   unfold fenceM
   rw [d1,cond_false]
  exact ⟨Eq.trans (b:=Ending.returned (outV (followM r q))) rfl (congrArg (fun p=>Ending.returned (outV p)) e.symm),hm.kept⟩
def read_v1 (r:RecM):List Value:=[i6 1,i6 r.fence,i6 0,.bool r.used,i6 r.fence,i6 r.de,i6 r.ds,sT r.block,.bool false,i6 0,i6 0,i6 0,sT ⟨#[]⟩]
def read_v2 (r:RecM) (q:AskM):List Value:=(stale_v1 r q)
def read_v3 (r:RecM):List Value:=(stale_v2 r)
def read_v4:List Value:=say_v3
def read_v5:List Value:=say_v4
def read_Q (r:RecM) (w:World):Exit → Act → World → Prop:=bodyPost Try.prog Try.f63 (RetK (outV (readM r)) w)
@[simp] def read_b1 (r:RecM) (q:AskM) (w:World) (z2:Nat):List Bk:=[⟨w.heap.size,90,true,(read_v2 r q)⟩,⟨w.heap.size + 1,43,true,(read_v3 r)⟩,⟨w.heap.size + 2,45,true,(read_v4)⟩,⟨z2,43,true,(read_v3 r)⟩,⟨z2 + 1,45,true,(read_v1 r)⟩]
@[simp] def read_b2 (r:RecM) (q:AskM) (w:World) (z2:Nat):List Bk:=[⟨w.heap.size,90,true,(read_v2 r q)⟩,⟨w.heap.size + 1,43,true,(read_v3 r)⟩,⟨w.heap.size + 2,45,true,(read_v1 r)⟩,⟨z2,43,true,(read_v3 r)⟩,⟨z2 + 1,45,true,(read_v1 r)⟩]
@[simp] def read_b3 (r:RecM) (q:AskM) (w:World) (z2:Nat):List Bk:=[⟨w.heap.size,90,true,(read_v2 r q)⟩,⟨w.heap.size + 1,43,true,(read_v5)⟩,⟨w.heap.size + 2,45,true,(read_v4)⟩,⟨z2,43,true,(read_v3 r)⟩,⟨z2 + 1,45,true,(read_v1 r)⟩]
theorem read_e5 (r:RecM) (q:AskM) (w:World) (z2:Nat) (z4:Nat):Out.prune [2,3] (opStep Try.prog 24 (opsOf (getCode (bodyOf Try.f63) [1,1,1,0])) ⟨[(2,(pt (w.heap.size + 1) 0)),(3,(pt (w.heap.size + 2) 0)),(23,.agg (List.toArray (read_v1 r)))],(read_b1 r q w z2),[],z4⟩ 3 (oA 2 0 13)) = some ⟨[],dupR [(w.heap.size + 2,0,13)],⟨[(2,(pt (w.heap.size + 1) 0)),(3,(pt (w.heap.size + 2) 0))],(read_b2 r q w z2),[],z4⟩⟩:=by kernel_rfl
theorem read_e6 (r:RecM) (q:AskM) (w:World) (z2:Nat) (z4:Nat):Out.prune [2,3,23] (opStep Try.prog 24 (opsOf (getCode (bodyOf Try.f63) [1,1,1,0])) ⟨[(2,(pt (w.heap.size + 1) 0)),(3,(pt (w.heap.size + 2) 0)),(22,.agg (List.toArray (read_v3 r))),(23,.agg (List.toArray (read_v1 r)))],(read_b3 r q w z2),[],z4⟩ 2 (oA 1 0 10)) = some ⟨[],dupR [(w.heap.size + 1,0,10)],⟨[(2,(pt (w.heap.size + 1) 0)),(3,(pt (w.heap.size + 2) 0)),(23,.agg (List.toArray (read_v1 r)))],(read_b1 r q w z2),[],z4⟩⟩:=by kernel_rfl
theorem read_e7 (r:RecM) (q:AskM) (w:World) (z2:Nat) (z4:Nat):Out.prune [2,3,23] (opStep Try.prog 24 (opsOf (getCode (bodyOf Try.f63) [1,1,1,0])) ⟨[(2,(pt (w.heap.size + 1) 0)),(3,(pt (w.heap.size + 2) 0)),(5,(pt (z2 + 1) 0))],(read_b1 r q w z2),[],z4⟩ 1 (oA 4 0 13)) = some ⟨[],dupR [(z2 + 1,0,13)],⟨[(2,(pt (w.heap.size + 1) 0)),(3,(pt (w.heap.size + 2) 0)),(23,.agg (List.toArray (read_v1 r)))],(read_b1 r q w z2),[],z4⟩⟩:=by kernel_rfl
theorem read_e8 (r:RecM) (q:AskM) (w:World) (z2:Nat) (z4:Nat):Out.prune [2,3,22,23] (opStep Try.prog 24 (opsOf (getCode (bodyOf Try.f63) [1,1,1,0])) ⟨[(2,(pt (w.heap.size + 1) 0)),(3,(pt (w.heap.size + 2) 0)),(5,(pt (z2 + 1) 0)),(22,.agg (List.toArray (read_v3 r)))],(read_b3 r q w z2),[],z4⟩ 1 (oA 4 0 13)) = some ⟨[],dupR [(z2 + 1,0,13)],⟨[(2,(pt (w.heap.size + 1) 0)),(3,(pt (w.heap.size + 2) 0)),(22,.agg (List.toArray (read_v3 r))),(23,.agg (List.toArray (read_v1 r)))],(read_b3 r q w z2),[],z4⟩⟩:=by kernel_rfl
theorem read_e9 (r:RecM) (q:AskM) (w:World) (z2:Nat) (z4:Nat):Out.prune [2,3,5] (opStep Try.prog 24 (opsOf (getCode (bodyOf Try.f63) [1,1,1,0])) ⟨[(2,(pt (w.heap.size + 1) 0)),(3,(pt (w.heap.size + 2) 0)),(5,(pt (z2 + 1) 0)),(22,.agg (List.toArray (read_v3 r)))],(read_b3 r q w z2),[],z4⟩ 2 (oA 1 0 10)) = some ⟨[],dupR [(w.heap.size + 1,0,10)],⟨[(2,(pt (w.heap.size + 1) 0)),(3,(pt (w.heap.size + 2) 0)),(5,(pt (z2 + 1) 0))],(read_b1 r q w z2),[],z4⟩⟩:=by kernel_rfl
theorem read_e10 (r:RecM) (q:AskM) (w:World) (z2:Nat) (z4:Nat):Out.prune [2,3,22,23] (opStep Try.prog 24 (opsOf (getCode (bodyOf Try.f63) [1,1,1,0])) ⟨[(2,(pt (w.heap.size + 1) 0)),(3,(pt (w.heap.size + 2) 0)),(4,(pt z2 0)),(23,.agg (List.toArray (read_v1 r)))],(read_b3 r q w z2),[],z4⟩ 0 (oA 3 0 10)) = some ⟨[],dupR [(z2,0,10)],⟨[(2,(pt (w.heap.size + 1) 0)),(3,(pt (w.heap.size + 2) 0)),(22,.agg (List.toArray (read_v3 r))),(23,.agg (List.toArray (read_v1 r)))],(read_b3 r q w z2),[],z4⟩⟩:=by kernel_rfl
theorem read_e11 (r:RecM) (q:AskM) (w:World) (z2:Nat) (z4:Nat):Out.prune [2,3,5,22] (opStep Try.prog 24 (opsOf (getCode (bodyOf Try.f63) [1,1,1,0])) ⟨[(2,(pt (w.heap.size + 1) 0)),(3,(pt (w.heap.size + 2) 0)),(4,(pt z2 0)),(5,(pt (z2 + 1) 0))],(read_b3 r q w z2),[],z4⟩ 0 (oA 3 0 10)) = some ⟨[],dupR [(z2,0,10)],⟨[(2,(pt (w.heap.size + 1) 0)),(3,(pt (w.heap.size + 2) 0)),(5,(pt (z2 + 1) 0)),(22,.agg (List.toArray (read_v3 r)))],(read_b3 r q w z2),[],z4⟩⟩:=by kernel_rfl
theorem read_e12 (r:RecM) (q:AskM) (w:World) (z2:Nat) (z4:Nat):Out.prune [2,3,4,23] (opStep Try.prog 24 (opsOf (getCode (bodyOf Try.f63) [1,1,1,0])) ⟨[(2,(pt (w.heap.size + 1) 0)),(3,(pt (w.heap.size + 2) 0)),(4,(pt z2 0)),(5,(pt (z2 + 1) 0))],(read_b3 r q w z2),[],z4⟩ 1 (oA 4 0 13)) = some ⟨[],dupR [(z2 + 1,0,13)],⟨[(2,(pt (w.heap.size + 1) 0)),(3,(pt (w.heap.size + 2) 0)),(4,(pt z2 0)),(23,.agg (List.toArray (read_v1 r)))],(read_b3 r q w z2),[],z4⟩⟩:=by kernel_rfl
set_option maxRecDepth 100000 in
set_option maxHeartbeats 4000000 in
theorem read_any (r:RecM) (q:AskM) (w:World) :
  Calls Try.prog 63 #[.agg #[.bool r.used,.int .i64 r.fence,.int .i64 r.de,.int .i64 r.ds,.string r.block,.bool r.op,.int .i64 r.ie,.int .i64 r.is,.int .i64 r.mask,.string r.staged,.int .i64 q.kind,.int .i64 q.stripe,.int .i64 q.epoch,.int .i64 q.seq,.int .i64 q.mask,.int .i64 q.node,.int .i64 q.oe,.int .i64 q.os,.string q.block,.int .i64 q.epoch,.int .i64 q.seq]] w (RetK (outV (readM r)) w):=by
 refine calls_of_holds (S:=(fun _=>False)) (l:=[.agg (List.toArray (read_v2 r q))]) (n:=24) Try.func63 (body_of (by kernel_rfl)) rfl (by simp) (MemOk.none w _) ?_
 refine hgE 13 [oh0,oh0,oh0,oh0,(oA 0 0 10)] [2,3,8] [] [(w.heap.size,0,10)] [.ops [1,0] [2,3,4,5,6,7,8,9],.code [1,1]] ⟨[(2,(pt (w.heap.size + 1) 0)),(3,(pt (w.heap.size + 2) 0)),(8,.agg (List.toArray (read_v3 r)))],[⟨w.heap.size,90,true,(read_v2 r q)⟩,⟨w.heap.size + 1,43,true,(read_v5)⟩,⟨w.heap.size + 2,45,true,(read_v4)⟩],[],w.heap.size + 3⟩ ?_
 refine hcp (.tuple #[.agg (List.toArray (read_v3 r)),.agg #[i6 1,i6 r.fence,i6 0,.bool false,i6 0,i6 0,i6 0,sT ⟨#[]⟩,.bool false,i6 0,i6 0,i6 0,sT ⟨#[]⟩]]) 78 [.agg (List.toArray (read_v3 r)),i6 1] (some 9) [] tI rfl (fun wx hm=>say_any r.used r.fence r.de r.ds r.block r.op r.ie r.is r.mask r.staged 1 wx) fun z2 hz2=>?_
 replace hz2:w.heap.size + 3 ≤ z2:=hz2
 refine hgE 26 [oh0,oh0,oh0,oh0,oh0,(oA 3 0 10),(oA 4 0 13),oh0,(oA 3 0 1),oh0,(oA 3 1 1),oh0,(oA 3 2 2),oh0,(oA 3 4 1),oh0,oh0,(oA 4 3 10)] [2,3,4,5] [] [(z2,0,10),(z2 + 1,0,13),(z2,0,1),(z2,1,1),(z2,2,2),(z2,4,1),(z2 + 1,3,10)] [.code [1,1,1,0],.code [1,1,1,1]] ⟨[(2,(pt (w.heap.size + 1) 0)),(3,(pt (w.heap.size + 2) 0)),(4,(pt z2 0)),(5,(pt (z2 + 1) 0))],(read_b3 r q w z2),[],z2 + 2⟩ ?_
 suffices HZ4:∀ z4:Nat,z2 + 2 ≤ z4 → Holds [] Try.prog (bodyOf Try.f63) 24 w (fun _=>False) (read_Q r w) [.code [1,1,1,1]] ⟨[(2,(pt (w.heap.size + 1) 0)),(3,(pt (w.heap.size + 2) 0))],(read_b2 r q w z2),[],z4⟩ by
  have A4_0:∀ z4:Nat,z2 + 2 ≤ z4 → Holds [] Try.prog (bodyOf Try.f63) 24 w (fun _=>False) (read_Q r w) [.any [1,1,1,0] 0 #[true,true,true,true],.code [1,1,1,1]] ⟨[(2,(pt (w.heap.size + 1) 0)),(3,(pt (w.heap.size + 2) 0))],(read_b2 r q w z2),[],z4⟩:=by
   intro z4 hz4
   exact holds_done (by kernel_rfl) (HZ4 z4 hz4)
  have A4_1:∀ z4:Nat,z2 + 2 ≤ z4 → Holds [] Try.prog (bodyOf Try.f63) 24 w (fun _=>False) (read_Q r w) [.any [1,1,1,0] 1 #[true,true,true,false],.code [1,1,1,1]] ⟨[(2,(pt (w.heap.size + 1) 0)),(3,(pt (w.heap.size + 2) 0)),(23,.agg (List.toArray (read_v1 r)))],(read_b1 r q w z2),[],z4⟩:=by
   intro z4 hz4
   exact holds_anyAll (l:=[3]) (by kernel_rfl) (by simp) ⟨edge_op (ls':=#[true,true,true,true]) (by kernel_rfl) (read_e5 r q w z2 z4) tI (A4_0 z4 hz4),tI⟩
  have A4_2:∀ z4:Nat,z2 + 2 ≤ z4 → Holds [] Try.prog (bodyOf Try.f63) 24 w (fun _=>False) (read_Q r w) [.any [1,1,1,0] 2 #[true,true,false,false],.code [1,1,1,1]] ⟨[(2,(pt (w.heap.size + 1) 0)),(3,(pt (w.heap.size + 2) 0)),(22,.agg (List.toArray (read_v3 r))),(23,.agg (List.toArray (read_v1 r)))],(read_b3 r q w z2),[],z4⟩:=by
   intro z4 hz4
   exact holds_anyAll (l:=[2]) (by kernel_rfl) (by simp) ⟨edge_op (ls':=#[true,true,true,false]) (by kernel_rfl) (read_e6 r q w z2 z4) tI (A4_1 z4 hz4),tI⟩
  have A4_3:∀ z4:Nat,z2 + 2 ≤ z4 → Holds [] Try.prog (bodyOf Try.f63) 24 w (fun _=>False) (read_Q r w) [.any [1,1,1,0] 2 #[true,false,true,false],.code [1,1,1,1]] ⟨[(2,(pt (w.heap.size + 1) 0)),(3,(pt (w.heap.size + 2) 0)),(5,(pt (z2 + 1) 0))],(read_b1 r q w z2),[],z4⟩:=by
   intro z4 hz4
   exact holds_anyAll (l:=[1]) (by kernel_rfl) (by simp) ⟨edge_op (ls':=#[true,true,true,false]) (by kernel_rfl) (read_e7 r q w z2 z4) tI (A4_1 z4 hz4),tI⟩
  have A4_4:∀ z4:Nat,z2 + 2 ≤ z4 → Holds [] Try.prog (bodyOf Try.f63) 24 w (fun _=>False) (read_Q r w) [.any [1,1,1,0] 3 #[true,false,false,false],.code [1,1,1,1]] ⟨[(2,(pt (w.heap.size + 1) 0)),(3,(pt (w.heap.size + 2) 0)),(5,(pt (z2 + 1) 0)),(22,.agg (List.toArray (read_v3 r)))],(read_b3 r q w z2),[],z4⟩:=by
   intro z4 hz4
   exact holds_anyAll (l:=[1,2]) (by kernel_rfl) (by simp) ⟨edge_op (ls':=#[true,true,false,false]) (by kernel_rfl) (read_e8 r q w z2 z4) tI (A4_2 z4 hz4),edge_op (ls':=#[true,false,true,false]) (by kernel_rfl) (read_e9 r q w z2 z4) tI (A4_3 z4 hz4),tI⟩
  have A4_5:∀ z4:Nat,z2 + 2 ≤ z4 → Holds [] Try.prog (bodyOf Try.f63) 24 w (fun _=>False) (read_Q r w) [.any [1,1,1,0] 3 #[false,true,false,false],.code [1,1,1,1]] ⟨[(2,(pt (w.heap.size + 1) 0)),(3,(pt (w.heap.size + 2) 0)),(4,(pt z2 0)),(23,.agg (List.toArray (read_v1 r)))],(read_b3 r q w z2),[],z4⟩:=by
   intro z4 hz4
   exact holds_anyAll (l:=[0]) (by kernel_rfl) (by simp) ⟨edge_op (ls':=#[true,true,false,false]) (by kernel_rfl) (read_e10 r q w z2 z4) tI (A4_2 z4 hz4),tI⟩
  have A4_6:∀ z4:Nat,z2 + 2 ≤ z4 → Holds [] Try.prog (bodyOf Try.f63) 24 w (fun _=>False) (read_Q r w) [.any [1,1,1,0] 4 #[false,false,false,false],.code [1,1,1,1]] ⟨[(2,(pt (w.heap.size + 1) 0)),(3,(pt (w.heap.size + 2) 0)),(4,(pt z2 0)),(5,(pt (z2 + 1) 0))],(read_b3 r q w z2),[],z4⟩:=by
   intro z4 hz4
   exact holds_anyAll (l:=[0,1]) (by kernel_rfl) (by simp) ⟨edge_op (ls':=#[true,false,false,false]) (by kernel_rfl) (read_e11 r q w z2 z4) tI (A4_4 z4 hz4),edge_op (ls':=#[false,true,false,false]) (by kernel_rfl) (read_e12 r q w z2 z4) tI (A4_5 z4 hz4),tI⟩
  exact holds_anyStart (by kernel_rfl) (by kernel_rfl) (by kernel_rfl) (by kernel_rfl) (A4_6 _ (Nat.le_refl _))
 intro z4 hz4
 refine hgE 3 [] [2,3] [] [] [.code [1,1,1,1]] ⟨[(2,(pt (w.heap.size + 1) 0)),(3,(pt (w.heap.size + 2) 0))],(read_b2 r q w z2),[],z4⟩ ?_
 refine hrt [[⟨false,1,0,10⟩],[⟨false,2,0,13⟩]] [.agg (List.toArray (read_v3 r)),.agg (List.toArray (read_v1 r))] [(w.heap.size + 1,0,10),(w.heap.size + 2,0,13)] ?_
 intro wx hm
 exact ⟨rfl,hm.kept⟩
def put_v1 (r:RecM) (q:AskM):List Value:=(read_v2 r q)
def put_v2:List Value:=say_v4
def put_v3:List Value:=say_v3
def put_v4 (r:RecM):List Value:=(read_v3 r)
def put_v5 (r:RecM):List Value:=(check_v3 r)
def put_v6 (r:RecM) (q:AskM):List Value:=[.bool true,i6 r.fence,i6 q.epoch,i6 q.seq,sT q.block,.bool false,i6 0,i6 0,i6 0,sT ⟨#[]⟩]
def put_v7 (r:RecM):List Value:=((put_v5 r).set 0 (i6 4))
def put_n1:List OH:=[oh0,oh0,⟨false,0,[⟨false,1,0,10⟩]⟩,⟨false,0,[⟨false,2,0,13⟩]⟩]
@[simp] def put_b1 (r:RecM) (q:AskM) (w:World):List Bk:=[⟨w.heap.size,90,true,(put_v1 r q)⟩,⟨w.heap.size + 1,43,true,(put_v2)⟩,⟨w.heap.size + 2,45,true,(put_v3)⟩]
set_option maxRecDepth 100000 in
set_option maxHeartbeats 4000000 in
theorem put_any (r:RecM) (q:AskM) (w:World) :
  Calls Try.prog 61 #[.agg #[.bool r.used,.int .i64 r.fence,.int .i64 r.de,.int .i64 r.ds,.string r.block,.bool r.op,.int .i64 r.ie,.int .i64 r.is,.int .i64 r.mask,.string r.staged,.int .i64 q.kind,.int .i64 q.stripe,.int .i64 q.epoch,.int .i64 q.seq,.int .i64 q.mask,.int .i64 q.node,.int .i64 q.oe,.int .i64 q.os,.string q.block,.int .i64 q.epoch,.int .i64 q.seq]] w (RetK (outV (putM r q)) w):=by
 refine calls_of_holds (S:=(fun _=>False)) (l:=[.agg (List.toArray (put_v1 r q))]) (n:=51) Try.func61 (body_of (by kernel_rfl)) rfl (by simp) (MemOk.none w _) ?_
 refine hgE 16 [oh0,oh0,oh0,oh0,oh0,(oA 0 0 1),oh0] [1,2,3,8] [] [(w.heap.size,0,1)] [.ops [1,0,0] [4,5,6,7,8,9,10],.code [1,0,1],.code [1,1]] ⟨[(1,(pt w.heap.size 0)),(2,(pt (w.heap.size + 1) 0)),(3,(pt (w.heap.size + 2) 0)),(8,.bool r.used)],(put_b1 r q w),[],w.heap.size + 3⟩ ?_
 rcases Bool.eq_false_or_eq_true (r.used) with d1 | d1
 ·skip
  refine hgE 11 [oh1,oh1,⟨true,0,[⟨false,0,2,2⟩]⟩,oh1,⟨true,0,[⟨false,0,19,2⟩]⟩,⟨true,1,[]⟩,oh3] [1,2,3,15] [eD d1,eD d1,eD d1,eD d1,eD d1,eD d1,vV,eD d1] [(w.heap.size,2,2),(w.heap.size,19,2)] [.code [1,0,1],.code [1,1]] ⟨[(1,(pt w.heap.size 0)),(2,(pt (w.heap.size + 1) 0)),(3,(pt (w.heap.size + 2) 0)),(15,.bool (((r.de:Int) == q.epoch) && (((r.ds:Int) == q.seq) && true)))],(put_b1 r q w),[],w.heap.size + 3⟩ ?_
  rcases Bool.eq_false_or_eq_true ((((r.de:Int) == q.epoch) && (((r.ds:Int) == q.seq) && true))) with d2 | d2
  ·skip
   refine hgE 8 [oh1,oh0,(oA 0 0 10)] [1,2,3,17] [eD d2] [(w.heap.size,0,10)] [.ops [1,0,1,0,0] [2,3,4,5,6],.code [1,0,1,0,1],.code [1,1]] ⟨[(1,(pt w.heap.size 0)),(2,(pt (w.heap.size + 1) 0)),(3,(pt (w.heap.size + 2) 0)),(17,.agg (List.toArray (put_v4 r)))],(put_b1 r q w),[],w.heap.size + 3⟩ ?_
   refine hcp (.tuple #[.agg (List.toArray (put_v4 r)),.agg (List.toArray (put_v5 r))]) 78 [.agg (List.toArray (put_v4 r)),i6 1] (some 18) [] tI rfl (fun wx hm=>say_any r.used r.fence r.de r.ds r.block r.op r.ie r.is r.mask r.staged 1 wx) fun z4 hz4=>?_
   replace hz4:w.heap.size + 3 ≤ z4:=hz4
   refine hgE 8 put_n1 [1,2,3] [] [(w.heap.size + 1,0,10),(w.heap.size + 2,0,13)] [.code [1,0,1,0,1],.code [1,1]] ⟨[(1,(pt w.heap.size 0)),(2,(pt (w.heap.size + 1) 0)),(3,(pt (w.heap.size + 2) 0))],[⟨w.heap.size,90,true,(put_v1 r q)⟩,⟨w.heap.size + 1,43,true,(put_v4 r)⟩,⟨w.heap.size + 2,45,true,(put_v5 r)⟩],[],z4⟩ ?_
   refine hrt [[⟨false,1,0,10⟩],[⟨false,2,0,13⟩]] [.agg (List.toArray (put_v4 r)),.agg (List.toArray (put_v5 r))] [(w.heap.size + 1,0,10),(w.heap.size + 2,0,13)] ?_
   intro wx hm
   have e:putM r q = sayM r 1:=by
    unfold putM tagEq
    rw [d1,cond_true,d2,cond_true]
   exact ⟨Eq.trans (b:=Ending.returned (outV (sayM r 1))) rfl (congrArg (fun p=>Ending.returned (outV p)) e.symm),hm.kept⟩
  ·skip
   refine hgE 17 [oh0,oh0,oh0,(oA 0 0 1),oh0,oh1,oh1,⟨true,0,[⟨false,0,2,2⟩]⟩,oh1,⟨true,0,[⟨false,0,19,2⟩]⟩] [1,2,3,24,27,29] [eD d2,eD d1,eD d1,eD d1,eD d1,eD d1] [(w.heap.size,0,1),(w.heap.size,2,2),(w.heap.size,19,2)] [.ops [1,1,0,0] [9,10,11],.code [1,1,0,1],.code [1,1,1]] ⟨[(1,(pt w.heap.size 0)),(2,(pt (w.heap.size + 1) 0)),(3,(pt (w.heap.size + 2) 0)),(24,.bool r.used),(27,.agg #[i6 r.de,i6 r.ds]),(29,.agg #[i6 q.epoch,i6 q.seq])],(put_b1 r q w),[],w.heap.size + 3⟩ ?_
   refine hcp (.bool (beforeM r.de r.ds q.epoch q.seq)) 79 [.agg #[i6 r.de,i6 r.ds],.agg #[i6 q.epoch,i6 q.seq]] (some 30) [r.used = true] ⟨d1,tI⟩ rfl (fun wx hm=>before_any _ _ _ _ wx) fun z8 hz8=>?_
   replace hz8:w.heap.size + 3 ≤ z8:=hz8
   refine hgE 6 [oh1,oh3] [1,2,3,32] [eD d1,eD d1] [] [.code [1,1,0,1],.code [1,1,1]] ⟨[(1,(pt w.heap.size 0)),(2,(pt (w.heap.size + 1) 0)),(3,(pt (w.heap.size + 2) 0)),(32,.bool (!(beforeM r.de r.ds q.epoch q.seq)))],(put_b1 r q w),[],z8⟩ ?_
   rcases Bool.eq_false_or_eq_true (beforeM r.de r.ds q.epoch q.seq) with d3 | d3
   ·skip
    refine hgE 22 [oh0,oh0,oh0,(oA 0 1 1),oh0,(oA 0 19 2),oh0,oh0,(oA 0 18 1),oh0,oh0,(oA 3 0 10),(oA 3 0 10)] [2,3,47] [eD (nF d3)] [(w.heap.size,1,1),(w.heap.size,19,2),(w.heap.size,18,1),(z8,0,10),(z8,0,10)] [.ops [1,1,1,1,0] [1,2,3,4,5],.code [1,1,1,1,1]] ⟨[(2,(pt (w.heap.size + 1) 0)),(3,(pt (w.heap.size + 2) 0)),(47,.agg (List.toArray (put_v6 r q)))],[⟨w.heap.size,90,true,(put_v1 r q)⟩,⟨w.heap.size + 1,43,true,(put_v2)⟩,⟨w.heap.size + 2,45,true,(put_v3)⟩,⟨z8,43,true,(put_v6 r q)⟩],[],z8 + 1⟩ ?_
    refine hcp (.tuple #[.agg (List.toArray (put_v6 r q)),.agg (List.toArray (put_v5 r))]) 78 [.agg (List.toArray (put_v6 r q)),i6 1] (some 48) [] tI rfl (fun wx hm=>say_any true r.fence q.epoch q.seq q.block false 0 0 0 (⟨#[]⟩) 1 wx) fun z11 hz11=>?_
    replace hz11:z8 + 1 ≤ z11:=hz11
    refine hgE 8 put_n1 [2,3] [] [(w.heap.size + 1,0,10),(w.heap.size + 2,0,13)] [.code [1,1,1,1,1]] ⟨[(2,(pt (w.heap.size + 1) 0)),(3,(pt (w.heap.size + 2) 0))],[⟨w.heap.size,90,true,(put_v1 r q)⟩,⟨w.heap.size + 1,43,true,(put_v6 r q)⟩,⟨w.heap.size + 2,45,true,(put_v5 r)⟩,⟨z8,43,true,(put_v6 r q)⟩],[],z11⟩ ?_
    refine hrt [[⟨false,1,0,10⟩],[⟨false,2,0,13⟩]] [.agg (List.toArray (put_v6 r q)),.agg (List.toArray (put_v5 r))] [(w.heap.size + 1,0,10),(w.heap.size + 2,0,13)] ?_
    intro wx hm
    have e:putM r q = sayM (newM r q) 1:=by
     unfold putM tagEq
     rw [d1,cond_true,d2,cond_false,d3,cond_true]
    exact ⟨Eq.trans (b:=Ending.returned (outV (sayM (newM r q) 1))) rfl (congrArg (fun p=>Ending.returned (outV p)) e.symm),hm.kept⟩
   ·skip
    refine hgE 8 [oh1,oh0,(oA 0 0 10)] [1,2,3,34] [eD (nT d3)] [(w.heap.size,0,10)] [.ops [1,1,0,1,0,0] [2,3,4,5,6],.code [1,1,0,1,0,1],.code [1,1,1]] ⟨[(1,(pt w.heap.size 0)),(2,(pt (w.heap.size + 1) 0)),(3,(pt (w.heap.size + 2) 0)),(34,.agg (List.toArray (put_v4 r)))],(put_b1 r q w),[],z8⟩ ?_
    refine hcp (.tuple #[.agg (List.toArray (put_v4 r)),.agg (List.toArray (put_v7 r))]) 78 [.agg (List.toArray (put_v4 r)),i6 4] (some 35) [] tI rfl (fun wx hm=>say_any r.used r.fence r.de r.ds r.block r.op r.ie r.is r.mask r.staged 4 wx) fun z15 hz15=>?_
    replace hz15:z8 ≤ z15:=hz15
    refine hgE 8 put_n1 [1,2,3] [] [(w.heap.size + 1,0,10),(w.heap.size + 2,0,13)] [.code [1,1,0,1,0,1],.code [1,1,1]] ⟨[(1,(pt w.heap.size 0)),(2,(pt (w.heap.size + 1) 0)),(3,(pt (w.heap.size + 2) 0))],[⟨w.heap.size,90,true,(put_v1 r q)⟩,⟨w.heap.size + 1,43,true,(put_v4 r)⟩,⟨w.heap.size + 2,45,true,(put_v7 r)⟩],[],z15⟩ ?_
    refine hrt [[⟨false,1,0,10⟩],[⟨false,2,0,13⟩]] [.agg (List.toArray (put_v4 r)),.agg (List.toArray (put_v7 r))] [(w.heap.size + 1,0,10),(w.heap.size + 2,0,13)] ?_
    intro wx hm
    have e:putM r q = sayM r 4:=by
     unfold putM tagEq
     rw [d1,cond_true,d2,cond_false,d3,cond_false]
    exact ⟨Eq.trans (b:=Ending.returned (outV (sayM r 4))) rfl (congrArg (fun p=>Ending.returned (outV p)) e.symm),hm.kept⟩
 ·skip
  refine hgE 48 [oh0,oh0,oh0,oh0,oh0,oh0,⟨false,3,[]⟩,oh0,oh0,oh0,(oA 0 0 1),oh0,oh0,oh0,oh0,oh0,oh0,oh0,oh0,⟨false,3,[]⟩,oh0,oh0,oh0,(oA 0 1 1),oh0,(oA 0 19 2),oh0,oh0,(oA 0 18 1),oh0,oh0,(oA 3 0 10),(oA 3 0 10)] [2,3,47] [eD d1,eD d1,eD d1,eD d1,eD d1,eD d1,eD d1,fF,eD d1,eD d1,eD d1,eD d1,eD d1,eD d1,eD d1,eD d1,fF] [(w.heap.size,0,1),(w.heap.size,1,1),(w.heap.size,19,2),(w.heap.size,18,1),(w.heap.size + 3,0,10),(w.heap.size + 3,0,10)] [.ops [1,1,1,1,0] [1,2,3,4,5],.code [1,1,1,1,1]] ⟨[(2,(pt (w.heap.size + 1) 0)),(3,(pt (w.heap.size + 2) 0)),(47,.agg (List.toArray (put_v6 r q)))],[⟨w.heap.size,90,true,(put_v1 r q)⟩,⟨w.heap.size + 1,43,true,(put_v2)⟩,⟨w.heap.size + 2,45,true,(put_v3)⟩,⟨w.heap.size + 3,43,true,(put_v6 r q)⟩],[],w.heap.size + 4⟩ ?_
  refine hcp (.tuple #[.agg (List.toArray (put_v6 r q)),.agg (List.toArray (put_v5 r))]) 78 [.agg (List.toArray (put_v6 r q)),i6 1] (some 48) [] tI rfl (fun wx hm=>say_any true r.fence q.epoch q.seq q.block false 0 0 0 (⟨#[]⟩) 1 wx) fun z19 hz19=>?_
  replace hz19:w.heap.size + 4 ≤ z19:=hz19
  refine hgE 8 put_n1 [2,3] [] [(w.heap.size + 1,0,10),(w.heap.size + 2,0,13)] [.code [1,1,1,1,1]] ⟨[(2,(pt (w.heap.size + 1) 0)),(3,(pt (w.heap.size + 2) 0))],[⟨w.heap.size,90,true,(put_v1 r q)⟩,⟨w.heap.size + 1,43,true,(put_v6 r q)⟩,⟨w.heap.size + 2,45,true,(put_v5 r)⟩,⟨w.heap.size + 3,43,true,(put_v6 r q)⟩],[],z19⟩ ?_
  refine hrt [[⟨false,1,0,10⟩],[⟨false,2,0,13⟩]] [.agg (List.toArray (put_v6 r q)),.agg (List.toArray (put_v5 r))] [(w.heap.size + 1,0,10),(w.heap.size + 2,0,13)] ?_
  intro wx hm
  have e:putM r q = sayM (newM r q) 1:=by
   unfold putM tagEq
   rw [d1,cond_false]
  exact ⟨Eq.trans (b:=Ending.returned (outV (sayM (newM r q) 1))) rfl (congrArg (fun p=>Ending.returned (outV p)) e.symm),hm.kept⟩
def prepare_v1 (r:RecM) (q:AskM):List Value:=(put_v1 r q)
def prepare_v2:List Value:=say_v4
def prepare_v3:List Value:=say_v3
def prepare_v4 (r:RecM):List Value:=(put_v4 r)
def prepare_v5 (r:RecM):List Value:=(put_v5 r)
def prepare_v6 (r:RecM):List Value:=((put_v5 r).set 0 (i6 3))
def prepare_v7 (r:RecM) (q:AskM):List Value:=[.bool r.used,i6 r.fence,i6 r.de,i6 r.ds,sT r.block,.bool true,i6 q.epoch,i6 q.seq,i6 q.mask,sT q.block]
def prepare_v8 (r:RecM) (q:AskM):List Value:=((((((put_v1 r q).set 5 (.bool true)).set 6 (i6 q.epoch)).set 7 (i6 q.seq)).set 8 (i6 q.mask)).set 9 (sT q.block))
def prepare_v9 (r:RecM):List Value:=(put_v7 r)
def prepare_n1:List OH:=[oh0,oh0,⟨false,0,[⟨false,1,0,10⟩]⟩,⟨false,0,[⟨false,2,0,13⟩]⟩]
def prepare_n2:List OH:=[oh1,oh0,⟨false,0,[⟨false,0,0,10⟩]⟩]
@[simp] def prepare_b1 (r:RecM) (q:AskM) (w:World):List Bk:=[⟨w.heap.size,90,true,(prepare_v1 r q)⟩,⟨w.heap.size + 1,43,true,(prepare_v2)⟩,⟨w.heap.size + 2,45,true,(prepare_v3)⟩]
@[simp] def prepare_b2 (r:RecM) (q:AskM) (w:World):List Bk:=[⟨w.heap.size,90,true,(prepare_v1 r q)⟩,⟨w.heap.size + 1,43,true,(prepare_v4 r)⟩,⟨w.heap.size + 2,45,true,(prepare_v5 r)⟩]
set_option maxRecDepth 100000 in
set_option maxHeartbeats 4000000 in
theorem prepare_any (r:RecM) (q:AskM) (w:World) :
  Calls Try.prog 64 #[.agg #[.bool r.used,.int .i64 r.fence,.int .i64 r.de,.int .i64 r.ds,.string r.block,.bool r.op,.int .i64 r.ie,.int .i64 r.is,.int .i64 r.mask,.string r.staged,.int .i64 q.kind,.int .i64 q.stripe,.int .i64 q.epoch,.int .i64 q.seq,.int .i64 q.mask,.int .i64 q.node,.int .i64 q.oe,.int .i64 q.os,.string q.block,.int .i64 q.epoch,.int .i64 q.seq]] w (RetK (outV (prepareM r q)) w):=by
 refine calls_of_holds (S:=(fun _=>False)) (l:=[.agg (List.toArray (prepare_v1 r q))]) (n:=76) Try.func64 (body_of (by kernel_rfl)) rfl (by simp) (MemOk.none w _) ?_
 refine hgE 21 [oh0,oh0,oh0,oh0,oh0,(oA 0 2 2),oh0,(oA 0 19 2),oh2,oh0] [1,2,3,4] [vV] [(w.heap.size,2,2),(w.heap.size,19,2)] [.code [1,0,0,1],.blk 0,.code [1,1]] ⟨[(1,(pt w.heap.size 0)),(2,(pt (w.heap.size + 1) 0)),(3,(pt (w.heap.size + 2) 0)),(4,.bool (((r.de:Int) == q.epoch) && (((r.ds:Int) == q.seq) && true)))],(prepare_b1 r q w),[],w.heap.size + 3⟩ ?_
 rcases Bool.eq_false_or_eq_true ((((r.de:Int) == q.epoch) && (((r.ds:Int) == q.seq) && true))) with d1 | d1
 ·skip
  refine hgE 8 prepare_n2 [1,2,3,12] [eD d1] [(w.heap.size,0,10)] [.ops [1,0,0,1,0,0] [2,3,4,5,6],.code [1,0,0,1,0,1],.blk 0,.code [1,1]] ⟨[(1,(pt w.heap.size 0)),(2,(pt (w.heap.size + 1) 0)),(3,(pt (w.heap.size + 2) 0)),(12,.agg (List.toArray (prepare_v4 r)))],(prepare_b1 r q w),[],w.heap.size + 3⟩ ?_
  refine hcp (.tuple #[.agg (List.toArray (prepare_v4 r)),.agg (List.toArray (prepare_v5 r))]) 78 [.agg (List.toArray (prepare_v4 r)),i6 1] (some 13) [] tI rfl (fun wx hm=>say_any r.used r.fence r.de r.ds r.block r.op r.ie r.is r.mask r.staged 1 wx) fun z3 hz3=>?_
  replace hz3:w.heap.size + 3 ≤ z3:=hz3
  refine hgE 8 prepare_n1 [1,2,3] [] [(w.heap.size + 1,0,10),(w.heap.size + 2,0,13)] [.code [1,0,0,1,0,1],.blk 0,.code [1,1]] ⟨[(1,(pt w.heap.size 0)),(2,(pt (w.heap.size + 1) 0)),(3,(pt (w.heap.size + 2) 0))],(prepare_b2 r q w),[],z3⟩ ?_
  refine hrt [[⟨false,1,0,10⟩],[⟨false,2,0,13⟩]] [.agg (List.toArray (prepare_v4 r)),.agg (List.toArray (prepare_v5 r))] [(w.heap.size + 1,0,10),(w.heap.size + 2,0,13)] ?_
  intro wx hm
  have e:prepareM r q = sayM r 1:=by
   unfold prepareM tagEq
   rw [d1,cond_true]
  exact ⟨Eq.trans (b:=Ending.returned (outV (sayM r 1))) rfl (congrArg (fun p=>Ending.returned (outV p)) e.symm),hm.kept⟩
 ·skip
  refine hgE 11 [oh0,oh0,oh0,(oA 0 2 2),oh0,(oA 0 19 2)] [1,2,3,19,21] [eD d1] [(w.heap.size,2,2),(w.heap.size,19,2)] [.ops [1,0,0,1,1,0] [5,6,7],.code [1,0,0,1,1,1],.blk 0,.code [1,1]] ⟨[(1,(pt w.heap.size 0)),(2,(pt (w.heap.size + 1) 0)),(3,(pt (w.heap.size + 2) 0)),(19,.agg #[i6 r.de,i6 r.ds]),(21,.agg #[i6 q.epoch,i6 q.seq])],(prepare_b1 r q w),[],w.heap.size + 3⟩ ?_
  refine hcp (.bool (beforeM r.de r.ds q.epoch q.seq)) 79 [.agg #[i6 r.de,i6 r.ds],.agg #[i6 q.epoch,i6 q.seq]] (some 22) [] tI rfl (fun wx hm=>before_any _ _ _ _ wx) fun z7 hz7=>?_
  replace hz7:w.heap.size + 3 ≤ z7:=hz7
  refine hgE 6 [oh0,oh0] [1,2,3,16] [] [] [.code [1,0,0,1,1,1],.blk 0,.code [1,1]] ⟨[(1,(pt w.heap.size 0)),(2,(pt (w.heap.size + 1) 0)),(3,(pt (w.heap.size + 2) 0)),(16,.bool (!(beforeM r.de r.ds q.epoch q.seq)))],(prepare_b1 r q w),[],z7⟩ ?_
  rcases Bool.eq_false_or_eq_true (beforeM r.de r.ds q.epoch q.seq) with d2 | d2
  ·skip
   refine hgE 10 [oh0,oh0,oh0,(oA 0 5 1),oh0] [1,2,3,33] [eD (nF d2)] [(w.heap.size,5,1)] [.ops [1,0,0,1,1,1,1,0] [4,5,6,7,8,9,10,11],.code [1,0,0,1,1,1,1,1],.blk 0,.code [1,1]] ⟨[(1,(pt w.heap.size 0)),(2,(pt (w.heap.size + 1) 0)),(3,(pt (w.heap.size + 2) 0)),(33,.bool r.op)],(prepare_b1 r q w),[],z7⟩ ?_
   rcases Bool.eq_false_or_eq_true (r.op) with d3 | d3
   ·skip
    refine hgE 12 [oh1,oh1,⟨true,0,[⟨false,0,6,2⟩]⟩,oh1,⟨true,0,[⟨false,0,19,2⟩]⟩,⟨true,1,[]⟩,oh3,oh0] [1,2,3,29] [eD d3,eD d3,eD d3,eD d3,eD d3,eD d3,vV,eD d3] [(w.heap.size,6,2),(w.heap.size,19,2)] [.code [1,0,0,1,1,1,1,1],.blk 0,.code [1,1]] ⟨[(1,(pt w.heap.size 0)),(2,(pt (w.heap.size + 1) 0)),(3,(pt (w.heap.size + 2) 0)),(29,.bool (((r.ie:Int) == q.epoch) && (((r.is:Int) == q.seq) && true)))],(prepare_b1 r q w),[],z7⟩ ?_
    rcases Bool.eq_false_or_eq_true ((((r.ie:Int) == q.epoch) && (((r.is:Int) == q.seq) && true))) with d4 | d4
    ·skip
     refine hgE 8 prepare_n2 [1,2,3,42] [eD d4] [(w.heap.size,0,10)] [.ops [1,0,0,1,1,1,1,1,0,0] [2,3,4,5,6],.code [1,0,0,1,1,1,1,1,0,1],.blk 0,.code [1,1]] ⟨[(1,(pt w.heap.size 0)),(2,(pt (w.heap.size + 1) 0)),(3,(pt (w.heap.size + 2) 0)),(42,.agg (List.toArray (prepare_v4 r)))],(prepare_b1 r q w),[],z7⟩ ?_
     refine hcp (.tuple #[.agg (List.toArray (prepare_v4 r)),.agg (List.toArray (prepare_v5 r))]) 78 [.agg (List.toArray (prepare_v4 r)),i6 1] (some 43) [] tI rfl (fun wx hm=>say_any r.used r.fence r.de r.ds r.block r.op r.ie r.is r.mask r.staged 1 wx) fun z12 hz12=>?_
     replace hz12:z7 ≤ z12:=hz12
     refine hgE 8 prepare_n1 [1,2,3] [] [(w.heap.size + 1,0,10),(w.heap.size + 2,0,13)] [.code [1,0,0,1,1,1,1,1,0,1],.blk 0,.code [1,1]] ⟨[(1,(pt w.heap.size 0)),(2,(pt (w.heap.size + 1) 0)),(3,(pt (w.heap.size + 2) 0))],(prepare_b2 r q w),[],z12⟩ ?_
     refine hrt [[⟨false,1,0,10⟩],[⟨false,2,0,13⟩]] [.agg (List.toArray (prepare_v4 r)),.agg (List.toArray (prepare_v5 r))] [(w.heap.size + 1,0,10),(w.heap.size + 2,0,13)] ?_
     intro wx hm
     have e:prepareM r q = sayM r 1:=by
      unfold prepareM tagEq
      rw [d1,cond_false,d2,cond_true,d3,cond_true,d4,cond_true]
     exact ⟨Eq.trans (b:=Ending.returned (outV (sayM r 1))) rfl (congrArg (fun p=>Ending.returned (outV p)) e.symm),hm.kept⟩
    ·skip
     refine hgE 16 [oh0,oh0,oh0,(oA 0 5 1),oh0,oh1,oh0,(oA 0 0 10)] [1,2,3,51] [eD d4,eD d3] [(w.heap.size,5,1),(w.heap.size,0,10)] [.ops [1,0,0,1,1,1,1,1,1,1,0,0] [2,3,4,5,6],.code [1,0,0,1,1,1,1,1,1,1,0,1],.blk 0,.code [1,1]] ⟨[(1,(pt w.heap.size 0)),(2,(pt (w.heap.size + 1) 0)),(3,(pt (w.heap.size + 2) 0)),(51,.agg (List.toArray (prepare_v4 r)))],(prepare_b1 r q w),[],z7⟩ ?_
     refine hcp (.tuple #[.agg (List.toArray (prepare_v4 r)),.agg (List.toArray (prepare_v6 r))]) 78 [.agg (List.toArray (prepare_v4 r)),i6 3] (some 52) [] tI rfl (fun wx hm=>say_any r.used r.fence r.de r.ds r.block r.op r.ie r.is r.mask r.staged 3 wx) fun z16 hz16=>?_
     replace hz16:z7 ≤ z16:=hz16
     refine hgE 8 prepare_n1 [1,2,3] [] [(w.heap.size + 1,0,10),(w.heap.size + 2,0,13)] [.code [1,0,0,1,1,1,1,1,1,1,0,1],.blk 0,.code [1,1]] ⟨[(1,(pt w.heap.size 0)),(2,(pt (w.heap.size + 1) 0)),(3,(pt (w.heap.size + 2) 0))],[⟨w.heap.size,90,true,(prepare_v1 r q)⟩,⟨w.heap.size + 1,43,true,(prepare_v4 r)⟩,⟨w.heap.size + 2,45,true,(prepare_v6 r)⟩],[],z16⟩ ?_
     refine hrt [[⟨false,1,0,10⟩],[⟨false,2,0,13⟩]] [.agg (List.toArray (prepare_v4 r)),.agg (List.toArray (prepare_v6 r))] [(w.heap.size + 1,0,10),(w.heap.size + 2,0,13)] ?_
     intro wx hm
     have e:prepareM r q = sayM r 3:=by
      unfold prepareM tagEq
      rw [d1,cond_false,d2,cond_true,d3,cond_true,d4,cond_false]
     exact ⟨Eq.trans (b:=Ending.returned (outV (sayM r 3))) rfl (congrArg (fun p=>Ending.returned (outV p)) e.symm),hm.kept⟩
   ·skip
    refine hgE 50 [oh0,oh0,oh0,oh0,oh0,oh0,⟨false,3,[]⟩,oh0,oh0,oh0,oh0,(oA 0 5 1),oh0,oh0,oh0,(oA 0 19 2),oh0,oh0,(oA 0 14 1),oh0,oh0,(oA 0 18 1),oh0,oh0,(oA 0 5 1),oh0,oh0,(oA 0 6 2),oh0,oh0,(oA 0 8 1),oh0,oh0,(oA 0 9 1),oh0,(oA 0 0 10)] [2,3,72] [eD d3,eD d3,eD d3,eD d3,eD d3,eD d3,eD d3,fF,eD d3] [(w.heap.size,5,1),(w.heap.size,19,2),(w.heap.size,14,1),(w.heap.size,18,1),(w.heap.size,5,1),(w.heap.size,6,2),(w.heap.size,8,1),(w.heap.size,9,1),(w.heap.size,0,10)] [.ops [1,1,1,0] [2,3,4,5,6],.code [1,1,1,1]] ⟨[(2,(pt (w.heap.size + 1) 0)),(3,(pt (w.heap.size + 2) 0)),(72,.agg (List.toArray (prepare_v7 r q)))],[⟨w.heap.size,90,true,(prepare_v8 r q)⟩,⟨w.heap.size + 1,43,true,(prepare_v2)⟩,⟨w.heap.size + 2,45,true,(prepare_v3)⟩],[],z7⟩ ?_
    refine hcp (.tuple #[.agg (List.toArray (prepare_v7 r q)),.agg (List.toArray (prepare_v5 r))]) 78 [.agg (List.toArray (prepare_v7 r q)),i6 1] (some 73) [] tI rfl (fun wx hm=>say_any r.used r.fence r.de r.ds r.block true q.epoch q.seq q.mask q.block 1 wx) fun z20 hz20=>?_
    replace hz20:z7 ≤ z20:=hz20
    refine hgE 8 prepare_n1 [2,3] [] [(w.heap.size + 1,0,10),(w.heap.size + 2,0,13)] [.code [1,1,1,1]] ⟨[(2,(pt (w.heap.size + 1) 0)),(3,(pt (w.heap.size + 2) 0))],[⟨w.heap.size,90,true,(prepare_v8 r q)⟩,⟨w.heap.size + 1,43,true,(prepare_v7 r q)⟩,⟨w.heap.size + 2,45,true,(prepare_v5 r)⟩],[],z20⟩ ?_
    refine hrt [[⟨false,1,0,10⟩],[⟨false,2,0,13⟩]] [.agg (List.toArray (prepare_v7 r q)),.agg (List.toArray (prepare_v5 r))] [(w.heap.size + 1,0,10),(w.heap.size + 2,0,13)] ?_
    intro wx hm
    have e:prepareM r q = sayM (openM r q) 1:=by
     unfold prepareM tagEq
     rw [d1,cond_false,d2,cond_true,d3,cond_false]
    exact ⟨Eq.trans (b:=Ending.returned (outV (sayM (openM r q) 1))) rfl (congrArg (fun p=>Ending.returned (outV p)) e.symm),hm.kept⟩
  ·skip
   refine hgE 8 prepare_n2 [1,2,3,25] [eD (nT d2)] [(w.heap.size,0,10)] [.ops [1,0,0,1,1,1,0,0] [2,3,4,5,6],.code [1,0,0,1,1,1,0,1],.blk 0,.code [1,1]] ⟨[(1,(pt w.heap.size 0)),(2,(pt (w.heap.size + 1) 0)),(3,(pt (w.heap.size + 2) 0)),(25,.agg (List.toArray (prepare_v4 r)))],(prepare_b1 r q w),[],z7⟩ ?_
   refine hcp (.tuple #[.agg (List.toArray (prepare_v4 r)),.agg (List.toArray (prepare_v9 r))]) 78 [.agg (List.toArray (prepare_v4 r)),i6 4] (some 26) [] tI rfl (fun wx hm=>say_any r.used r.fence r.de r.ds r.block r.op r.ie r.is r.mask r.staged 4 wx) fun z24 hz24=>?_
   replace hz24:z7 ≤ z24:=hz24
   refine hgE 8 prepare_n1 [1,2,3] [] [(w.heap.size + 1,0,10),(w.heap.size + 2,0,13)] [.code [1,0,0,1,1,1,0,1],.blk 0,.code [1,1]] ⟨[(1,(pt w.heap.size 0)),(2,(pt (w.heap.size + 1) 0)),(3,(pt (w.heap.size + 2) 0))],[⟨w.heap.size,90,true,(prepare_v1 r q)⟩,⟨w.heap.size + 1,43,true,(prepare_v4 r)⟩,⟨w.heap.size + 2,45,true,(prepare_v9 r)⟩],[],z24⟩ ?_
   refine hrt [[⟨false,1,0,10⟩],[⟨false,2,0,13⟩]] [.agg (List.toArray (prepare_v4 r)),.agg (List.toArray (prepare_v9 r))] [(w.heap.size + 1,0,10),(w.heap.size + 2,0,13)] ?_
   intro wx hm
   have e:prepareM r q = sayM r 4:=by
    unfold prepareM tagEq
    rw [d1,cond_false,d2,cond_false]
   exact ⟨Eq.trans (b:=Ending.returned (outV (sayM r 4))) rfl (congrArg (fun p=>Ending.returned (outV p)) e.symm),hm.kept⟩
def commit_v1 (r:RecM) (q:AskM):List Value:=(put_v1 r q)
def commit_v2:List Value:=say_v4
def commit_v3:List Value:=say_v3
def commit_v4 (r:RecM):List Value:=(put_v4 r)
def commit_v5 (r:RecM):List Value:=[.bool r.used,i6 r.fence,i6 r.ie,i6 r.is,sT r.staged,.bool false,i6 0,i6 0,i6 0,sT ⟨#[]⟩]
def commit_v6 (r:RecM):List Value:=(put_v5 r)
def commit_v7 (r:RecM):List Value:=(put_v7 r)
def commit_n1:List OH:=[oh0,oh0,⟨false,0,[⟨false,1,0,10⟩]⟩,⟨false,0,[⟨false,2,0,13⟩]⟩]
def commit_n2:List OH:=[oh1,oh0,⟨false,0,[⟨false,0,0,10⟩]⟩]
@[simp] def commit_b1 (r:RecM) (q:AskM) (w:World):List Bk:=[⟨w.heap.size,90,true,(commit_v1 r q)⟩,⟨w.heap.size + 1,43,true,(commit_v2)⟩,⟨w.heap.size + 2,45,true,(commit_v3)⟩]
@[simp] def commit_b2 (r:RecM) (q:AskM) (w:World):List Bk:=[⟨w.heap.size,90,true,(commit_v1 r q)⟩,⟨w.heap.size + 1,43,true,(commit_v4 r)⟩,⟨w.heap.size + 2,45,true,(commit_v6 r)⟩]
@[simp] def commit_b3 (r:RecM) (q:AskM) (w:World):List Bk:=[⟨w.heap.size,90,true,(commit_v1 r q)⟩,⟨w.heap.size + 1,43,true,(commit_v4 r)⟩,⟨w.heap.size + 2,45,true,(commit_v7 r)⟩]
set_option maxRecDepth 100000 in
set_option maxHeartbeats 4000000 in
theorem commit_any (r:RecM) (q:AskM) (w:World) :
  Calls Try.prog 65 #[.agg #[.bool r.used,.int .i64 r.fence,.int .i64 r.de,.int .i64 r.ds,.string r.block,.bool r.op,.int .i64 r.ie,.int .i64 r.is,.int .i64 r.mask,.string r.staged,.int .i64 q.kind,.int .i64 q.stripe,.int .i64 q.epoch,.int .i64 q.seq,.int .i64 q.mask,.int .i64 q.node,.int .i64 q.oe,.int .i64 q.os,.string q.block,.int .i64 q.epoch,.int .i64 q.seq]] w (RetK (outV (commitM r q)) w):=by
 refine calls_of_holds (S:=(fun _=>False)) (l:=[.agg (List.toArray (commit_v1 r q))]) (n:=37) Try.func65 (body_of (by kernel_rfl)) rfl (by simp) (MemOk.none w _) ?_
 refine hgE 16 [oh0,oh0,oh0,oh0,oh0,(oA 0 5 1),oh0] [1,2,3,7] [] [(w.heap.size,5,1)] [.ops [1,0,0] [4,5,6,7,8,9,10],.code [1,0,1],.code [1,1]] ⟨[(1,(pt w.heap.size 0)),(2,(pt (w.heap.size + 1) 0)),(3,(pt (w.heap.size + 2) 0)),(7,.bool r.op)],(commit_b1 r q w),[],w.heap.size + 3⟩ ?_
 rcases Bool.eq_false_or_eq_true (r.op) with d1 | d1
 ·skip
  refine hgE 11 [oh1,oh1,⟨true,0,[⟨false,0,6,2⟩]⟩,oh1,⟨true,0,[⟨false,0,19,2⟩]⟩,⟨true,1,[]⟩,oh3] [1,2,3,14] [eD d1,eD d1,eD d1,eD d1,eD d1,eD d1,vV,eD d1] [(w.heap.size,6,2),(w.heap.size,19,2)] [.code [1,0,1],.code [1,1]] ⟨[(1,(pt w.heap.size 0)),(2,(pt (w.heap.size + 1) 0)),(3,(pt (w.heap.size + 2) 0)),(14,.bool (((r.ie:Int) == q.epoch) && (((r.is:Int) == q.seq) && true)))],(commit_b1 r q w),[],w.heap.size + 3⟩ ?_
  rcases Bool.eq_false_or_eq_true ((((r.ie:Int) == q.epoch) && (((r.is:Int) == q.seq) && true))) with d2 | d2
  ·skip
   refine hgE 8 commit_n2 [1,2,3,16] [eD d2] [(w.heap.size,0,10)] [.ops [1,0,1,0,0] [2,3,4,5,6,7],.code [1,0,1,0,1],.code [1,1]] ⟨[(1,(pt w.heap.size 0)),(2,(pt (w.heap.size + 1) 0)),(3,(pt (w.heap.size + 2) 0)),(16,.agg (List.toArray (commit_v4 r)))],(commit_b1 r q w),[],w.heap.size + 3⟩ ?_
   refine hcp (.agg (List.toArray (commit_v5 r))) 80 [.agg (List.toArray (commit_v4 r))] (some 17) [] tI rfl (fun wx hm=>done_any r.used r.fence r.de r.ds r.block r.op r.ie r.is r.mask r.staged wx) fun z4 hz4=>?_
   replace hz4:w.heap.size + 3 ≤ z4:=hz4
   refine hgE 3 [] [1,2,3,17] [] [] [.ops [1,0,1,0,0] [3,4,5,6,7],.code [1,0,1,0,1],.code [1,1]] ⟨[(1,(pt w.heap.size 0)),(2,(pt (w.heap.size + 1) 0)),(3,(pt (w.heap.size + 2) 0)),(17,.agg (List.toArray (commit_v5 r)))],(commit_b1 r q w),[],z4⟩ ?_
   refine hcp (.tuple #[.agg (List.toArray (commit_v5 r)),.agg (List.toArray (commit_v6 r))]) 78 [.agg (List.toArray (commit_v5 r)),i6 1] (some 18) [] tI rfl (fun wx hm=>say_any r.used r.fence r.ie r.is r.staged false 0 0 0 (⟨#[]⟩) 1 wx) fun z6 hz6=>?_
   replace hz6:z4 ≤ z6:=hz6
   refine hgE 8 commit_n1 [1,2,3] [] [(w.heap.size + 1,0,10),(w.heap.size + 2,0,13)] [.code [1,0,1,0,1],.code [1,1]] ⟨[(1,(pt w.heap.size 0)),(2,(pt (w.heap.size + 1) 0)),(3,(pt (w.heap.size + 2) 0))],[⟨w.heap.size,90,true,(commit_v1 r q)⟩,⟨w.heap.size + 1,43,true,(commit_v5 r)⟩,⟨w.heap.size + 2,45,true,(commit_v6 r)⟩],[],z6⟩ ?_
   refine hrt [[⟨false,1,0,10⟩],[⟨false,2,0,13⟩]] [.agg (List.toArray (commit_v5 r)),.agg (List.toArray (commit_v6 r))] [(w.heap.size + 1,0,10),(w.heap.size + 2,0,13)] ?_
   intro wx hm
   have e:commitM r q = sayM (doneM r) 1:=by
    unfold commitM tagEq
    rw [d1,cond_true,d2,cond_true]
   exact ⟨Eq.trans (b:=Ending.returned (outV (sayM (doneM r) 1))) rfl (congrArg (fun p=>Ending.returned (outV p)) e.symm),hm.kept⟩
  ·skip
   refine hgE 15 [oh0,oh0,oh0,(oA 0 2 2),oh0,(oA 0 19 2),oh2] [1,2,3,26] [eD d2,vV] [(w.heap.size,2,2),(w.heap.size,19,2)] [.code [1,1,0,1],.code [1,1,1]] ⟨[(1,(pt w.heap.size 0)),(2,(pt (w.heap.size + 1) 0)),(3,(pt (w.heap.size + 2) 0)),(26,.bool (((r.de:Int) == q.epoch) && (((r.ds:Int) == q.seq) && true)))],(commit_b1 r q w),[],w.heap.size + 3⟩ ?_
   rcases Bool.eq_false_or_eq_true ((((r.de:Int) == q.epoch) && (((r.ds:Int) == q.seq) && true))) with d3 | d3
   ·skip
    refine hgE 8 commit_n2 [1,2,3,28] [eD d3] [(w.heap.size,0,10)] [.ops [1,1,0,1,0,0] [2,3,4,5,6],.code [1,1,0,1,0,1],.code [1,1,1]] ⟨[(1,(pt w.heap.size 0)),(2,(pt (w.heap.size + 1) 0)),(3,(pt (w.heap.size + 2) 0)),(28,.agg (List.toArray (commit_v4 r)))],(commit_b1 r q w),[],w.heap.size + 3⟩ ?_
    refine hcp (.tuple #[.agg (List.toArray (commit_v4 r)),.agg (List.toArray (commit_v6 r))]) 78 [.agg (List.toArray (commit_v4 r)),i6 1] (some 29) [] tI rfl (fun wx hm=>say_any r.used r.fence r.de r.ds r.block r.op r.ie r.is r.mask r.staged 1 wx) fun z11 hz11=>?_
    replace hz11:w.heap.size + 3 ≤ z11:=hz11
    refine hgE 8 commit_n1 [1,2,3] [] [(w.heap.size + 1,0,10),(w.heap.size + 2,0,13)] [.code [1,1,0,1,0,1],.code [1,1,1]] ⟨[(1,(pt w.heap.size 0)),(2,(pt (w.heap.size + 1) 0)),(3,(pt (w.heap.size + 2) 0))],(commit_b2 r q w),[],z11⟩ ?_
    refine hrt [[⟨false,1,0,10⟩],[⟨false,2,0,13⟩]] [.agg (List.toArray (commit_v4 r)),.agg (List.toArray (commit_v6 r))] [(w.heap.size + 1,0,10),(w.heap.size + 2,0,13)] ?_
    intro wx hm
    have e:commitM r q = sayM r 1:=by
     unfold commitM tagEq
     rw [d1,cond_true,d2,cond_false,d3,cond_true]
    exact ⟨Eq.trans (b:=Ending.returned (outV (sayM r 1))) rfl (congrArg (fun p=>Ending.returned (outV p)) e.symm),hm.kept⟩
   ·skip
    refine hgE 9 [oh0,oh0,(oA 0 0 10)] [2,3,33] [eD d3] [(w.heap.size,0,10)] [.ops [1,1,1,0] [2,3,4,5,6],.code [1,1,1,1]] ⟨[(2,(pt (w.heap.size + 1) 0)),(3,(pt (w.heap.size + 2) 0)),(33,.agg (List.toArray (commit_v4 r)))],(commit_b1 r q w),[],w.heap.size + 3⟩ ?_
    refine hcp (.tuple #[.agg (List.toArray (commit_v4 r)),.agg (List.toArray (commit_v7 r))]) 78 [.agg (List.toArray (commit_v4 r)),i6 4] (some 34) [] tI rfl (fun wx hm=>say_any r.used r.fence r.de r.ds r.block r.op r.ie r.is r.mask r.staged 4 wx) fun z15 hz15=>?_
    replace hz15:w.heap.size + 3 ≤ z15:=hz15
    refine hgE 8 commit_n1 [2,3] [] [(w.heap.size + 1,0,10),(w.heap.size + 2,0,13)] [.code [1,1,1,1]] ⟨[(2,(pt (w.heap.size + 1) 0)),(3,(pt (w.heap.size + 2) 0))],(commit_b3 r q w),[],z15⟩ ?_
    refine hrt [[⟨false,1,0,10⟩],[⟨false,2,0,13⟩]] [.agg (List.toArray (commit_v4 r)),.agg (List.toArray (commit_v7 r))] [(w.heap.size + 1,0,10),(w.heap.size + 2,0,13)] ?_
    intro wx hm
    have e:commitM r q = sayM r 4:=by
     unfold commitM tagEq
     rw [d1,cond_true,d2,cond_false,d3,cond_false]
    exact ⟨Eq.trans (b:=Ending.returned (outV (sayM r 4))) rfl (congrArg (fun p=>Ending.returned (outV p)) e.symm),hm.kept⟩
 ·skip
  refine hgE 23 [oh0,oh0,oh0,oh0,oh0,oh0,⟨false,3,[]⟩,oh0,oh0,oh0,(oA 0 2 2),oh0,(oA 0 19 2),oh2] [1,2,3,26] [eD d1,eD d1,eD d1,eD d1,eD d1,eD d1,eD d1,fF,vV] [(w.heap.size,2,2),(w.heap.size,19,2)] [.code [1,1,0,1],.code [1,1,1]] ⟨[(1,(pt w.heap.size 0)),(2,(pt (w.heap.size + 1) 0)),(3,(pt (w.heap.size + 2) 0)),(26,.bool (((r.de:Int) == q.epoch) && (((r.ds:Int) == q.seq) && true)))],(commit_b1 r q w),[],w.heap.size + 3⟩ ?_
  rcases Bool.eq_false_or_eq_true ((((r.de:Int) == q.epoch) && (((r.ds:Int) == q.seq) && true))) with d4 | d4
  ·skip
   refine hgE 8 commit_n2 [1,2,3,28] [eD d4] [(w.heap.size,0,10)] [.ops [1,1,0,1,0,0] [2,3,4,5,6],.code [1,1,0,1,0,1],.code [1,1,1]] ⟨[(1,(pt w.heap.size 0)),(2,(pt (w.heap.size + 1) 0)),(3,(pt (w.heap.size + 2) 0)),(28,.agg (List.toArray (commit_v4 r)))],(commit_b1 r q w),[],w.heap.size + 3⟩ ?_
   refine hcp (.tuple #[.agg (List.toArray (commit_v4 r)),.agg (List.toArray (commit_v6 r))]) 78 [.agg (List.toArray (commit_v4 r)),i6 1] (some 29) [] tI rfl (fun wx hm=>say_any r.used r.fence r.de r.ds r.block r.op r.ie r.is r.mask r.staged 1 wx) fun z20 hz20=>?_
   replace hz20:w.heap.size + 3 ≤ z20:=hz20
   refine hgE 8 commit_n1 [1,2,3] [] [(w.heap.size + 1,0,10),(w.heap.size + 2,0,13)] [.code [1,1,0,1,0,1],.code [1,1,1]] ⟨[(1,(pt w.heap.size 0)),(2,(pt (w.heap.size + 1) 0)),(3,(pt (w.heap.size + 2) 0))],(commit_b2 r q w),[],z20⟩ ?_
   refine hrt [[⟨false,1,0,10⟩],[⟨false,2,0,13⟩]] [.agg (List.toArray (commit_v4 r)),.agg (List.toArray (commit_v6 r))] [(w.heap.size + 1,0,10),(w.heap.size + 2,0,13)] ?_
   intro wx hm
   have e:commitM r q = sayM r 1:=by
    unfold commitM tagEq
    rw [d1,cond_false,d4,cond_true]
   exact ⟨Eq.trans (b:=Ending.returned (outV (sayM r 1))) rfl (congrArg (fun p=>Ending.returned (outV p)) e.symm),hm.kept⟩
  ·skip
   refine hgE 9 [oh0,oh0,(oA 0 0 10)] [2,3,33] [eD d4] [(w.heap.size,0,10)] [.ops [1,1,1,0] [2,3,4,5,6],.code [1,1,1,1]] ⟨[(2,(pt (w.heap.size + 1) 0)),(3,(pt (w.heap.size + 2) 0)),(33,.agg (List.toArray (commit_v4 r)))],(commit_b1 r q w),[],w.heap.size + 3⟩ ?_
   refine hcp (.tuple #[.agg (List.toArray (commit_v4 r)),.agg (List.toArray (commit_v7 r))]) 78 [.agg (List.toArray (commit_v4 r)),i6 4] (some 34) [] tI rfl (fun wx hm=>say_any r.used r.fence r.de r.ds r.block r.op r.ie r.is r.mask r.staged 4 wx) fun z24 hz24=>?_
   replace hz24:w.heap.size + 3 ≤ z24:=hz24
   refine hgE 8 commit_n1 [2,3] [] [(w.heap.size + 1,0,10),(w.heap.size + 2,0,13)] [.code [1,1,1,1]] ⟨[(2,(pt (w.heap.size + 1) 0)),(3,(pt (w.heap.size + 2) 0))],(commit_b3 r q w),[],z24⟩ ?_
   refine hrt [[⟨false,1,0,10⟩],[⟨false,2,0,13⟩]] [.agg (List.toArray (commit_v4 r)),.agg (List.toArray (commit_v7 r))] [(w.heap.size + 1,0,10),(w.heap.size + 2,0,13)] ?_
   intro wx hm
   have e:commitM r q = sayM r 4:=by
    unfold commitM tagEq
    rw [d1,cond_false,d4,cond_false]
   exact ⟨Eq.trans (b:=Ending.returned (outV (sayM r 4))) rfl (congrArg (fun p=>Ending.returned (outV p)) e.symm),hm.kept⟩
def settle_v1 (r:RecM) (q:AskM):List Value:=(put_v1 r q)
def settle_v2:List Value:=say_v4
def settle_v3:List Value:=say_v3
def settle_v4 (r:RecM):List Value:=(put_v4 r)
def settle_v5 (r:RecM):List Value:=(commit_v5 r)
def settle_v6 (r:RecM):List Value:=(put_v5 r)
def settle_v7 (r:RecM):List Value:=((((commit_v5 r).set 2 (i6 r.de)).set 3 (i6 r.ds)).set 4 (sT r.block))
def settle_n1:List OH:=[oh0,oh0,⟨false,0,[⟨false,1,0,10⟩]⟩,⟨false,0,[⟨false,2,0,13⟩]⟩]
@[simp] def settle_b1 (r:RecM) (q:AskM) (w:World):List Bk:=[⟨w.heap.size,90,true,(settle_v1 r q)⟩,⟨w.heap.size + 1,43,true,(settle_v2)⟩,⟨w.heap.size + 2,45,true,(settle_v3)⟩]
@[simp] def settle_b2 (r:RecM) (q:AskM) (w:World):List Bk:=[⟨w.heap.size,90,true,(settle_v1 r q)⟩,⟨w.heap.size + 1,43,true,(settle_v4 r)⟩,⟨w.heap.size + 2,45,true,(settle_v6 r)⟩]
set_option maxRecDepth 100000 in
set_option maxHeartbeats 4000000 in
theorem settle_any (r:RecM) (q:AskM) (w:World) :
  Calls Try.prog 66 #[.agg #[.bool r.used,.int .i64 r.fence,.int .i64 r.de,.int .i64 r.ds,.string r.block,.bool r.op,.int .i64 r.ie,.int .i64 r.is,.int .i64 r.mask,.string r.staged,.int .i64 q.kind,.int .i64 q.stripe,.int .i64 q.epoch,.int .i64 q.seq,.int .i64 q.mask,.int .i64 q.node,.int .i64 q.oe,.int .i64 q.os,.string q.block,.int .i64 q.epoch,.int .i64 q.seq]] w (RetK (outV (settleM r q)) w):=by
 refine calls_of_holds (S:=(fun _=>False)) (l:=[.agg (List.toArray (settle_v1 r q))]) (n:=38) Try.func66 (body_of (by kernel_rfl)) rfl (by simp) (MemOk.none w _) ?_
 refine hgE 17 [oh0,oh0,oh0,oh0,oh0,(oA 0 5 1),oh0,oh0] [1,2,3,8] [] [(w.heap.size,5,1)] [.ops [1,0,0] [5,6,7,8,9,10,11,12],.code [1,0,1],.code [1,1]] ⟨[(1,(pt w.heap.size 0)),(2,(pt (w.heap.size + 1) 0)),(3,(pt (w.heap.size + 2) 0)),(8,.bool (!r.op))],(settle_b1 r q w),[],w.heap.size + 3⟩ ?_
 rcases Bool.eq_false_or_eq_true (r.op) with d1 | d1
 ·skip
  refine hgE 12 [oh0,oh0,(oA 0 6 2),oh0,oh0,(oA 0 16 2),oh2,⟨false,3,[]⟩] [1,2,3,16] [eD (nF d1),eD (nF d1),eD (nF d1),eD (nF d1),eD (nF d1),eD (nF d1),eD (nF d1),vV,eD (nF d1)] [(w.heap.size,6,2),(w.heap.size,16,2)] [.code [1,0,1],.code [1,1]] ⟨[(1,(pt w.heap.size 0)),(2,(pt (w.heap.size + 1) 0)),(3,(pt (w.heap.size + 2) 0)),(16,.bool (!((((r.ie:Int) == q.oe) && (((r.is:Int) == q.os) && true)))))],(settle_b1 r q w),[],w.heap.size + 3⟩ ?_
  rcases Bool.eq_false_or_eq_true ((((r.ie:Int) == q.oe) && (((r.is:Int) == q.os) && true))) with d2 | d2
  ·skip
   refine hgE 13 [oh0,oh0,oh0,(oA 0 14 1),oh0] [1,2,3,25] [eD (nF d2)] [(w.heap.size,14,1)] [.code [1,1,0,1],.code [1,1,1]] ⟨[(1,(pt w.heap.size 0)),(2,(pt (w.heap.size + 1) 0)),(3,(pt (w.heap.size + 2) 0)),(25,.bool (q.mask == 1))],(settle_b1 r q w),[],w.heap.size + 3⟩ ?_
   rcases Bool.eq_false_or_eq_true (q.mask == 1) with d3 | d3
   ·skip
    refine hgE 8 [oh1,oh0,(oA 0 0 10)] [1,2,3,27] [eD d3] [(w.heap.size,0,10)] [.ops [1,1,0,1,0,0] [2,3,4,5,6,7],.code [1,1,0,1,0,1],.code [1,1,1]] ⟨[(1,(pt w.heap.size 0)),(2,(pt (w.heap.size + 1) 0)),(3,(pt (w.heap.size + 2) 0)),(27,.agg (List.toArray (settle_v4 r)))],(settle_b1 r q w),[],w.heap.size + 3⟩ ?_
    refine hcp (.agg (List.toArray (settle_v5 r))) 80 [.agg (List.toArray (settle_v4 r))] (some 28) [] tI rfl (fun wx hm=>done_any r.used r.fence r.de r.ds r.block r.op r.ie r.is r.mask r.staged wx) fun z5 hz5=>?_
    replace hz5:w.heap.size + 3 ≤ z5:=hz5
    refine hgE 3 [] [1,2,3,28] [] [] [.ops [1,1,0,1,0,0] [3,4,5,6,7],.code [1,1,0,1,0,1],.code [1,1,1]] ⟨[(1,(pt w.heap.size 0)),(2,(pt (w.heap.size + 1) 0)),(3,(pt (w.heap.size + 2) 0)),(28,.agg (List.toArray (settle_v5 r)))],(settle_b1 r q w),[],z5⟩ ?_
    refine hcp (.tuple #[.agg (List.toArray (settle_v5 r)),.agg (List.toArray (settle_v6 r))]) 78 [.agg (List.toArray (settle_v5 r)),i6 1] (some 29) [] tI rfl (fun wx hm=>say_any r.used r.fence r.ie r.is r.staged false 0 0 0 (⟨#[]⟩) 1 wx) fun z7 hz7=>?_
    replace hz7:z5 ≤ z7:=hz7
    refine hgE 8 settle_n1 [1,2,3] [] [(w.heap.size + 1,0,10),(w.heap.size + 2,0,13)] [.code [1,1,0,1,0,1],.code [1,1,1]] ⟨[(1,(pt w.heap.size 0)),(2,(pt (w.heap.size + 1) 0)),(3,(pt (w.heap.size + 2) 0))],[⟨w.heap.size,90,true,(settle_v1 r q)⟩,⟨w.heap.size + 1,43,true,(settle_v5 r)⟩,⟨w.heap.size + 2,45,true,(settle_v6 r)⟩],[],z7⟩ ?_
    refine hrt [[⟨false,1,0,10⟩],[⟨false,2,0,13⟩]] [.agg (List.toArray (settle_v5 r)),.agg (List.toArray (settle_v6 r))] [(w.heap.size + 1,0,10),(w.heap.size + 2,0,13)] ?_
    intro wx hm
    have e:settleM r q = sayM (doneM r) 1:=by
     unfold settleM tagEq
     rw [d1,cond_true,d2,cond_true,d3,cond_true]
    exact ⟨Eq.trans (b:=Ending.returned (outV (sayM (doneM r) 1))) rfl (congrArg (fun p=>Ending.returned (outV p)) e.symm),hm.kept⟩
   ·skip
    refine hgE 9 [oh0,oh0,(oA 0 0 10)] [2,3,33] [eD d3] [(w.heap.size,0,10)] [.ops [1,1,1,0] [2,3,4,5,6,7],.code [1,1,1,1]] ⟨[(2,(pt (w.heap.size + 1) 0)),(3,(pt (w.heap.size + 2) 0)),(33,.agg (List.toArray (settle_v4 r)))],(settle_b1 r q w),[],w.heap.size + 3⟩ ?_
    refine hcp (.agg (List.toArray (settle_v7 r))) 81 [.agg (List.toArray (settle_v4 r))] (some 34) [] tI rfl (fun wx hm=>closed_any r.used r.fence r.de r.ds r.block r.op r.ie r.is r.mask r.staged wx) fun z11 hz11=>?_
    replace hz11:w.heap.size + 3 ≤ z11:=hz11
    refine hgE 3 [] [2,3,34] [] [] [.ops [1,1,1,0] [3,4,5,6,7],.code [1,1,1,1]] ⟨[(2,(pt (w.heap.size + 1) 0)),(3,(pt (w.heap.size + 2) 0)),(34,.agg (List.toArray (settle_v7 r)))],(settle_b1 r q w),[],z11⟩ ?_
    refine hcp (.tuple #[.agg (List.toArray (settle_v7 r)),.agg (List.toArray (settle_v6 r))]) 78 [.agg (List.toArray (settle_v7 r)),i6 1] (some 35) [] tI rfl (fun wx hm=>say_any r.used r.fence r.de r.ds r.block false 0 0 0 (⟨#[]⟩) 1 wx) fun z13 hz13=>?_
    replace hz13:z11 ≤ z13:=hz13
    refine hgE 8 settle_n1 [2,3] [] [(w.heap.size + 1,0,10),(w.heap.size + 2,0,13)] [.code [1,1,1,1]] ⟨[(2,(pt (w.heap.size + 1) 0)),(3,(pt (w.heap.size + 2) 0))],[⟨w.heap.size,90,true,(settle_v1 r q)⟩,⟨w.heap.size + 1,43,true,(settle_v7 r)⟩,⟨w.heap.size + 2,45,true,(settle_v6 r)⟩],[],z13⟩ ?_
    refine hrt [[⟨false,1,0,10⟩],[⟨false,2,0,13⟩]] [.agg (List.toArray (settle_v7 r)),.agg (List.toArray (settle_v6 r))] [(w.heap.size + 1,0,10),(w.heap.size + 2,0,13)] ?_
    intro wx hm
    have e:settleM r q = sayM (closedM r) 1:=by
     unfold settleM tagEq
     rw [d1,cond_true,d2,cond_true,d3,cond_false]
    exact ⟨Eq.trans (b:=Ending.returned (outV (sayM (closedM r) 1))) rfl (congrArg (fun p=>Ending.returned (outV p)) e.symm),hm.kept⟩
  ·skip
   refine hgE 8 [oh1,oh0,(oA 0 0 10)] [1,2,3,18] [eD (nT d2)] [(w.heap.size,0,10)] [.ops [1,0,1,0,0] [2,3,4,5,6],.code [1,0,1,0,1],.code [1,1]] ⟨[(1,(pt w.heap.size 0)),(2,(pt (w.heap.size + 1) 0)),(3,(pt (w.heap.size + 2) 0)),(18,.agg (List.toArray (settle_v4 r)))],(settle_b1 r q w),[],w.heap.size + 3⟩ ?_
   refine hcp (.tuple #[.agg (List.toArray (settle_v4 r)),.agg (List.toArray (settle_v6 r))]) 78 [.agg (List.toArray (settle_v4 r)),i6 1] (some 19) [] tI rfl (fun wx hm=>say_any r.used r.fence r.de r.ds r.block r.op r.ie r.is r.mask r.staged 1 wx) fun z17 hz17=>?_
   replace hz17:w.heap.size + 3 ≤ z17:=hz17
   refine hgE 8 settle_n1 [1,2,3] [] [(w.heap.size + 1,0,10),(w.heap.size + 2,0,13)] [.code [1,0,1,0,1],.code [1,1]] ⟨[(1,(pt w.heap.size 0)),(2,(pt (w.heap.size + 1) 0)),(3,(pt (w.heap.size + 2) 0))],(settle_b2 r q w),[],z17⟩ ?_
   refine hrt [[⟨false,1,0,10⟩],[⟨false,2,0,13⟩]] [.agg (List.toArray (settle_v4 r)),.agg (List.toArray (settle_v6 r))] [(w.heap.size + 1,0,10),(w.heap.size + 2,0,13)] ?_
   intro wx hm
   have e:settleM r q = sayM r 1:=by
    unfold settleM tagEq
    rw [d1,cond_true,d2,cond_false]
   exact ⟨Eq.trans (b:=Ending.returned (outV (sayM r 1))) rfl (congrArg (fun p=>Ending.returned (outV p)) e.symm),hm.kept⟩
 ·skip
  refine hgE 17 [oh1,oh1,oh1,oh1,oh1,oh1,oh1,oh3,oh1,oh0,(oA 0 0 10)] [1,2,3,18] [eD (nT d1),eD (nT d1),eD (nT d1),eD (nT d1),eD (nT d1),eD (nT d1),eD (nT d1),eD (nT d1),tT] [(w.heap.size,0,10)] [.ops [1,0,1,0,0] [2,3,4,5,6],.code [1,0,1,0,1],.code [1,1]] ⟨[(1,(pt w.heap.size 0)),(2,(pt (w.heap.size + 1) 0)),(3,(pt (w.heap.size + 2) 0)),(18,.agg (List.toArray (settle_v4 r)))],(settle_b1 r q w),[],w.heap.size + 3⟩ ?_
  refine hcp (.tuple #[.agg (List.toArray (settle_v4 r)),.agg (List.toArray (settle_v6 r))]) 78 [.agg (List.toArray (settle_v4 r)),i6 1] (some 19) [] tI rfl (fun wx hm=>say_any r.used r.fence r.de r.ds r.block r.op r.ie r.is r.mask r.staged 1 wx) fun z21 hz21=>?_
  replace hz21:w.heap.size + 3 ≤ z21:=hz21
  refine hgE 8 settle_n1 [1,2,3] [] [(w.heap.size + 1,0,10),(w.heap.size + 2,0,13)] [.code [1,0,1,0,1],.code [1,1]] ⟨[(1,(pt w.heap.size 0)),(2,(pt (w.heap.size + 1) 0)),(3,(pt (w.heap.size + 2) 0))],(settle_b2 r q w),[],z21⟩ ?_
  refine hrt [[⟨false,1,0,10⟩],[⟨false,2,0,13⟩]] [.agg (List.toArray (settle_v4 r)),.agg (List.toArray (settle_v6 r))] [(w.heap.size + 1,0,10),(w.heap.size + 2,0,13)] ?_
  intro wx hm
  have e:settleM r q = sayM r 1:=by
   unfold settleM tagEq
   rw [d1,cond_false]
  exact ⟨Eq.trans (b:=Ending.returned (outV (sayM r 1))) rfl (congrArg (fun p=>Ending.returned (outV p)) e.symm),hm.kept⟩
end Go.Proofs.Ytfiheghjhgnblaa
