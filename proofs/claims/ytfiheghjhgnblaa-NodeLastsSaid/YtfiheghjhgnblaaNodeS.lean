import Derived.Test.YtfiheghjhgnblaaNode10
import Derived.Test.YtfiheghjhgnblaaApply9
import Derived.Test.YtfiheghjhgnblaaPickZ
import Derived.Test.YtfiheghjhgnblaaEngI
namespace Go.Proofs.Ytfiheghjhgnblaa
open Go.RowKit
def nsb_v1 (q:AskM):List Value:=[i6 q.kind,i6 q.stripe,i6 q.epoch,i6 q.seq,i6 q.mask,i6 q.node,i6 q.oe,i6 q.os,sT q.block]
def nsb_v2:List Value:=rp 3 (.int .i64 0) ++ [.bool false] ++ rp 3 (.int .i64 0) ++ [.string ⟨#[]⟩,.bool false] ++ rp 3 (.int .i64 0) ++ [.string ⟨#[]⟩]
def nsb_v3:List Value:=(nsb_v2.set 0 (.int .i64 6))
@[simp] def nsb_b1 (st:Int) (q:AskM) (pb:Nat) (sb:Nat) (nb:Nat) (w:World):List Bk:=[⟨sb,82,false,[(pt pb 0),i6 st]⟩,⟨nb,69,false,[(pt sb 0),i6 st]⟩,⟨w.heap.size,35,true,(nsb_v1 q)⟩,⟨w.heap.size + 1,45,true,(nsb_v2)⟩]
theorem nsb_q2 (st:Int) (q:AskM) (pb:Nat) (sb:Nat) (nb:Nat) (w:World):Out.prune [0,3,4,5,26] (qListG Try.prog 63 w (fun _=>False) (opsOf (getCode (bodyOf Try.f12) [1,0,0])) (opsOf (getCode (bodyOf Try.f12) [1,0,0])).toList ⟨[(0,(pt nb 0)),(3,(pt w.heap.size 0)),(4,(pt (w.heap.size + 1) 0)),(5,.bool false)],(nsb_b1 st q pb sb nb w),[],w.heap.size + 2⟩ [(false,.op (oA 2 0 9)),(false,.call (.bool true)),(false,.op oh0),(false,.op oh0),(false,.op oh0),(false,.op (oA 2 0 1)),(false,.op oh0),(false,.op ⟨false,3,[]⟩),(false,.op oh0),(true,.op oh0),(true,.op oh0),(true,.op oh0),(true,.op oh0),(true,.op oh0),(true,.op oh0),(true,.op oh0),(false,.op oh3)]) = some ⟨[∀ w',MemC w (fun _=>False) (nsb_b1 st q pb sb nb w) [] (w.heap.size + 2) w' → Calls Try.prog 25 #[.agg (List.toArray (nsb_v1 q))] w' (RetK (.bool true) w'),false = false,false = false,false = false,false = false,(decide ((q.kind:Int) > 7)) = true,(decide ((q.kind:Int) > 7)) = true,(decide ((q.kind:Int) > 7)) = true,(decide ((q.kind:Int) > 7)) = true,(decide ((q.kind:Int) > 7)) = true,(decide ((q.kind:Int) > 7)) = true,(decide ((q.kind:Int) > 7)) = true,(decide ((q.kind:Int) > 7)) = true],dupR [(w.heap.size,0,9),(w.heap.size,0,1)],⟨[(0,(pt nb 0)),(3,(pt w.heap.size 0)),(4,(pt (w.heap.size + 1) 0)),(5,.bool false),(26,.bool true)],(nsb_b1 st q pb sb nb w),[],w.heap.size + 2⟩⟩:=by kernel_rfl
set_option maxRecDepth 100000 in
set_option maxHeartbeats 4000000 in
theorem serve_bad (pb sb nb:Nat) (st:Int) (q:AskM) (hq:AskOk q) (h7:7 < q.kind) (hne:¬ sb = nb) (w:World) (hs:Blk w sb 82 [.pointer (some ⟨pb,0,none⟩),.int .i64 st]) (hnd:Blk w nb 69 [.pointer (some ⟨sb,0,none⟩),.int .i64 st]) :
  Calls Try.prog 12 #[.pointer (some ⟨nb,0,none⟩),.agg #[.int .i64 q.kind,.int .i64 q.stripe,.int .i64 q.epoch,.int .i64 q.seq,.int .i64 q.mask,.int .i64 q.node,.int .i64 q.oe,.int .i64 q.os,.string q.block]] w (RetK (.tuple #[.agg #[.int .i64 6,.int .i64 0,.int .i64 0,.bool false,.int .i64 0,.int .i64 0,.int .i64 0,.string ⟨#[]⟩,.bool false,.int .i64 0,.int .i64 0,.int .i64 0,.string ⟨#[]⟩],.bool true]) w):=by
 refine calls_of_holds (S:=(fun _=>False)) (l:=[(pt nb 0),.agg (List.toArray (nsb_v1 q))]) (n:=63) Try.func12 (body_of (by kernel_rfl)) rfl (by simp) (MemOk.start (bk:=[⟨sb,82,false,[(pt pb 0),.int .i64 st]⟩,⟨nb,69,false,[(pt sb 0),.int .i64 st]⟩]) (wn:=[]) (by simpa using ⟨hs,hnd⟩) (by simp) (by simp; exact hne) (by simp)) ?_
 refine hgE 11 [oh0,oh0,oh0] [0,3,4,5] [] [] [.code [1,0,0],.code [1,0,1],.code [1,1]] ⟨[(0,(pt nb 0)),(3,(pt w.heap.size 0)),(4,(pt (w.heap.size + 1) 0)),(5,.bool false)],(nsb_b1 st q pb sb nb w),[],w.heap.size + 2⟩ ?_
 refine holds_quietG _ _ (by kernel_rfl) (by kernel_rfl) (by kernel_rfl) (nsb_q2 st q pb sb nb w) ⟨(fun wx hm=>askRight q hq wx),rfl,rfl,rfl,rfl,decide_eq_true (by omega),decide_eq_true (by omega),decide_eq_true (by omega),decide_eq_true (by omega),decide_eq_true (by omega),decide_eq_true (by omega),decide_eq_true (by omega),decide_eq_true (by omega),trivial⟩ fun z2 hz2=>?_
 replace hz2:w.heap.size + 2 ≤ z2:=hz2
 refine hgE 10 [oh1,oh0,(oA 3 0 13),oh0] [0,3,4,5] [tT] [(w.heap.size + 1,0,13)] [.code [1,0,1,0,1],.code [1,1]] ⟨[(0,(pt nb 0)),(3,(pt w.heap.size 0)),(4,(pt (w.heap.size + 1) 0)),(5,.bool true)],[⟨sb,82,false,[(pt pb 0),i6 st]⟩,⟨nb,69,false,[(pt sb 0),i6 st]⟩,⟨w.heap.size,35,true,(nsb_v1 q)⟩,⟨w.heap.size + 1,45,true,(nsb_v3)⟩],[],z2⟩ ?_
 refine hrt [[⟨false,3,0,13⟩]] [.agg (List.toArray (nsb_v3)),.bool true] [(w.heap.size + 1,0,13)] ?_
 intro wx hm
 exact ⟨rfl,hm.kept⟩
set_option maxRecDepth 100000 in
set_option maxHeartbeats 4000000 in
theorem within_zero  (w:World) :
  Calls Try.prog 38 #[.int .i64 0,.int .i64 1,.int .i64 16777215] w (RetK (.bool false) w):=by
 refine calls_of_holds (S:=(fun _=>False)) (l:=[.int .i64 0,.int .i64 1,.int .i64 16777215]) (n:=15) Try.func38 (body_of (by kernel_rfl)) rfl (by simp) (MemOk.none w _) ?_
 refine hgE 19 [oh0,oh0,oh0,oh0,oh0,oh0,oh0,oh0,⟨false,3,[]⟩,oh0] [6] [fF,fF,fF,fF] [] [.code [1,1]] ⟨[(6,.bool false)],[],[],w.heap.size⟩ ?_
 refine hrt [] [.bool false] [] ?_
 intro wx hm
 exact ⟨rfl,hm.kept⟩
def rz_v1:List Value:=rp 8 (.int .i64 0) ++ [.string ⟨#[]⟩]
set_option maxRecDepth 100000 in
set_option maxHeartbeats 4000000 in
theorem askRight_zero  (w:World) :
  Calls Try.prog 25 #[.agg #[.int .i64 0,.int .i64 0,.int .i64 0,.int .i64 0,.int .i64 0,.int .i64 0,.int .i64 0,.int .i64 0,.string ⟨#[]⟩]] w (RetK (.bool false) w):=by
 refine calls_of_holds (S:=(fun _=>False)) (l:=[.agg (List.toArray (rz_v1))]) (n:=120) Try.func25 (body_of (by kernel_rfl)) rfl (by simp) (MemOk.none w _) ?_
 refine hgE 13 [oh0,oh0,oh0,(oA 0 1 1)] [1,2,6] [] [(w.heap.size,1,1)] [.ops [1,0,0] [2,3],.code [1,0,1],.code [1,1]] ⟨[(1,(pt w.heap.size 0)),(2,.bool false),(6,i6 0)],[⟨w.heap.size,35,true,(rz_v1)⟩],[],w.heap.size + 1⟩ ?_
 refine hcp (.bool true) 38 [i6 0,i6 0,i6 7] (some 7) [] tI rfl (fun wx hm=>within_true _ _ _ (by omega) (by omega) wx) fun z2 hz2=>?_
 replace hz2:w.heap.size + 1 ≤ z2:=hz2
 refine hgE 40 [oh0,oh0,(oA 0 0 9),oh0,(oA 1 0 9),oh0,(oA 1 0 1),oh0,(oA 1 1 1),oh0,oh0,(oA 0 0 1),oh0,oh1,oh0,(oA 1 2 1),oh0,(oA 0 2 1)] [1,2,3,4,17] [fF,tT] [(w.heap.size,0,9),(z2,0,9),(z2,0,1),(z2,1,1),(w.heap.size,0,1),(z2,2,1),(w.heap.size,2,1)] [.ops [1,1,1,1,1,0,1,0,1] [2,3],.code [1,1,1,1,1,1]] ⟨[(1,(pt w.heap.size 0)),(2,.bool false),(3,(pt z2 0)),(4,.bool true),(17,i6 0)],[⟨w.heap.size,35,true,(rz_v1)⟩,⟨z2,35,true,(rz_v1)⟩],[],z2 + 1⟩ ?_
 refine hcp (.bool false) 38 [i6 0,i6 1,i6 16777215] (some 18) [] tI rfl (fun wx hm=>within_zero wx) fun z4 hz4=>?_
 replace hz4:z2 + 1 ≤ z4:=hz4
 refine hgE 76 [oh0,oh0,(oA 0 0 1),oh0,oh0,oh0,oh0,oh0,oh0,oh0,oh0,oh0,oh0,oh0,oh0,oh0,oh0,oh0,oh0,oh0,oh0,oh0,oh0,oh0,oh0,oh0,oh0,oh0,oh0,oh0,oh0,oh0,oh0,oh0] [2,3,4] [fF,fF,fF,fF,fF,fF,fF,fF,fF,fF] [(w.heap.size,0,1)] [.code [1,1,1,1,1,1,0,1,0,1,1,1,1,1,1,1,1,1,1,1,1,1],.blk 0,.code [1,1,1,1,1,1,1]] ⟨[(2,.bool false),(3,(pt z2 0)),(4,.bool false)],[⟨w.heap.size,35,true,(rz_v1)⟩,⟨z2,35,true,(rz_v1)⟩],[],z4⟩ ?_
 refine hrt [] [.bool false] [] ?_
 intro wx hm
 exact ⟨rfl,hm.kept⟩
def nsz_v1:List Value:=rz_v1
def nsz_v2:List Value:=nsb_v2
def nsz_v3:List Value:=nsb_v3
@[simp] def nsz_b1 (st:Int) (pb:Nat) (sb:Nat) (nb:Nat) (w:World):List Bk:=[⟨sb,82,false,[(pt pb 0),i6 st]⟩,⟨nb,69,false,[(pt sb 0),i6 st]⟩,⟨w.heap.size,35,true,(nsz_v1)⟩,⟨w.heap.size + 1,45,true,(nsz_v2)⟩]
theorem nsz_q2 (st:Int) (pb:Nat) (sb:Nat) (nb:Nat) (w:World):Out.prune [0,3,4,5,26] (qListG Try.prog 63 w (fun _=>False) (opsOf (getCode (bodyOf Try.f12) [1,0,0])) (opsOf (getCode (bodyOf Try.f12) [1,0,0])).toList ⟨[(0,(pt nb 0)),(3,(pt w.heap.size 0)),(4,(pt (w.heap.size + 1) 0)),(5,.bool false)],(nsz_b1 st pb sb nb w),[],w.heap.size + 2⟩ [(false,.op (oA 2 0 9)),(false,.call (.bool false)),(false,.op oh0),(false,.op oh0),(true,.op oh0),(true,.op oh0),(true,.op oh0),(false,.op oh3),(false,.op oh0),(true,.op oh0),(true,.op oh0),(true,.op oh0),(true,.op oh0),(true,.op oh0),(true,.op oh0),(true,.op oh0),(false,.op oh3)]) = some ⟨[∀ w',MemC w (fun _=>False) (nsz_b1 st pb sb nb w) [] (w.heap.size + 2) w' → Calls Try.prog 25 #[.agg (List.toArray (nsz_v1))] w' (RetK (.bool false) w'),true = true,true = true,true = true,true = true,true = true,true = true,true = true,true = true,true = true,true = true,true = true,true = true],dupR [(w.heap.size,0,9)],⟨[(0,(pt nb 0)),(3,(pt w.heap.size 0)),(4,(pt (w.heap.size + 1) 0)),(5,.bool false),(26,.bool true)],(nsz_b1 st pb sb nb w),[],w.heap.size + 2⟩⟩:=by kernel_rfl
set_option maxRecDepth 100000 in
set_option maxHeartbeats 4000000 in
theorem serve_zero (pb sb nb:Nat) (st:Int) (hne:¬ sb = nb) (w:World) (hs:Blk w sb 82 [.pointer (some ⟨pb,0,none⟩),.int .i64 st]) (hnd:Blk w nb 69 [.pointer (some ⟨sb,0,none⟩),.int .i64 st]) :
  Calls Try.prog 12 #[.pointer (some ⟨nb,0,none⟩),.agg #[.int .i64 0,.int .i64 0,.int .i64 0,.int .i64 0,.int .i64 0,.int .i64 0,.int .i64 0,.int .i64 0,.string ⟨#[]⟩]] w (RetK (.tuple #[.agg #[.int .i64 6,.int .i64 0,.int .i64 0,.bool false,.int .i64 0,.int .i64 0,.int .i64 0,.string ⟨#[]⟩,.bool false,.int .i64 0,.int .i64 0,.int .i64 0,.string ⟨#[]⟩],.bool true]) w):=by
 refine calls_of_holds (S:=(fun _=>False)) (l:=[(pt nb 0),.agg (List.toArray (nsz_v1))]) (n:=63) Try.func12 (body_of (by kernel_rfl)) rfl (by simp) (MemOk.start (bk:=[⟨sb,82,false,[(pt pb 0),.int .i64 st]⟩,⟨nb,69,false,[(pt sb 0),.int .i64 st]⟩]) (wn:=[]) (by simpa using ⟨hs,hnd⟩) (by simp) (by simp; exact hne) (by simp)) ?_
 refine hgE 11 [oh0,oh0,oh0] [0,3,4,5] [] [] [.code [1,0,0],.code [1,0,1],.code [1,1]] ⟨[(0,(pt nb 0)),(3,(pt w.heap.size 0)),(4,(pt (w.heap.size + 1) 0)),(5,.bool false)],(nsz_b1 st pb sb nb w),[],w.heap.size + 2⟩ ?_
 refine holds_quietG _ _ (by kernel_rfl) (by kernel_rfl) (by kernel_rfl) (nsz_q2 st pb sb nb w) ⟨(fun wx hm=>askRight_zero wx),rfl,rfl,rfl,rfl,rfl,rfl,rfl,rfl,rfl,rfl,rfl,rfl,trivial⟩ fun z2 hz2=>?_
 replace hz2:w.heap.size + 2 ≤ z2:=hz2
 refine hgE 10 [oh1,oh0,(oA 3 0 13),oh0] [0,3,4,5] [tT] [(w.heap.size + 1,0,13)] [.code [1,0,1,0,1],.code [1,1]] ⟨[(0,(pt nb 0)),(3,(pt w.heap.size 0)),(4,(pt (w.heap.size + 1) 0)),(5,.bool true)],[⟨sb,82,false,[(pt pb 0),i6 st]⟩,⟨nb,69,false,[(pt sb 0),i6 st]⟩,⟨w.heap.size,35,true,(nsz_v1)⟩,⟨w.heap.size + 1,45,true,(nsz_v3)⟩],[],z2⟩ ?_
 refine hrt [[⟨false,3,0,13⟩]] [.agg (List.toArray (nsz_v3)),.bool true] [(w.heap.size + 1,0,13)] ?_
 intro wx hm
 exact ⟨rfl,hm.kept⟩
def nsv_v1 (q:AskM):List Value:=(nsb_v1 q)
def nsv_v2:List Value:=nsb_v2
def nsv_v3 (r:RecM):List Value:=[.bool r.used,i6 r.fence,i6 r.de,i6 r.ds,sT r.block,.bool r.op,i6 r.ie,i6 r.is,i6 r.mask,sT r.staged]
def nsv_v4:List Value:=[.bool false] ++ rp 3 (.int .i64 0) ++ [.string ⟨#[]⟩,.bool false] ++ rp 3 (.int .i64 0) ++ [.string ⟨#[]⟩]
def nsv_v5 (x:RecM):List Value:=[.bool x.used,i6 x.fence,i6 x.de,i6 x.ds,sT x.block,.bool x.op,i6 x.ie,i6 x.is,i6 x.mask,sT x.staged]
def nsv_v6 (s:SayR):List Value:=[i6 s.st,i6 s.ep,i6 s.ou,.bool s.rc.used,i6 s.rc.fence,i6 s.rc.de,i6 s.rc.ds,sT s.rc.block,.bool s.rc.op,i6 s.rc.ie,i6 s.rc.is,i6 s.rc.mask,sT s.rc.staged]
def nsv_n1:Array Bool:=#[false,true,false,false,false,false,false,false,false,false,false,false,false,false]
def nsv_n2:Array Bool:=#[true,false,false,false,false,false,false,false,false,false,false,false,false,false]
def nsv_n3:Array Bool:=#[true,true,false,false,false,false,false,false,false,false,false,false,false,false]
def nsv_n4:Array Bool:=#[true,true,true,false,false,false,false,false,false,false,false,false,false,false]
def nsv_n5:Array Bool:=#[true,true,true,true,false,false,false,false,false,false,false,false,false,false]
def nsv_n6:Array Bool:=#[true,true,true,true,false,false,false,false,false,false,true,false,false,false]
def nsv_n7:Array Bool:=#[true,true,true,true,false,false,false,false,true,false,false,false,false,false]
def nsv_n8:Array Bool:=#[true,true,true,true,false,false,false,false,true,false,true,false,false,false]
def nsv_n9:Array Bool:=#[true,true,true,true,false,false,false,false,true,true,false,false,false,false]
def nsv_n10:Array Bool:=#[true,true,true,true,false,false,false,false,true,true,true,false,false,false]
def nsv_n11:Array Bool:=#[true,true,true,true,true,false,false,false,false,false,false,false,false,false]
def nsv_n12:Array Bool:=#[true,true,true,true,true,false,false,false,false,false,true,false,false,false]
def nsv_n13:Array Bool:=#[true,true,true,true,true,false,false,false,true,false,false,false,false,false]
def nsv_n14:Array Bool:=#[true,true,true,true,true,false,false,false,true,false,true,false,false,false]
def nsv_n15:Array Bool:=#[true,true,true,true,true,false,false,false,true,true,false,false,false,false]
def nsv_n16:Array Bool:=#[true,true,true,true,true,false,false,false,true,true,true,false,false,false]
def nsv_n17:Array Bool:=#[true,true,true,true,true,true,false,false,false,false,false,false,false,false]
def nsv_n18:Array Bool:=#[true,true,true,true,true,true,false,false,false,false,true,false,false,false]
def nsv_n19:Array Bool:=#[true,true,true,true,true,true,false,false,true,false,false,false,false,false]
def nsv_n20:Array Bool:=#[true,true,true,true,true,true,false,false,true,false,true,false,false,false]
def nsv_n21:Array Bool:=#[true,true,true,true,true,true,false,false,true,true,false,false,false,false]
def nsv_n22:Array Bool:=#[true,true,true,true,true,true,false,false,true,true,true,false,false,false]
def nsv_n23:Array Bool:=#[true,true,true,true,true,true,true,false,false,false,false,false,false,false]
def nsv_n24:Array Bool:=#[true,true,true,true,true,true,true,false,false,false,true,false,false,false]
def nsv_n25:Array Bool:=#[true,true,true,true,true,true,true,false,true,false,false,false,false,false]
def nsv_n26:Array Bool:=#[true,true,true,true,true,true,true,false,true,false,true,false,false,false]
def nsv_n27:Array Bool:=#[true,true,true,true,true,true,true,false,true,true,false,false,false,false]
def nsv_n28:Array Bool:=#[true,true,true,true,true,true,true,false,true,true,true,false,false,false]
def nsv_n29:Array Bool:=#[true,true,true,true,true,true,true,true,false,false,false,false,false,false]
def nsv_n30:Array Bool:=#[true,true,true,true,true,true,true,true,false,false,false,false,false]
def nsv_n31:Array Bool:=#[true,true,true,true,true,true,true,true,false,false,true,false,false,false]
def nsv_n32:Array Bool:=#[true,true,true,true,true,true,true,true,false,false,true,false,false]
def nsv_n33:Array Bool:=#[true,true,true,true,true,true,true,true,true,false,false,false,false,false]
def nsv_n34:Array Bool:=#[true,true,true,true,true,true,true,true,true,false,true,false,false,false]
def nsv_n35:Array Bool:=#[true,true,true,true,true,true,true,true,true,true,false,false,false,false]
def nsv_n36:Array Bool:=#[true,true,true,true,true,true,true,true,true,true,true,false,false,false]
def nsv_n37:Array Bool:=#[true,true,true,true,true,true,true,true,true,true,true,true,false,false]
def nsv_n38:Array Bool:=#[true,true,true,true,true,true,true,true,true,true,true,true,true,false]
def nsv_n39:Array Bool:=#[true,true,true,true,true,true,true,true,true,true,true,true,true,true]
def nsv_n40:Array Bool:=#[true,true,true,true,true,true,true,true,true,true,true,true,true]
def nsv_n41:List OH:=[oh0,⟨false,0,[⟨false,6,0,13⟩]⟩,⟨false,0,[⟨false,3,0,13⟩]⟩,oh0]
@[simp] def nsv_b1 (st:Int) (q:AskM) (pb:Nat) (sb:Nat) (nb:Nat) (w:World):List Bk:=[⟨sb,82,false,[(pt pb 0),i6 st]⟩,⟨nb,69,false,[(pt sb 0),i6 st]⟩,⟨w.heap.size,35,true,(nsv_v1 q)⟩,⟨w.heap.size + 1,45,true,(nsv_v2)⟩]
@[simp] def nsv_b2 (st:Int) (q:AskM) (pb:Nat) (sb:Nat) (nb:Nat) (w:World) (g4:Nat):List Bk:=[⟨sb,82,false,[(pt pb 0),i6 st]⟩,⟨nb,69,false,[(pt sb 0),i6 st]⟩,⟨w.heap.size,35,true,(nsv_v1 q)⟩,⟨w.heap.size + 1,45,true,(nsv_v2)⟩,⟨g4,43,true,(nsv_v4)⟩]
@[simp] def nsv_b3 (st:Int) (r:RecM) (q:AskM) (pb:Nat) (sb:Nat) (nb:Nat) (w:World) (g4:Nat):List Bk:=[⟨sb,82,false,[(pt pb 0),i6 st]⟩,⟨nb,69,false,[(pt sb 0),i6 st]⟩,⟨w.heap.size,35,true,(nsv_v1 q)⟩,⟨w.heap.size + 1,45,true,(nsv_v2)⟩,⟨g4,43,true,(nsv_v3 r)⟩]
@[simp] def nsv_b4 (st:Int) (r:RecM) (x:RecM) (s:SayR) (q:AskM) (pb:Nat) (sb:Nat) (nb:Nat) (w:World) (g4:Nat) (z8:Nat):List Bk:=[⟨sb,82,false,[(pt pb 0),i6 st]⟩,⟨nb,69,false,[(pt sb 0),i6 st]⟩,⟨w.heap.size,35,true,(nsv_v1 q)⟩,⟨w.heap.size + 1,45,true,(nsv_v2)⟩,⟨g4,43,true,(nsv_v3 r)⟩,⟨z8,43,true,(nsv_v5 x)⟩,⟨z8 + 1,45,true,(nsv_v6 s)⟩]
@[simp] def nsv_b5 (st:Int) (r:RecM) (x:RecM) (s:SayR) (q:AskM) (pb:Nat) (sb:Nat) (nb:Nat) (w:World) (g4:Nat) (z8:Nat):List Bk:=[⟨sb,82,false,[(pt pb 0),i6 st]⟩,⟨nb,69,false,[(pt sb 0),i6 st]⟩,⟨w.heap.size,35,true,(nsv_v1 q)⟩,⟨w.heap.size + 1,45,true,(nsv_v6 s)⟩,⟨g4,43,true,(nsv_v3 r)⟩,⟨z8,43,true,(nsv_v5 x)⟩,⟨z8 + 1,45,true,(nsv_v6 s)⟩]
theorem nsv_q2 (st:Int) (q:AskM) (pb:Nat) (sb:Nat) (nb:Nat) (w:World):Out.prune [0,3,4,5,26] (qListG Try.prog 63 w (fun _=>False) (opsOf (getCode (bodyOf Try.f12) [1,0,0])) (opsOf (getCode (bodyOf Try.f12) [1,0,0])).toList ⟨[(0,(pt nb 0)),(3,(pt w.heap.size 0)),(4,(pt (w.heap.size + 1) 0)),(5,.bool false)],(nsv_b1 st q pb sb nb w),[],w.heap.size + 2⟩ [(false,.op (oA 2 0 9)),(false,.call (.bool true)),(false,.op oh0),(false,.op oh0),(false,.op oh0),(false,.op (oA 2 0 1)),(false,.op oh0),(false,.op ⟨false,3,[]⟩),(false,.op oh0),(false,.op oh0),(false,.op (oA 2 1 1)),(false,.op oh0),(false,.op oh0),(false,.op oh0),(false,.op (oA 1 1 1)),(false,.op oh0),(false,.op ⟨false,3,[]⟩)]) = some ⟨[∀ w',MemC w (fun _=>False) (nsv_b1 st q pb sb nb w) [] (w.heap.size + 2) w' → Calls Try.prog 25 #[.agg (List.toArray (nsv_v1 q))] w' (RetK (.bool true) w'),false = false,false = false,false = false,false = false,(decide ((q.kind:Int) > 7)) = false,(decide ((q.kind:Int) > 7)) = false,(decide ((q.kind:Int) > 7)) = false,(decide ((q.kind:Int) > 7)) = false,(decide ((q.kind:Int) > 7)) = false,(decide ((q.kind:Int) > 7)) = false,(decide ((q.kind:Int) > 7)) = false,(decide ((q.kind:Int) > 7)) = false],dupR [(w.heap.size,0,9),(w.heap.size,0,1),(w.heap.size,1,1),(nb,1,1)],⟨[(0,(pt nb 0)),(3,(pt w.heap.size 0)),(4,(pt (w.heap.size + 1) 0)),(5,.bool false),(26,.bool (decide ((q.stripe:Int) ≥ st)))],(nsv_b1 st q pb sb nb w),[],w.heap.size + 2⟩⟩:=by kernel_rfl
theorem nsv_q4 (st:Int) (r:RecM) (q:AskM) (pb:Nat) (sb:Nat) (nb:Nat) (w:World) (z2:Nat):Out.prune [0,3,4,5,28] (qList Try.prog 63 w (fun _=>False) ((opsOf (getCode (bodyOf Try.f12) [1,1,0])).toList.take 8) ⟨[(0,(pt nb 0)),(3,(pt w.heap.size 0)),(4,(pt (w.heap.size + 1) 0)),(5,.bool false)],(nsv_b1 st q pb sb nb w),[],z2⟩ [.op oh0,.op oh0,.op oh0,.op (oA 1 0 1),.op oh0,.op (oA 2 1 1),.call (.tuple #[.agg (List.toArray (nsv_v3 r)),i6 0]),.op oh0]) = some ⟨[∀ w',MemC w (fun _=>False) (nsv_b1 st q pb sb nb w) [] z2 w' → Calls Try.prog 26 #[(pt sb 0),i6 q.stripe] w' (RetK (.tuple #[.agg (List.toArray (nsv_v3 r)),i6 0]) w')],dupR [(nb,0,1),(w.heap.size,1,1)],⟨[(0,(pt nb 0)),(3,(pt w.heap.size 0)),(4,(pt (w.heap.size + 1) 0)),(5,.bool false),(28,.tuple #[.agg (List.toArray (nsv_v3 r)),i6 0])],(nsv_b1 st q pb sb nb w),[],z2⟩⟩:=by kernel_rfl
theorem nsv_t5 (st:Int) (r:RecM) (q:AskM) (pb:Nat) (sb:Nat) (nb:Nat) (w:World) (g4:Nat) (y4:Nat):tailP [0,3,4,5,6,7] (tailX Try.prog 63 (opsOf (getCode (bodyOf Try.f12) [1,1,0])) 4 nsv_n32 ⟨[(6,(pt g4 0)),(0,(pt nb 0)),(3,(pt w.heap.size 0)),(4,(pt (w.heap.size + 1) 0)),(5,.bool false),(28,.tuple #[.agg (List.toArray (nsv_v3 r)),i6 0])],(nsv_b2 st q pb sb nb w g4),[],y4⟩ [(8,true,oh0),(9,true,oh0),(11,false,(oA 4 0 10)),(12,false,oh0)]) = some (⟨[],dupR [(g4,0,10)],⟨[(0,(pt nb 0)),(3,(pt w.heap.size 0)),(4,(pt (w.heap.size + 1) 0)),(5,.bool false),(6,(pt g4 0)),(7,i6 0)],(nsv_b3 st r q pb sb nb w g4),[],y4⟩⟩,0,nsv_n40):=by kernel_rfl
theorem nsv_t6 (st:Int) (r:RecM) (q:AskM) (pb:Nat) (sb:Nat) (nb:Nat) (w:World) (y4:Nat):tailP [0,3,4,5,6,7] (tailX Try.prog 63 (opsOf (getCode (bodyOf Try.f12) [1,1,0])) 5 nsv_n30 ⟨[(0,(pt nb 0)),(3,(pt w.heap.size 0)),(4,(pt (w.heap.size + 1) 0)),(5,.bool false),(28,.tuple #[.agg (List.toArray (nsv_v3 r)),i6 0])],(nsv_b1 st q pb sb nb w),[],y4⟩ [(8,true,oh0),(9,true,oh0),(10,false,oh0),(11,false,(oA 4 0 10)),(12,false,oh0)]) = some (⟨[],dupR [(y4,0,10)],⟨[(0,(pt nb 0)),(3,(pt w.heap.size 0)),(4,(pt (w.heap.size + 1) 0)),(5,.bool false),(6,(pt y4 0)),(7,i6 0)],[⟨sb,82,false,[(pt pb 0),i6 st]⟩,⟨nb,69,false,[(pt sb 0),i6 st]⟩,⟨w.heap.size,35,true,(nsv_v1 q)⟩,⟨w.heap.size + 1,45,true,(nsv_v2)⟩,⟨y4,43,true,(nsv_v3 r)⟩],[],y4 + 1⟩⟩,0,nsv_n40):=by kernel_rfl
theorem nsv_q10 (st:Int) (r:RecM) (x:RecM) (s:SayR) (q:AskM) (pb:Nat) (sb:Nat) (nb:Nat) (w:World) (g4:Nat) (z8:Nat):Out.prune [4,5,9,60] (qListG Try.prog 63 w (fun _=>False) (opsOf (getCode (bodyOf Try.f12) [1,1,1,1,1,0,0])) (opsOf (getCode (bodyOf Try.f12) [1,1,1,1,1,0,0])).toList ⟨[(0,(pt nb 0)),(3,(pt w.heap.size 0)),(4,(pt (w.heap.size + 1) 0)),(5,.bool false),(6,(pt g4 0)),(8,(pt z8 0)),(9,(pt (z8 + 1) 0))],(nsv_b4 st r x s q pb sb nb w g4 z8),[],z8 + 2⟩ [(false,.op (oA 5 0 10)),(false,.op (oA 4 0 10)),(false,.op oh2),(false,.op oh0),(false,.op oh0),(false,.op oh0),(false,.op oh0),(false,.op oh0),(false,.op oh0),(false,.op oh0),(false,.op oh0),(false,.op oh0),(false,.op oh0),(false,.op ⟨false,3,[]⟩)]) = some ⟨[True,(!(recB x r)) = false,(!(recB x r)) = false,(!(recB x r)) = false,(!(recB x r)) = false,(!(recB x r)) = false,(!(recB x r)) = false,(!(recB x r)) = false,(!(recB x r)) = false,(!(recB x r)) = false,(!(recB x r)) = false],dupR [(z8,0,10),(g4,0,10)],⟨[(4,(pt (w.heap.size + 1) 0)),(5,.bool false),(9,(pt (z8 + 1) 0)),(60,.bool false)],(nsv_b4 st r x s q pb sb nb w g4 z8),[],z8 + 2⟩⟩:=by kernel_rfl
def nsv_13B (st:Int) (r:RecM) (x:RecM) (s:SayR) (q:AskM) (pb:Nat) (sb:Nat) (nb:Nat) (w:World) (g4:Nat) (z8:Nat):List Bk:=(nsv_b4 st r x s q pb sb nb w g4 z8)
def nsv_13H0 (st:Int) (M:Pl) (r:RecM) (x:RecM) (s:SayR) (q:AskM) (pb:Nat) (sb:Nat) (nb:Nat) (w:World) (g4:Nat) (z8:Nat) (m:Nat) (ls:Array Bool) (sl:List (Nat × Value)):Prop:=∀ Wd:World,PlatAt 64 80 Wd pb M → MemOk w (minePl pb M) (nsv_13B st r x s q pb sb nb w g4 z8) [] Wd.heap.size Wd → Holds [] Try.prog (bodyOf Try.f12) 63 Wd (Turned (nsv_13B st r x s q pb sb nb w g4 z8)) (bodyPost Try.prog Try.f12 (fun e w'=>e = .returned (.tuple #[.agg (servS M q).cells.toArray,.bool (servOk M q)]) ∧ PlatAt 64 80 w' pb (servPl M q) ∧ Kept (minePl pb M) w w')) (.any [1,1,1,1,1,0,0] m ls :: [.code [1,1,1,1,1,0,1],.code [1,1,1,1,1,1]]) ⟨sl,(nsv_13B st r x s q pb sb nb w g4 z8),[],Wd.heap.size⟩
def nsv_13H1 (st:Int) (M:Pl) (r:RecM) (x:RecM) (s:SayR) (q:AskM) (pb:Nat) (sb:Nat) (nb:Nat) (w:World) (g4:Nat) (z8:Nat) (m:Nat) (ls:Array Bool) (sl:List (Nat × Value)):Prop:=∀ Wd:World,PlatAt 64 80 Wd pb (setPl M q.stripe x) → MemOk w (minePl pb M) (nsv_13B st r x s q pb sb nb w g4 z8) [] Wd.heap.size Wd → Holds [] Try.prog (bodyOf Try.f12) 63 Wd (Turned (nsv_13B st r x s q pb sb nb w g4 z8)) (bodyPost Try.prog Try.f12 (fun e w'=>e = .returned (.tuple #[.agg (servS M q).cells.toArray,.bool (servOk M q)]) ∧ PlatAt 64 80 w' pb (servPl M q) ∧ Kept (minePl pb M) w w')) (.any [1,1,1,1,1,0,0] m ls :: [.code [1,1,1,1,1,0,1],.code [1,1,1,1,1,1]]) ⟨sl,(nsv_13B st r x s q pb sb nb w g4 z8),[],Wd.heap.size⟩
set_option maxRecDepth 100000 in
set_option maxHeartbeats 4000000 in
theorem serve_any0 (M:Pl) (pb sb nb:Nat) (st:Int) (q:AskM) (r x:RecM) (s:SayR) (hr:gotM M q.stripe = r) (hx:applyM r q = (x,s)) (hrk:RecOk r) (hxk:RecOk x) (hq:AskOk q) (h7:q.kind ≤ 7) (hk:0 ≤ q.stripe ∧ q.stripe < st) (hk2:0 ≤ q.stripe ∧ q.stripe < (M.n:Int)) (hoff:M.off = false) (ha:M.acts < 4611686018427387900) (hsb:¬ minePl pb M sb) (hnb:¬ minePl pb M nb) (hne:¬ sb = nb) (w:World) (hP:PlatAt 64 80 w pb M) (hs:Blk w sb 82 [.pointer (some ⟨pb,0,none⟩),.int .i64 st]) (hnd:Blk w nb 69 [.pointer (some ⟨sb,0,none⟩),.int .i64 st]) :
  Calls Try.prog 12 #[.pointer (some ⟨nb,0,none⟩),.agg #[.int .i64 q.kind,.int .i64 q.stripe,.int .i64 q.epoch,.int .i64 q.seq,.int .i64 q.mask,.int .i64 q.node,.int .i64 q.oe,.int .i64 q.os,.string q.block]] w (fun e w'=>e = .returned (.tuple #[.agg (servS M q).cells.toArray,.bool (servOk M q)]) ∧ PlatAt 64 80 w' pb (servPl M q) ∧ Kept (minePl pb M) w w'):=by
 refine calls_of_holds (S:=(fun _=>False)) (l:=[(pt nb 0),.agg (List.toArray (nsv_v1 q))]) (n:=63) Try.func12 (body_of (by kernel_rfl)) rfl (by simp) (MemOk.start (bk:=[⟨sb,82,false,[(pt pb 0),.int .i64 st]⟩,⟨nb,69,false,[(pt sb 0),.int .i64 st]⟩]) (wn:=[]) (by simpa using ⟨hs,hnd⟩) (by simp) (by simp; exact hne) (by simp)) ?_
 refine hgE 11 [oh0,oh0,oh0] [0,3,4,5] [] [] [.code [1,0,0],.code [1,0,1],.code [1,1]] ⟨[(0,(pt nb 0)),(3,(pt w.heap.size 0)),(4,(pt (w.heap.size + 1) 0)),(5,.bool false)],(nsv_b1 st q pb sb nb w),[],w.heap.size + 2⟩ ?_
 refine holds_quietG _ _ (by kernel_rfl) (by kernel_rfl) (by kernel_rfl) (nsv_q2 st q pb sb nb w) ⟨(fun wx hm=>askRight q hq wx),rfl,rfl,rfl,rfl,decide_eq_false (by omega),decide_eq_false (by omega),decide_eq_false (by omega),decide_eq_false (by omega),decide_eq_false (by omega),decide_eq_false (by omega),decide_eq_false (by omega),decide_eq_false (by omega),trivial⟩ fun z2 hz2=>?_
 replace hz2:w.heap.size + 2 ≤ z2:=hz2
 refine hgE 6 [oh0] [0,3,4,5] [dF ((q.stripe:Int) ≥ st)] [] [.code [1,1,0],.code [1,1,1]] ⟨[(0,(pt nb 0)),(3,(pt w.heap.size 0)),(4,(pt (w.heap.size + 1) 0)),(5,.bool false)],(nsv_b1 st q pb sb nb w),[],z2⟩ ?_
 have HZ:∀ (g4 y4:Nat),z2 ≤ g4 → z2 ≤ y4 → Holds [] Try.prog (bodyOf Try.f12) 63 w (fun _=>False) (bodyPost Try.prog Try.f12 (fun e w'=>e = .returned (.tuple #[.agg (servS M q).cells.toArray,.bool (servOk M q)]) ∧ PlatAt 64 80 w' pb (servPl M q) ∧ Kept (minePl pb M) w w')) [.code [1,1,1]] ⟨[(0,(pt nb 0)),(3,(pt w.heap.size 0)),(4,(pt (w.heap.size + 1) 0)),(5,.bool false),(6,(pt g4 0)),(7,.int .i64 0)],(nsv_b3 st r q pb sb nb w g4),[],y4⟩:=by
  intro g4 y4 hg4 hy4
  refine hgE 15 [oh0,oh0,oh0,(oA 4 0 10),(oA 2 0 9)] [0,3,4,5,6,42,43] [fF] [(g4,0,10),(w.heap.size,0,9)] [.ops [1,1,1,1,0] [2,3,4,5,6,7,8,9],.code [1,1,1,1,1]] ⟨[(0,(pt nb 0)),(3,(pt w.heap.size 0)),(4,(pt (w.heap.size + 1) 0)),(5,.bool false),(6,(pt g4 0)),(42,.agg (List.toArray (nsv_v3 r))),(43,.agg (List.toArray (nsv_v1 q)))],(nsv_b3 st r q pb sb nb w g4),[],y4⟩ ?_
  refine hcp (.tuple #[.agg (List.toArray (nsv_v5 x)),.agg (List.toArray (nsv_v6 s))]) 27 [.agg (List.toArray (nsv_v3 r)),.agg (List.toArray (nsv_v1 q))] (some 44) [] tI rfl (fun wx hm=>by have h:=applyP r q hrk hq wx; rw [hx] at h; exact h) fun z8 hz8=>?_
  replace hz8:y4 ≤ z8:=hz8
  refine hgE 13 [oh0,oh0,oh0,oh0,oh0,(oA 5 0 10),(oA 6 0 13)] [0,3,4,5,6,8,9] [] [(z8,0,10),(z8 + 1,0,13)] [.code [1,1,1,1,1,0,0],.code [1,1,1,1,1,0,1],.code [1,1,1,1,1,1]] ⟨[(0,(pt nb 0)),(3,(pt w.heap.size 0)),(4,(pt (w.heap.size + 1) 0)),(5,.bool false),(6,(pt g4 0)),(8,(pt z8 0)),(9,(pt (z8 + 1) 0))],(nsv_b4 st r x s q pb sb nb w g4 z8),[],z8 + 2⟩ ?_
  have hbeh:behM M q = x:=by
   unfold behM
   rw [hr,hx]
  rcases Bool.eq_false_or_eq_true (recB x r) with hE | hE
  ·skip
   have hok:servOk M q = true:=by
    unfold servOk
    rw [hbeh,hr,hE]
    rfl
   have hpl:servPl M q = M:=by
    unfold servPl
    rw [hbeh,hr,hE]
    rfl
   have hsy:servS M q = s:=by
    unfold servS
    rw [hok,hr,hx]
    rfl
   have hE2:(recB x r) = true:=hE
   refine holds_quietG _ _ (by kernel_rfl) (by kernel_rfl) (by kernel_rfl) (nsv_q10 st r x s q pb sb nb w g4 z8) ⟨trivial,(by rw [hE2]; rfl),(by rw [hE2]; rfl),(by rw [hE2]; rfl),(by rw [hE2]; rfl),(by rw [hE2]; rfl),(by rw [hE2]; rfl),(by rw [hE2]; rfl),(by rw [hE2]; rfl),(by rw [hE2]; rfl),(by rw [hE2]; rfl),trivial⟩ fun z10 hz10=>?_
   replace hz10:z8 + 2 ≤ z10:=hz10
   refine hgE 11 nsv_n41 [4,5] [fF] [(z8 + 1,0,13),(w.heap.size + 1,0,13)] [.code [1,1,1,1,1,1,1]] ⟨[(4,(pt (w.heap.size + 1) 0)),(5,.bool true)],(nsv_b5 st r x s q pb sb nb w g4 z8),[],z10⟩ ?_
   refine hrt [[⟨false,3,0,13⟩]] [.agg (List.toArray (nsv_v6 s)),.bool true] [(w.heap.size + 1,0,13)] ?_
   intro wx hm
   refine ⟨by rw [hsy,hok]; rfl,?_,(hm.kept.mono (fun _ _ h=>h.elim))⟩
   rw [hpl]
   exact hP.kept hm.kept (fun _ _ h=>h)
  ·skip
   have hE2:(recB x r) = false:=hE
   have hpl:servPl M q = setPl M q.stripe x:=by
    unfold servPl
    rw [hbeh,hr,hE]
    rfl
   have hok:servOk M q = (setE M q.stripe x == 0):=by
    unfold servOk
    rw [hbeh,hr,hE]
    rfl
   have hmine:∀ xx,minePl pb M xx → xx < w.heap.size:=fun xx hx=>by
    obtain ⟨h1,h2,h3⟩:=hP.lt
    rcases hx with rfl | rfl | rfl <;> assumption
   have hnT:∀ xx,minePl pb M xx → ¬ Turned (nsv_b4 st r x s q pb sb nb w g4 z8) xx:=by
    rintro xx hx ⟨b,hb,hr,he⟩
    have hx2:=hmine xx hx
    simp at hb
    rcases hb with rfl | rfl | rfl | rfl | rfl | rfl | rfl <;> simp at he hr <;> omega
   have hnB:∀ b ∈ ((nsv_b4 st r x s q pb sb nb w g4 z8):List Bk),¬ minePl pb M b.g:=by
    intro b hb h
    have hx2:=hmine _ h
    simp at hb
    rcases hb with rfl | rfl | rfl | rfl | rfl | rfl | rfl
    ·exact hsb h
    ·exact hnb h
    all_goals (simp at hx2; try omega)
   refine holds_ground [true,true,true,true,true,true,true] rfl (fun W1 _ hm1=>?_)
   suffices HZ13:∀ Wd:World,PlatAt 64 80 Wd pb (setPl M q.stripe x) → MemOk w (minePl pb M) (nsv_b4 st r x s q pb sb nb w g4 z8) [] Wd.heap.size Wd → Holds [] Try.prog (bodyOf Try.f12) 63 Wd (Turned (nsv_b4 st r x s q pb sb nb w g4 z8)) (bodyPost Try.prog Try.f12 (fun e w'=>e = .returned (.tuple #[.agg (servS M q).cells.toArray,.bool (servOk M q)]) ∧ PlatAt 64 80 w' pb (servPl M q) ∧ Kept (minePl pb M) w w')) [.code [1,1,1,1,1,0,1],.code [1,1,1,1,1,1]] ⟨[(4,(pt (w.heap.size + 1) 0)),(5,.bool false),(9,(pt (z8 + 1) 0)),(60,.bool ((setE M q.stripe x) != 0))],(nsv_b4 st r x s q pb sb nb w g4 z8),[],Wd.heap.size⟩ by
    have hC13:∀ Wd:World,PlatAt 64 80 Wd pb M → MemOk w (minePl pb M) (nsv_b4 st r x s q pb sb nb w g4 z8) [] Wd.heap.size Wd → ∀ wx,MemOk Wd (Turned (nsv_b4 st r x s q pb sb nb w g4 z8)) (nsv_b4 st r x s q pb sb nb w g4 z8) [] Wd.heap.size wx → Calls Try.prog 28 #[(pt sb 0),.int .i64 q.stripe,.agg (List.toArray (nsv_v5 x))] wx (fun e w'=>e = .returned (.int .i64 (setE M q.stripe x)) ∧ (PlatAt 64 80 w' pb (setPl M q.stripe x)) ∧ MemOk w (minePl pb M) (nsv_b4 st r x s q pb sb nb w g4 z8) [] w'.heap.size w'):=by
     intro Wd hXd hmd wx hm
     refine (set_pl M sb pb st q.stripe x hxk hq.stripe hk hk2 ha hsb wx (hXd.kept hm.kept hnT) (hm.at_ 0 rfl)).mono fun e w' ⟨h1,h2,h3⟩=>?_
     exact ⟨h1,h2,(hmd.back hm).off (fun _ h=>h) h3 (fun x h=>.inl h) hnB⟩
    have A13_0:nsv_13H1 st M r x s q pb sb nb w g4 z8 0 nsv_n39 [(4,(pt (w.heap.size + 1) 0)),(5,.bool false),(9,(pt (z8 + 1) 0)),(60,.bool ((setE M q.stripe x) != 0))]:=by
     intro Wd hXd hmd
     exact holds_done (by kernel_rfl) (HZ13 Wd hXd hmd)
    have A13_1:nsv_13H1 st M r x s q pb sb nb w g4 z8 1 nsv_n38 [(4,(pt (w.heap.size + 1) 0)),(5,.bool false),(9,(pt (z8 + 1) 0)),(50,.bool (!(recB x r))),(59,.bool ((setE M q.stripe x) != 0))]:=by
     intro Wd hXd hmd
     exact holds_anyAll (l:=[13]) (by kernel_rfl) (by simp) ⟨eop nsv_n39 oh3 [4,5,9,60] [(!(recB x r)) = true] [] ⟨[(4,(pt (w.heap.size + 1) 0)),(5,.bool false),(9,(pt (z8 + 1) 0)),(60,.bool ((setE M q.stripe x) != 0))],(nsv_13B st r x s q pb sb nb w g4 z8),[],Wd.heap.size⟩ ⟨(by rw [hE2]; rfl),tI⟩ (A13_0 Wd hXd hmd),tI⟩
    have A13_2:nsv_13H1 st M r x s q pb sb nb w g4 z8 2 nsv_n37 [(4,(pt (w.heap.size + 1) 0)),(5,.bool false),(9,(pt (z8 + 1) 0)),(50,.bool (!(recB x r))),(58,i6 (setE M q.stripe x))]:=by
     intro Wd hXd hmd
     exact holds_anyAll (l:=[12]) (by kernel_rfl) (by simp) ⟨eop nsv_n38 oh1 [4,5,9,50,59] [(!(recB x r)) = true] [] ⟨[(4,(pt (w.heap.size + 1) 0)),(5,.bool false),(9,(pt (z8 + 1) 0)),(50,.bool (!(recB x r))),(59,.bool ((setE M q.stripe x) != 0))],(nsv_13B st r x s q pb sb nb w g4 z8),[],Wd.heap.size⟩ ⟨(by rw [hE2]; rfl),tI⟩ (A13_1 Wd hXd hmd),tI⟩
    have A13_3:nsv_13H0 st M r x s q pb sb nb w g4 z8 3 nsv_n36 [(4,(pt (w.heap.size + 1) 0)),(5,.bool false),(9,(pt (z8 + 1) 0)),(50,.bool (!(recB x r))),(54,(pt sb 0)),(56,i6 q.stripe),(57,.agg (List.toArray (nsv_v5 x)))]:=by
     intro Wd hXd hmd
     exact holds_anyAll (l:=[11]) (by kernel_rfl) (by simp) ⟨edge_callW (w:=w) (S':=(minePl pb M)) (ls':=nsv_n37) (i6 (setE M q.stripe x)) [4,5,9,50,58] (fun W_=>PlatAt 64 80 W_ pb (setPl M q.stripe x)) (by kernel_rfl) (show _ = some (28,[(pt sb 0),i6 q.stripe,.agg (List.toArray (nsv_v5 x))],some 58,[(!(recB x r)) = true]) by kernel_rfl) ⟨(by rw [hE2]; rfl),tI⟩ rfl rfl (hC13 Wd hXd hmd) (fun W_ hX_ hm_=>A13_2 W_ hX_ hm_),tI⟩
    have A13_4:nsv_13H0 st M r x s q pb sb nb w g4 z8 4 nsv_n35 [(4,(pt (w.heap.size + 1) 0)),(5,.bool false),(8,(pt z8 0)),(9,(pt (z8 + 1) 0)),(50,.bool (!(recB x r))),(54,(pt sb 0)),(56,i6 q.stripe)]:=by
     intro Wd hXd hmd
     exact holds_anyAll (l:=[10]) (by kernel_rfl) (by simp) ⟨eop nsv_n36 ⟨true,0,[⟨false,5,0,10⟩]⟩ [4,5,9,50,54,56,57] [(!(recB x r)) = true] [(z8,0,10)] ⟨[(4,(pt (w.heap.size + 1) 0)),(5,.bool false),(9,(pt (z8 + 1) 0)),(50,.bool (!(recB x r))),(54,(pt sb 0)),(56,i6 q.stripe),(57,.agg (List.toArray (nsv_v5 x)))],(nsv_13B st r x s q pb sb nb w g4 z8),[],Wd.heap.size⟩ ⟨(by rw [hE2]; rfl),tI⟩ (A13_3 Wd hXd hmd),tI⟩
    have A13_5:nsv_13H0 st M r x s q pb sb nb w g4 z8 4 nsv_n34 [(4,(pt (w.heap.size + 1) 0)),(5,.bool false),(9,(pt (z8 + 1) 0)),(50,.bool (!(recB x r))),(54,(pt sb 0)),(55,(pt w.heap.size 1)),(57,.agg (List.toArray (nsv_v5 x)))]:=by
     intro Wd hXd hmd
     exact holds_anyAll (l:=[9]) (by kernel_rfl) (by simp) ⟨eop nsv_n36 ⟨true,0,[⟨false,2,1,1⟩]⟩ [4,5,9,50,54,56,57] [(!(recB x r)) = true] [(w.heap.size,1,1)] ⟨[(4,(pt (w.heap.size + 1) 0)),(5,.bool false),(9,(pt (z8 + 1) 0)),(50,.bool (!(recB x r))),(54,(pt sb 0)),(56,i6 q.stripe),(57,.agg (List.toArray (nsv_v5 x)))],(nsv_13B st r x s q pb sb nb w g4 z8),[],Wd.heap.size⟩ ⟨(by rw [hE2]; rfl),tI⟩ (A13_3 Wd hXd hmd),tI⟩
    have A13_6:nsv_13H0 st M r x s q pb sb nb w g4 z8 4 nsv_n28 [(4,(pt (w.heap.size + 1) 0)),(5,.bool false),(9,(pt (z8 + 1) 0)),(50,.bool (!(recB x r))),(53,(pt nb 0)),(56,i6 q.stripe),(57,.agg (List.toArray (nsv_v5 x)))]:=by
     intro Wd hXd hmd
     exact holds_anyAll (l:=[7]) (by kernel_rfl) (by simp) ⟨eop nsv_n36 ⟨true,0,[⟨false,1,0,1⟩]⟩ [4,5,9,50,54,56,57] [(!(recB x r)) = true] [(nb,0,1)] ⟨[(4,(pt (w.heap.size + 1) 0)),(5,.bool false),(9,(pt (z8 + 1) 0)),(50,.bool (!(recB x r))),(54,(pt sb 0)),(56,i6 q.stripe),(57,.agg (List.toArray (nsv_v5 x)))],(nsv_13B st r x s q pb sb nb w g4 z8),[],Wd.heap.size⟩ ⟨(by rw [hE2]; rfl),tI⟩ (A13_3 Wd hXd hmd),tI⟩
    have A13_7:nsv_13H0 st M r x s q pb sb nb w g4 z8 5 nsv_n33 [(4,(pt (w.heap.size + 1) 0)),(5,.bool false),(8,(pt z8 0)),(9,(pt (z8 + 1) 0)),(50,.bool (!(recB x r))),(54,(pt sb 0)),(55,(pt w.heap.size 1))]:=by
     intro Wd hXd hmd
     exact holds_anyAll (l:=[9,10]) (by kernel_rfl) (by simp) ⟨eop nsv_n35 ⟨true,0,[⟨false,2,1,1⟩]⟩ [4,5,8,9,50,54,56] [(!(recB x r)) = true] [(w.heap.size,1,1)] ⟨[(4,(pt (w.heap.size + 1) 0)),(5,.bool false),(8,(pt z8 0)),(9,(pt (z8 + 1) 0)),(50,.bool (!(recB x r))),(54,(pt sb 0)),(56,i6 q.stripe)],(nsv_13B st r x s q pb sb nb w g4 z8),[],Wd.heap.size⟩ ⟨(by rw [hE2]; rfl),tI⟩ (A13_4 Wd hXd hmd),eop nsv_n34 ⟨true,0,[⟨false,5,0,10⟩]⟩ [4,5,9,50,54,55,57] [(!(recB x r)) = true] [(z8,0,10)] ⟨[(4,(pt (w.heap.size + 1) 0)),(5,.bool false),(9,(pt (z8 + 1) 0)),(50,.bool (!(recB x r))),(54,(pt sb 0)),(55,(pt w.heap.size 1)),(57,.agg (List.toArray (nsv_v5 x)))],(nsv_13B st r x s q pb sb nb w g4 z8),[],Wd.heap.size⟩ ⟨(by rw [hE2]; rfl),tI⟩ (A13_5 Wd hXd hmd),tI⟩
    have A13_8:nsv_13H0 st M r x s q pb sb nb w g4 z8 5 nsv_n31 [(3,(pt w.heap.size 0)),(4,(pt (w.heap.size + 1) 0)),(5,.bool false),(9,(pt (z8 + 1) 0)),(50,.bool (!(recB x r))),(54,(pt sb 0)),(57,.agg (List.toArray (nsv_v5 x)))]:=by
     intro Wd hXd hmd
     exact holds_anyAll (l:=[8]) (by kernel_rfl) (by simp) ⟨eop nsv_n34 oh1 [4,5,9,50,54,55,57] [(!(recB x r)) = true] [] ⟨[(4,(pt (w.heap.size + 1) 0)),(5,.bool false),(9,(pt (z8 + 1) 0)),(50,.bool (!(recB x r))),(54,(pt sb 0)),(55,(pt w.heap.size 1)),(57,.agg (List.toArray (nsv_v5 x)))],(nsv_13B st r x s q pb sb nb w g4 z8),[],Wd.heap.size⟩ ⟨(by rw [hE2]; rfl),tI⟩ (A13_5 Wd hXd hmd),tI⟩
    have A13_9:nsv_13H0 st M r x s q pb sb nb w g4 z8 5 nsv_n27 [(4,(pt (w.heap.size + 1) 0)),(5,.bool false),(8,(pt z8 0)),(9,(pt (z8 + 1) 0)),(50,.bool (!(recB x r))),(53,(pt nb 0)),(56,i6 q.stripe)]:=by
     intro Wd hXd hmd
     exact holds_anyAll (l:=[7,10]) (by kernel_rfl) (by simp) ⟨eop nsv_n35 ⟨true,0,[⟨false,1,0,1⟩]⟩ [4,5,8,9,50,54,56] [(!(recB x r)) = true] [(nb,0,1)] ⟨[(4,(pt (w.heap.size + 1) 0)),(5,.bool false),(8,(pt z8 0)),(9,(pt (z8 + 1) 0)),(50,.bool (!(recB x r))),(54,(pt sb 0)),(56,i6 q.stripe)],(nsv_13B st r x s q pb sb nb w g4 z8),[],Wd.heap.size⟩ ⟨(by rw [hE2]; rfl),tI⟩ (A13_4 Wd hXd hmd),eop nsv_n28 ⟨true,0,[⟨false,5,0,10⟩]⟩ [4,5,9,50,53,56,57] [(!(recB x r)) = true] [(z8,0,10)] ⟨[(4,(pt (w.heap.size + 1) 0)),(5,.bool false),(9,(pt (z8 + 1) 0)),(50,.bool (!(recB x r))),(53,(pt nb 0)),(56,i6 q.stripe),(57,.agg (List.toArray (nsv_v5 x)))],(nsv_13B st r x s q pb sb nb w g4 z8),[],Wd.heap.size⟩ ⟨(by rw [hE2]; rfl),tI⟩ (A13_6 Wd hXd hmd),tI⟩
    have A13_10:nsv_13H0 st M r x s q pb sb nb w g4 z8 5 nsv_n26 [(4,(pt (w.heap.size + 1) 0)),(5,.bool false),(9,(pt (z8 + 1) 0)),(50,.bool (!(recB x r))),(53,(pt nb 0)),(55,(pt w.heap.size 1)),(57,.agg (List.toArray (nsv_v5 x)))]:=by
     intro Wd hXd hmd
     exact holds_anyAll (l:=[7,9]) (by kernel_rfl) (by simp) ⟨eop nsv_n34 ⟨true,0,[⟨false,1,0,1⟩]⟩ [4,5,9,50,54,55,57] [(!(recB x r)) = true] [(nb,0,1)] ⟨[(4,(pt (w.heap.size + 1) 0)),(5,.bool false),(9,(pt (z8 + 1) 0)),(50,.bool (!(recB x r))),(54,(pt sb 0)),(55,(pt w.heap.size 1)),(57,.agg (List.toArray (nsv_v5 x)))],(nsv_13B st r x s q pb sb nb w g4 z8),[],Wd.heap.size⟩ ⟨(by rw [hE2]; rfl),tI⟩ (A13_5 Wd hXd hmd),eop nsv_n28 ⟨true,0,[⟨false,2,1,1⟩]⟩ [4,5,9,50,53,56,57] [(!(recB x r)) = true] [(w.heap.size,1,1)] ⟨[(4,(pt (w.heap.size + 1) 0)),(5,.bool false),(9,(pt (z8 + 1) 0)),(50,.bool (!(recB x r))),(53,(pt nb 0)),(56,i6 q.stripe),(57,.agg (List.toArray (nsv_v5 x)))],(nsv_13B st r x s q pb sb nb w g4 z8),[],Wd.heap.size⟩ ⟨(by rw [hE2]; rfl),tI⟩ (A13_6 Wd hXd hmd),tI⟩
    have A13_11:nsv_13H0 st M r x s q pb sb nb w g4 z8 5 nsv_n22 [(4,(pt (w.heap.size + 1) 0)),(5,.bool false),(9,(pt (z8 + 1) 0)),(50,.bool (!(recB x r))),(52,(pt nb 0)),(56,i6 q.stripe),(57,.agg (List.toArray (nsv_v5 x)))]:=by
     intro Wd hXd hmd
     exact holds_anyAll (l:=[6]) (by kernel_rfl) (by simp) ⟨eop nsv_n28 oh1 [4,5,9,50,53,56,57] [(!(recB x r)) = true] [] ⟨[(4,(pt (w.heap.size + 1) 0)),(5,.bool false),(9,(pt (z8 + 1) 0)),(50,.bool (!(recB x r))),(53,(pt nb 0)),(56,i6 q.stripe),(57,.agg (List.toArray (nsv_v5 x)))],(nsv_13B st r x s q pb sb nb w g4 z8),[],Wd.heap.size⟩ ⟨(by rw [hE2]; rfl),tI⟩ (A13_6 Wd hXd hmd),tI⟩
    have A13_12:nsv_13H0 st M r x s q pb sb nb w g4 z8 6 nsv_n29 [(3,(pt w.heap.size 0)),(4,(pt (w.heap.size + 1) 0)),(5,.bool false),(8,(pt z8 0)),(9,(pt (z8 + 1) 0)),(50,.bool (!(recB x r))),(54,(pt sb 0))]:=by
     intro Wd hXd hmd
     exact holds_anyAll (l:=[8,10]) (by kernel_rfl) (by simp) ⟨eop nsv_n33 oh1 [4,5,8,9,50,54,55] [(!(recB x r)) = true] [] ⟨[(4,(pt (w.heap.size + 1) 0)),(5,.bool false),(8,(pt z8 0)),(9,(pt (z8 + 1) 0)),(50,.bool (!(recB x r))),(54,(pt sb 0)),(55,(pt w.heap.size 1))],(nsv_13B st r x s q pb sb nb w g4 z8),[],Wd.heap.size⟩ ⟨(by rw [hE2]; rfl),tI⟩ (A13_7 Wd hXd hmd),eop nsv_n31 ⟨true,0,[⟨false,5,0,10⟩]⟩ [3,4,5,9,50,54,57] [(!(recB x r)) = true] [(z8,0,10)] ⟨[(3,(pt w.heap.size 0)),(4,(pt (w.heap.size + 1) 0)),(5,.bool false),(9,(pt (z8 + 1) 0)),(50,.bool (!(recB x r))),(54,(pt sb 0)),(57,.agg (List.toArray (nsv_v5 x)))],(nsv_13B st r x s q pb sb nb w g4 z8),[],Wd.heap.size⟩ ⟨(by rw [hE2]; rfl),tI⟩ (A13_8 Wd hXd hmd),tI⟩
    have A13_13:nsv_13H0 st M r x s q pb sb nb w g4 z8 6 nsv_n25 [(4,(pt (w.heap.size + 1) 0)),(5,.bool false),(8,(pt z8 0)),(9,(pt (z8 + 1) 0)),(50,.bool (!(recB x r))),(53,(pt nb 0)),(55,(pt w.heap.size 1))]:=by
     intro Wd hXd hmd
     exact holds_anyAll (l:=[7,9,10]) (by kernel_rfl) (by simp) ⟨eop nsv_n33 ⟨true,0,[⟨false,1,0,1⟩]⟩ [4,5,8,9,50,54,55] [(!(recB x r)) = true] [(nb,0,1)] ⟨[(4,(pt (w.heap.size + 1) 0)),(5,.bool false),(8,(pt z8 0)),(9,(pt (z8 + 1) 0)),(50,.bool (!(recB x r))),(54,(pt sb 0)),(55,(pt w.heap.size 1))],(nsv_13B st r x s q pb sb nb w g4 z8),[],Wd.heap.size⟩ ⟨(by rw [hE2]; rfl),tI⟩ (A13_7 Wd hXd hmd),eop nsv_n27 ⟨true,0,[⟨false,2,1,1⟩]⟩ [4,5,8,9,50,53,56] [(!(recB x r)) = true] [(w.heap.size,1,1)] ⟨[(4,(pt (w.heap.size + 1) 0)),(5,.bool false),(8,(pt z8 0)),(9,(pt (z8 + 1) 0)),(50,.bool (!(recB x r))),(53,(pt nb 0)),(56,i6 q.stripe)],(nsv_13B st r x s q pb sb nb w g4 z8),[],Wd.heap.size⟩ ⟨(by rw [hE2]; rfl),tI⟩ (A13_9 Wd hXd hmd),eop nsv_n26 ⟨true,0,[⟨false,5,0,10⟩]⟩ [4,5,9,50,53,55,57] [(!(recB x r)) = true] [(z8,0,10)] ⟨[(4,(pt (w.heap.size + 1) 0)),(5,.bool false),(9,(pt (z8 + 1) 0)),(50,.bool (!(recB x r))),(53,(pt nb 0)),(55,(pt w.heap.size 1)),(57,.agg (List.toArray (nsv_v5 x)))],(nsv_13B st r x s q pb sb nb w g4 z8),[],Wd.heap.size⟩ ⟨(by rw [hE2]; rfl),tI⟩ (A13_10 Wd hXd hmd),tI⟩
    have A13_14:nsv_13H0 st M r x s q pb sb nb w g4 z8 6 nsv_n24 [(3,(pt w.heap.size 0)),(4,(pt (w.heap.size + 1) 0)),(5,.bool false),(9,(pt (z8 + 1) 0)),(50,.bool (!(recB x r))),(53,(pt nb 0)),(57,.agg (List.toArray (nsv_v5 x)))]:=by
     intro Wd hXd hmd
     exact holds_anyAll (l:=[7,8]) (by kernel_rfl) (by simp) ⟨eop nsv_n31 ⟨true,0,[⟨false,1,0,1⟩]⟩ [3,4,5,9,50,54,57] [(!(recB x r)) = true] [(nb,0,1)] ⟨[(3,(pt w.heap.size 0)),(4,(pt (w.heap.size + 1) 0)),(5,.bool false),(9,(pt (z8 + 1) 0)),(50,.bool (!(recB x r))),(54,(pt sb 0)),(57,.agg (List.toArray (nsv_v5 x)))],(nsv_13B st r x s q pb sb nb w g4 z8),[],Wd.heap.size⟩ ⟨(by rw [hE2]; rfl),tI⟩ (A13_8 Wd hXd hmd),eop nsv_n26 oh1 [4,5,9,50,53,55,57] [(!(recB x r)) = true] [] ⟨[(4,(pt (w.heap.size + 1) 0)),(5,.bool false),(9,(pt (z8 + 1) 0)),(50,.bool (!(recB x r))),(53,(pt nb 0)),(55,(pt w.heap.size 1)),(57,.agg (List.toArray (nsv_v5 x)))],(nsv_13B st r x s q pb sb nb w g4 z8),[],Wd.heap.size⟩ ⟨(by rw [hE2]; rfl),tI⟩ (A13_10 Wd hXd hmd),tI⟩
    have A13_15:nsv_13H0 st M r x s q pb sb nb w g4 z8 6 nsv_n21 [(4,(pt (w.heap.size + 1) 0)),(5,.bool false),(8,(pt z8 0)),(9,(pt (z8 + 1) 0)),(50,.bool (!(recB x r))),(52,(pt nb 0)),(56,i6 q.stripe)]:=by
     intro Wd hXd hmd
     exact holds_anyAll (l:=[6,10]) (by kernel_rfl) (by simp) ⟨eop nsv_n27 oh1 [4,5,8,9,50,53,56] [(!(recB x r)) = true] [] ⟨[(4,(pt (w.heap.size + 1) 0)),(5,.bool false),(8,(pt z8 0)),(9,(pt (z8 + 1) 0)),(50,.bool (!(recB x r))),(53,(pt nb 0)),(56,i6 q.stripe)],(nsv_13B st r x s q pb sb nb w g4 z8),[],Wd.heap.size⟩ ⟨(by rw [hE2]; rfl),tI⟩ (A13_9 Wd hXd hmd),eop nsv_n22 ⟨true,0,[⟨false,5,0,10⟩]⟩ [4,5,9,50,52,56,57] [(!(recB x r)) = true] [(z8,0,10)] ⟨[(4,(pt (w.heap.size + 1) 0)),(5,.bool false),(9,(pt (z8 + 1) 0)),(50,.bool (!(recB x r))),(52,(pt nb 0)),(56,i6 q.stripe),(57,.agg (List.toArray (nsv_v5 x)))],(nsv_13B st r x s q pb sb nb w g4 z8),[],Wd.heap.size⟩ ⟨(by rw [hE2]; rfl),tI⟩ (A13_11 Wd hXd hmd),tI⟩
    have A13_16:nsv_13H0 st M r x s q pb sb nb w g4 z8 6 nsv_n20 [(4,(pt (w.heap.size + 1) 0)),(5,.bool false),(9,(pt (z8 + 1) 0)),(50,.bool (!(recB x r))),(52,(pt nb 0)),(55,(pt w.heap.size 1)),(57,.agg (List.toArray (nsv_v5 x)))]:=by
     intro Wd hXd hmd
     exact holds_anyAll (l:=[6,9]) (by kernel_rfl) (by simp) ⟨eop nsv_n26 oh1 [4,5,9,50,53,55,57] [(!(recB x r)) = true] [] ⟨[(4,(pt (w.heap.size + 1) 0)),(5,.bool false),(9,(pt (z8 + 1) 0)),(50,.bool (!(recB x r))),(53,(pt nb 0)),(55,(pt w.heap.size 1)),(57,.agg (List.toArray (nsv_v5 x)))],(nsv_13B st r x s q pb sb nb w g4 z8),[],Wd.heap.size⟩ ⟨(by rw [hE2]; rfl),tI⟩ (A13_10 Wd hXd hmd),eop nsv_n22 ⟨true,0,[⟨false,2,1,1⟩]⟩ [4,5,9,50,52,56,57] [(!(recB x r)) = true] [(w.heap.size,1,1)] ⟨[(4,(pt (w.heap.size + 1) 0)),(5,.bool false),(9,(pt (z8 + 1) 0)),(50,.bool (!(recB x r))),(52,(pt nb 0)),(56,i6 q.stripe),(57,.agg (List.toArray (nsv_v5 x)))],(nsv_13B st r x s q pb sb nb w g4 z8),[],Wd.heap.size⟩ ⟨(by rw [hE2]; rfl),tI⟩ (A13_11 Wd hXd hmd),tI⟩
    have A13_17:nsv_13H0 st M r x s q pb sb nb w g4 z8 6 nsv_n16 [(4,(pt (w.heap.size + 1) 0)),(5,.bool false),(9,(pt (z8 + 1) 0)),(50,.bool (!(recB x r))),(51,(pt nb 0)),(56,i6 q.stripe),(57,.agg (List.toArray (nsv_v5 x)))]:=by
     intro Wd hXd hmd
     exact holds_anyAll (l:=[5]) (by kernel_rfl) (by simp) ⟨eop nsv_n22 oh1 [4,5,9,50,52,56,57] [(!(recB x r)) = true] [] ⟨[(4,(pt (w.heap.size + 1) 0)),(5,.bool false),(9,(pt (z8 + 1) 0)),(50,.bool (!(recB x r))),(52,(pt nb 0)),(56,i6 q.stripe),(57,.agg (List.toArray (nsv_v5 x)))],(nsv_13B st r x s q pb sb nb w g4 z8),[],Wd.heap.size⟩ ⟨(by rw [hE2]; rfl),tI⟩ (A13_11 Wd hXd hmd),tI⟩
    have A13_18:nsv_13H0 st M r x s q pb sb nb w g4 z8 7 nsv_n23 [(3,(pt w.heap.size 0)),(4,(pt (w.heap.size + 1) 0)),(5,.bool false),(8,(pt z8 0)),(9,(pt (z8 + 1) 0)),(50,.bool (!(recB x r))),(53,(pt nb 0))]:=by
     intro Wd hXd hmd
     exact holds_anyAll (l:=[7,8,10]) (by kernel_rfl) (by simp) ⟨eop nsv_n29 ⟨true,0,[⟨false,1,0,1⟩]⟩ [3,4,5,8,9,50,54] [(!(recB x r)) = true] [(nb,0,1)] ⟨[(3,(pt w.heap.size 0)),(4,(pt (w.heap.size + 1) 0)),(5,.bool false),(8,(pt z8 0)),(9,(pt (z8 + 1) 0)),(50,.bool (!(recB x r))),(54,(pt sb 0))],(nsv_13B st r x s q pb sb nb w g4 z8),[],Wd.heap.size⟩ ⟨(by rw [hE2]; rfl),tI⟩ (A13_12 Wd hXd hmd),eop nsv_n25 oh1 [4,5,8,9,50,53,55] [(!(recB x r)) = true] [] ⟨[(4,(pt (w.heap.size + 1) 0)),(5,.bool false),(8,(pt z8 0)),(9,(pt (z8 + 1) 0)),(50,.bool (!(recB x r))),(53,(pt nb 0)),(55,(pt w.heap.size 1))],(nsv_13B st r x s q pb sb nb w g4 z8),[],Wd.heap.size⟩ ⟨(by rw [hE2]; rfl),tI⟩ (A13_13 Wd hXd hmd),eop nsv_n24 ⟨true,0,[⟨false,5,0,10⟩]⟩ [3,4,5,9,50,53,57] [(!(recB x r)) = true] [(z8,0,10)] ⟨[(3,(pt w.heap.size 0)),(4,(pt (w.heap.size + 1) 0)),(5,.bool false),(9,(pt (z8 + 1) 0)),(50,.bool (!(recB x r))),(53,(pt nb 0)),(57,.agg (List.toArray (nsv_v5 x)))],(nsv_13B st r x s q pb sb nb w g4 z8),[],Wd.heap.size⟩ ⟨(by rw [hE2]; rfl),tI⟩ (A13_14 Wd hXd hmd),tI⟩
    have A13_19:nsv_13H0 st M r x s q pb sb nb w g4 z8 7 nsv_n19 [(4,(pt (w.heap.size + 1) 0)),(5,.bool false),(8,(pt z8 0)),(9,(pt (z8 + 1) 0)),(50,.bool (!(recB x r))),(52,(pt nb 0)),(55,(pt w.heap.size 1))]:=by
     intro Wd hXd hmd
     exact holds_anyAll (l:=[6,9,10]) (by kernel_rfl) (by simp) ⟨eop nsv_n25 oh1 [4,5,8,9,50,53,55] [(!(recB x r)) = true] [] ⟨[(4,(pt (w.heap.size + 1) 0)),(5,.bool false),(8,(pt z8 0)),(9,(pt (z8 + 1) 0)),(50,.bool (!(recB x r))),(53,(pt nb 0)),(55,(pt w.heap.size 1))],(nsv_13B st r x s q pb sb nb w g4 z8),[],Wd.heap.size⟩ ⟨(by rw [hE2]; rfl),tI⟩ (A13_13 Wd hXd hmd),eop nsv_n21 ⟨true,0,[⟨false,2,1,1⟩]⟩ [4,5,8,9,50,52,56] [(!(recB x r)) = true] [(w.heap.size,1,1)] ⟨[(4,(pt (w.heap.size + 1) 0)),(5,.bool false),(8,(pt z8 0)),(9,(pt (z8 + 1) 0)),(50,.bool (!(recB x r))),(52,(pt nb 0)),(56,i6 q.stripe)],(nsv_13B st r x s q pb sb nb w g4 z8),[],Wd.heap.size⟩ ⟨(by rw [hE2]; rfl),tI⟩ (A13_15 Wd hXd hmd),eop nsv_n20 ⟨true,0,[⟨false,5,0,10⟩]⟩ [4,5,9,50,52,55,57] [(!(recB x r)) = true] [(z8,0,10)] ⟨[(4,(pt (w.heap.size + 1) 0)),(5,.bool false),(9,(pt (z8 + 1) 0)),(50,.bool (!(recB x r))),(52,(pt nb 0)),(55,(pt w.heap.size 1)),(57,.agg (List.toArray (nsv_v5 x)))],(nsv_13B st r x s q pb sb nb w g4 z8),[],Wd.heap.size⟩ ⟨(by rw [hE2]; rfl),tI⟩ (A13_16 Wd hXd hmd),tI⟩
    have A13_20:nsv_13H0 st M r x s q pb sb nb w g4 z8 7 nsv_n18 [(3,(pt w.heap.size 0)),(4,(pt (w.heap.size + 1) 0)),(5,.bool false),(9,(pt (z8 + 1) 0)),(50,.bool (!(recB x r))),(52,(pt nb 0)),(57,.agg (List.toArray (nsv_v5 x)))]:=by
     intro Wd hXd hmd
     exact holds_anyAll (l:=[6,8]) (by kernel_rfl) (by simp) ⟨eop nsv_n24 oh1 [3,4,5,9,50,53,57] [(!(recB x r)) = true] [] ⟨[(3,(pt w.heap.size 0)),(4,(pt (w.heap.size + 1) 0)),(5,.bool false),(9,(pt (z8 + 1) 0)),(50,.bool (!(recB x r))),(53,(pt nb 0)),(57,.agg (List.toArray (nsv_v5 x)))],(nsv_13B st r x s q pb sb nb w g4 z8),[],Wd.heap.size⟩ ⟨(by rw [hE2]; rfl),tI⟩ (A13_14 Wd hXd hmd),eop nsv_n20 oh1 [4,5,9,50,52,55,57] [(!(recB x r)) = true] [] ⟨[(4,(pt (w.heap.size + 1) 0)),(5,.bool false),(9,(pt (z8 + 1) 0)),(50,.bool (!(recB x r))),(52,(pt nb 0)),(55,(pt w.heap.size 1)),(57,.agg (List.toArray (nsv_v5 x)))],(nsv_13B st r x s q pb sb nb w g4 z8),[],Wd.heap.size⟩ ⟨(by rw [hE2]; rfl),tI⟩ (A13_16 Wd hXd hmd),tI⟩
    have A13_21:nsv_13H0 st M r x s q pb sb nb w g4 z8 7 nsv_n15 [(4,(pt (w.heap.size + 1) 0)),(5,.bool false),(8,(pt z8 0)),(9,(pt (z8 + 1) 0)),(50,.bool (!(recB x r))),(51,(pt nb 0)),(56,i6 q.stripe)]:=by
     intro Wd hXd hmd
     exact holds_anyAll (l:=[5,10]) (by kernel_rfl) (by simp) ⟨eop nsv_n21 oh1 [4,5,8,9,50,52,56] [(!(recB x r)) = true] [] ⟨[(4,(pt (w.heap.size + 1) 0)),(5,.bool false),(8,(pt z8 0)),(9,(pt (z8 + 1) 0)),(50,.bool (!(recB x r))),(52,(pt nb 0)),(56,i6 q.stripe)],(nsv_13B st r x s q pb sb nb w g4 z8),[],Wd.heap.size⟩ ⟨(by rw [hE2]; rfl),tI⟩ (A13_15 Wd hXd hmd),eop nsv_n16 ⟨true,0,[⟨false,5,0,10⟩]⟩ [4,5,9,50,51,56,57] [(!(recB x r)) = true] [(z8,0,10)] ⟨[(4,(pt (w.heap.size + 1) 0)),(5,.bool false),(9,(pt (z8 + 1) 0)),(50,.bool (!(recB x r))),(51,(pt nb 0)),(56,i6 q.stripe),(57,.agg (List.toArray (nsv_v5 x)))],(nsv_13B st r x s q pb sb nb w g4 z8),[],Wd.heap.size⟩ ⟨(by rw [hE2]; rfl),tI⟩ (A13_17 Wd hXd hmd),tI⟩
    have A13_22:nsv_13H0 st M r x s q pb sb nb w g4 z8 7 nsv_n14 [(4,(pt (w.heap.size + 1) 0)),(5,.bool false),(9,(pt (z8 + 1) 0)),(50,.bool (!(recB x r))),(51,(pt nb 0)),(55,(pt w.heap.size 1)),(57,.agg (List.toArray (nsv_v5 x)))]:=by
     intro Wd hXd hmd
     exact holds_anyAll (l:=[5,9]) (by kernel_rfl) (by simp) ⟨eop nsv_n20 oh1 [4,5,9,50,52,55,57] [(!(recB x r)) = true] [] ⟨[(4,(pt (w.heap.size + 1) 0)),(5,.bool false),(9,(pt (z8 + 1) 0)),(50,.bool (!(recB x r))),(52,(pt nb 0)),(55,(pt w.heap.size 1)),(57,.agg (List.toArray (nsv_v5 x)))],(nsv_13B st r x s q pb sb nb w g4 z8),[],Wd.heap.size⟩ ⟨(by rw [hE2]; rfl),tI⟩ (A13_16 Wd hXd hmd),eop nsv_n16 ⟨true,0,[⟨false,2,1,1⟩]⟩ [4,5,9,50,51,56,57] [(!(recB x r)) = true] [(w.heap.size,1,1)] ⟨[(4,(pt (w.heap.size + 1) 0)),(5,.bool false),(9,(pt (z8 + 1) 0)),(50,.bool (!(recB x r))),(51,(pt nb 0)),(56,i6 q.stripe),(57,.agg (List.toArray (nsv_v5 x)))],(nsv_13B st r x s q pb sb nb w g4 z8),[],Wd.heap.size⟩ ⟨(by rw [hE2]; rfl),tI⟩ (A13_17 Wd hXd hmd),tI⟩
    have A13_23:nsv_13H0 st M r x s q pb sb nb w g4 z8 7 nsv_n10 [(0,(pt nb 0)),(4,(pt (w.heap.size + 1) 0)),(5,.bool false),(9,(pt (z8 + 1) 0)),(50,.bool (!(recB x r))),(56,i6 q.stripe),(57,.agg (List.toArray (nsv_v5 x)))]:=by
     intro Wd hXd hmd
     exact holds_anyAll (l:=[4]) (by kernel_rfl) (by simp) ⟨eop nsv_n16 oh1 [4,5,9,50,51,56,57] [(!(recB x r)) = true] [] ⟨[(4,(pt (w.heap.size + 1) 0)),(5,.bool false),(9,(pt (z8 + 1) 0)),(50,.bool (!(recB x r))),(51,(pt nb 0)),(56,i6 q.stripe),(57,.agg (List.toArray (nsv_v5 x)))],(nsv_13B st r x s q pb sb nb w g4 z8),[],Wd.heap.size⟩ ⟨(by rw [hE2]; rfl),tI⟩ (A13_17 Wd hXd hmd),tI⟩
    have A13_24:nsv_13H0 st M r x s q pb sb nb w g4 z8 8 nsv_n17 [(3,(pt w.heap.size 0)),(4,(pt (w.heap.size + 1) 0)),(5,.bool false),(8,(pt z8 0)),(9,(pt (z8 + 1) 0)),(50,.bool (!(recB x r))),(52,(pt nb 0))]:=by
     intro Wd hXd hmd
     exact holds_anyAll (l:=[6,8,10]) (by kernel_rfl) (by simp) ⟨eop nsv_n23 oh1 [3,4,5,8,9,50,53] [(!(recB x r)) = true] [] ⟨[(3,(pt w.heap.size 0)),(4,(pt (w.heap.size + 1) 0)),(5,.bool false),(8,(pt z8 0)),(9,(pt (z8 + 1) 0)),(50,.bool (!(recB x r))),(53,(pt nb 0))],(nsv_13B st r x s q pb sb nb w g4 z8),[],Wd.heap.size⟩ ⟨(by rw [hE2]; rfl),tI⟩ (A13_18 Wd hXd hmd),eop nsv_n19 oh1 [4,5,8,9,50,52,55] [(!(recB x r)) = true] [] ⟨[(4,(pt (w.heap.size + 1) 0)),(5,.bool false),(8,(pt z8 0)),(9,(pt (z8 + 1) 0)),(50,.bool (!(recB x r))),(52,(pt nb 0)),(55,(pt w.heap.size 1))],(nsv_13B st r x s q pb sb nb w g4 z8),[],Wd.heap.size⟩ ⟨(by rw [hE2]; rfl),tI⟩ (A13_19 Wd hXd hmd),eop nsv_n18 ⟨true,0,[⟨false,5,0,10⟩]⟩ [3,4,5,9,50,52,57] [(!(recB x r)) = true] [(z8,0,10)] ⟨[(3,(pt w.heap.size 0)),(4,(pt (w.heap.size + 1) 0)),(5,.bool false),(9,(pt (z8 + 1) 0)),(50,.bool (!(recB x r))),(52,(pt nb 0)),(57,.agg (List.toArray (nsv_v5 x)))],(nsv_13B st r x s q pb sb nb w g4 z8),[],Wd.heap.size⟩ ⟨(by rw [hE2]; rfl),tI⟩ (A13_20 Wd hXd hmd),tI⟩
    have A13_25:nsv_13H0 st M r x s q pb sb nb w g4 z8 8 nsv_n13 [(4,(pt (w.heap.size + 1) 0)),(5,.bool false),(8,(pt z8 0)),(9,(pt (z8 + 1) 0)),(50,.bool (!(recB x r))),(51,(pt nb 0)),(55,(pt w.heap.size 1))]:=by
     intro Wd hXd hmd
     exact holds_anyAll (l:=[5,9,10]) (by kernel_rfl) (by simp) ⟨eop nsv_n19 oh1 [4,5,8,9,50,52,55] [(!(recB x r)) = true] [] ⟨[(4,(pt (w.heap.size + 1) 0)),(5,.bool false),(8,(pt z8 0)),(9,(pt (z8 + 1) 0)),(50,.bool (!(recB x r))),(52,(pt nb 0)),(55,(pt w.heap.size 1))],(nsv_13B st r x s q pb sb nb w g4 z8),[],Wd.heap.size⟩ ⟨(by rw [hE2]; rfl),tI⟩ (A13_19 Wd hXd hmd),eop nsv_n15 ⟨true,0,[⟨false,2,1,1⟩]⟩ [4,5,8,9,50,51,56] [(!(recB x r)) = true] [(w.heap.size,1,1)] ⟨[(4,(pt (w.heap.size + 1) 0)),(5,.bool false),(8,(pt z8 0)),(9,(pt (z8 + 1) 0)),(50,.bool (!(recB x r))),(51,(pt nb 0)),(56,i6 q.stripe)],(nsv_13B st r x s q pb sb nb w g4 z8),[],Wd.heap.size⟩ ⟨(by rw [hE2]; rfl),tI⟩ (A13_21 Wd hXd hmd),eop nsv_n14 ⟨true,0,[⟨false,5,0,10⟩]⟩ [4,5,9,50,51,55,57] [(!(recB x r)) = true] [(z8,0,10)] ⟨[(4,(pt (w.heap.size + 1) 0)),(5,.bool false),(9,(pt (z8 + 1) 0)),(50,.bool (!(recB x r))),(51,(pt nb 0)),(55,(pt w.heap.size 1)),(57,.agg (List.toArray (nsv_v5 x)))],(nsv_13B st r x s q pb sb nb w g4 z8),[],Wd.heap.size⟩ ⟨(by rw [hE2]; rfl),tI⟩ (A13_22 Wd hXd hmd),tI⟩
    have A13_26:nsv_13H0 st M r x s q pb sb nb w g4 z8 8 nsv_n12 [(3,(pt w.heap.size 0)),(4,(pt (w.heap.size + 1) 0)),(5,.bool false),(9,(pt (z8 + 1) 0)),(50,.bool (!(recB x r))),(51,(pt nb 0)),(57,.agg (List.toArray (nsv_v5 x)))]:=by
     intro Wd hXd hmd
     exact holds_anyAll (l:=[5,8]) (by kernel_rfl) (by simp) ⟨eop nsv_n18 oh1 [3,4,5,9,50,52,57] [(!(recB x r)) = true] [] ⟨[(3,(pt w.heap.size 0)),(4,(pt (w.heap.size + 1) 0)),(5,.bool false),(9,(pt (z8 + 1) 0)),(50,.bool (!(recB x r))),(52,(pt nb 0)),(57,.agg (List.toArray (nsv_v5 x)))],(nsv_13B st r x s q pb sb nb w g4 z8),[],Wd.heap.size⟩ ⟨(by rw [hE2]; rfl),tI⟩ (A13_20 Wd hXd hmd),eop nsv_n14 oh1 [4,5,9,50,51,55,57] [(!(recB x r)) = true] [] ⟨[(4,(pt (w.heap.size + 1) 0)),(5,.bool false),(9,(pt (z8 + 1) 0)),(50,.bool (!(recB x r))),(51,(pt nb 0)),(55,(pt w.heap.size 1)),(57,.agg (List.toArray (nsv_v5 x)))],(nsv_13B st r x s q pb sb nb w g4 z8),[],Wd.heap.size⟩ ⟨(by rw [hE2]; rfl),tI⟩ (A13_22 Wd hXd hmd),tI⟩
    have A13_27:nsv_13H0 st M r x s q pb sb nb w g4 z8 8 nsv_n9 [(0,(pt nb 0)),(4,(pt (w.heap.size + 1) 0)),(5,.bool false),(8,(pt z8 0)),(9,(pt (z8 + 1) 0)),(50,.bool (!(recB x r))),(56,i6 q.stripe)]:=by
     intro Wd hXd hmd
     exact holds_anyAll (l:=[4,10]) (by kernel_rfl) (by simp) ⟨eop nsv_n15 oh1 [4,5,8,9,50,51,56] [(!(recB x r)) = true] [] ⟨[(4,(pt (w.heap.size + 1) 0)),(5,.bool false),(8,(pt z8 0)),(9,(pt (z8 + 1) 0)),(50,.bool (!(recB x r))),(51,(pt nb 0)),(56,i6 q.stripe)],(nsv_13B st r x s q pb sb nb w g4 z8),[],Wd.heap.size⟩ ⟨(by rw [hE2]; rfl),tI⟩ (A13_21 Wd hXd hmd),eop nsv_n10 ⟨true,0,[⟨false,5,0,10⟩]⟩ [0,4,5,9,50,56,57] [(!(recB x r)) = true] [(z8,0,10)] ⟨[(0,(pt nb 0)),(4,(pt (w.heap.size + 1) 0)),(5,.bool false),(9,(pt (z8 + 1) 0)),(50,.bool (!(recB x r))),(56,i6 q.stripe),(57,.agg (List.toArray (nsv_v5 x)))],(nsv_13B st r x s q pb sb nb w g4 z8),[],Wd.heap.size⟩ ⟨(by rw [hE2]; rfl),tI⟩ (A13_23 Wd hXd hmd),tI⟩
    have A13_28:nsv_13H0 st M r x s q pb sb nb w g4 z8 8 nsv_n8 [(0,(pt nb 0)),(4,(pt (w.heap.size + 1) 0)),(5,.bool false),(9,(pt (z8 + 1) 0)),(50,.bool (!(recB x r))),(55,(pt w.heap.size 1)),(57,.agg (List.toArray (nsv_v5 x)))]:=by
     intro Wd hXd hmd
     exact holds_anyAll (l:=[4,9]) (by kernel_rfl) (by simp) ⟨eop nsv_n14 oh1 [4,5,9,50,51,55,57] [(!(recB x r)) = true] [] ⟨[(4,(pt (w.heap.size + 1) 0)),(5,.bool false),(9,(pt (z8 + 1) 0)),(50,.bool (!(recB x r))),(51,(pt nb 0)),(55,(pt w.heap.size 1)),(57,.agg (List.toArray (nsv_v5 x)))],(nsv_13B st r x s q pb sb nb w g4 z8),[],Wd.heap.size⟩ ⟨(by rw [hE2]; rfl),tI⟩ (A13_22 Wd hXd hmd),eop nsv_n10 ⟨true,0,[⟨false,2,1,1⟩]⟩ [0,4,5,9,50,56,57] [(!(recB x r)) = true] [(w.heap.size,1,1)] ⟨[(0,(pt nb 0)),(4,(pt (w.heap.size + 1) 0)),(5,.bool false),(9,(pt (z8 + 1) 0)),(50,.bool (!(recB x r))),(56,i6 q.stripe),(57,.agg (List.toArray (nsv_v5 x)))],(nsv_13B st r x s q pb sb nb w g4 z8),[],Wd.heap.size⟩ ⟨(by rw [hE2]; rfl),tI⟩ (A13_23 Wd hXd hmd),tI⟩
    have A13_29:nsv_13H0 st M r x s q pb sb nb w g4 z8 9 nsv_n11 [(3,(pt w.heap.size 0)),(4,(pt (w.heap.size + 1) 0)),(5,.bool false),(8,(pt z8 0)),(9,(pt (z8 + 1) 0)),(50,.bool (!(recB x r))),(51,(pt nb 0))]:=by
     intro Wd hXd hmd
     exact holds_anyAll (l:=[5,8,10]) (by kernel_rfl) (by simp) ⟨eop nsv_n17 oh1 [3,4,5,8,9,50,52] [(!(recB x r)) = true] [] ⟨[(3,(pt w.heap.size 0)),(4,(pt (w.heap.size + 1) 0)),(5,.bool false),(8,(pt z8 0)),(9,(pt (z8 + 1) 0)),(50,.bool (!(recB x r))),(52,(pt nb 0))],(nsv_13B st r x s q pb sb nb w g4 z8),[],Wd.heap.size⟩ ⟨(by rw [hE2]; rfl),tI⟩ (A13_24 Wd hXd hmd),eop nsv_n13 oh1 [4,5,8,9,50,51,55] [(!(recB x r)) = true] [] ⟨[(4,(pt (w.heap.size + 1) 0)),(5,.bool false),(8,(pt z8 0)),(9,(pt (z8 + 1) 0)),(50,.bool (!(recB x r))),(51,(pt nb 0)),(55,(pt w.heap.size 1))],(nsv_13B st r x s q pb sb nb w g4 z8),[],Wd.heap.size⟩ ⟨(by rw [hE2]; rfl),tI⟩ (A13_25 Wd hXd hmd),eop nsv_n12 ⟨true,0,[⟨false,5,0,10⟩]⟩ [3,4,5,9,50,51,57] [(!(recB x r)) = true] [(z8,0,10)] ⟨[(3,(pt w.heap.size 0)),(4,(pt (w.heap.size + 1) 0)),(5,.bool false),(9,(pt (z8 + 1) 0)),(50,.bool (!(recB x r))),(51,(pt nb 0)),(57,.agg (List.toArray (nsv_v5 x)))],(nsv_13B st r x s q pb sb nb w g4 z8),[],Wd.heap.size⟩ ⟨(by rw [hE2]; rfl),tI⟩ (A13_26 Wd hXd hmd),tI⟩
    have A13_30:nsv_13H0 st M r x s q pb sb nb w g4 z8 9 nsv_n7 [(0,(pt nb 0)),(4,(pt (w.heap.size + 1) 0)),(5,.bool false),(8,(pt z8 0)),(9,(pt (z8 + 1) 0)),(50,.bool (!(recB x r))),(55,(pt w.heap.size 1))]:=by
     intro Wd hXd hmd
     exact holds_anyAll (l:=[4,9,10]) (by kernel_rfl) (by simp) ⟨eop nsv_n13 oh1 [4,5,8,9,50,51,55] [(!(recB x r)) = true] [] ⟨[(4,(pt (w.heap.size + 1) 0)),(5,.bool false),(8,(pt z8 0)),(9,(pt (z8 + 1) 0)),(50,.bool (!(recB x r))),(51,(pt nb 0)),(55,(pt w.heap.size 1))],(nsv_13B st r x s q pb sb nb w g4 z8),[],Wd.heap.size⟩ ⟨(by rw [hE2]; rfl),tI⟩ (A13_25 Wd hXd hmd),eop nsv_n9 ⟨true,0,[⟨false,2,1,1⟩]⟩ [0,4,5,8,9,50,56] [(!(recB x r)) = true] [(w.heap.size,1,1)] ⟨[(0,(pt nb 0)),(4,(pt (w.heap.size + 1) 0)),(5,.bool false),(8,(pt z8 0)),(9,(pt (z8 + 1) 0)),(50,.bool (!(recB x r))),(56,i6 q.stripe)],(nsv_13B st r x s q pb sb nb w g4 z8),[],Wd.heap.size⟩ ⟨(by rw [hE2]; rfl),tI⟩ (A13_27 Wd hXd hmd),eop nsv_n8 ⟨true,0,[⟨false,5,0,10⟩]⟩ [0,4,5,9,50,55,57] [(!(recB x r)) = true] [(z8,0,10)] ⟨[(0,(pt nb 0)),(4,(pt (w.heap.size + 1) 0)),(5,.bool false),(9,(pt (z8 + 1) 0)),(50,.bool (!(recB x r))),(55,(pt w.heap.size 1)),(57,.agg (List.toArray (nsv_v5 x)))],(nsv_13B st r x s q pb sb nb w g4 z8),[],Wd.heap.size⟩ ⟨(by rw [hE2]; rfl),tI⟩ (A13_28 Wd hXd hmd),tI⟩
    have A13_31:nsv_13H0 st M r x s q pb sb nb w g4 z8 9 nsv_n6 [(0,(pt nb 0)),(3,(pt w.heap.size 0)),(4,(pt (w.heap.size + 1) 0)),(5,.bool false),(9,(pt (z8 + 1) 0)),(50,.bool (!(recB x r))),(57,.agg (List.toArray (nsv_v5 x)))]:=by
     intro Wd hXd hmd
     exact holds_anyAll (l:=[4,8]) (by kernel_rfl) (by simp) ⟨eop nsv_n12 oh1 [3,4,5,9,50,51,57] [(!(recB x r)) = true] [] ⟨[(3,(pt w.heap.size 0)),(4,(pt (w.heap.size + 1) 0)),(5,.bool false),(9,(pt (z8 + 1) 0)),(50,.bool (!(recB x r))),(51,(pt nb 0)),(57,.agg (List.toArray (nsv_v5 x)))],(nsv_13B st r x s q pb sb nb w g4 z8),[],Wd.heap.size⟩ ⟨(by rw [hE2]; rfl),tI⟩ (A13_26 Wd hXd hmd),eop nsv_n8 oh1 [0,4,5,9,50,55,57] [(!(recB x r)) = true] [] ⟨[(0,(pt nb 0)),(4,(pt (w.heap.size + 1) 0)),(5,.bool false),(9,(pt (z8 + 1) 0)),(50,.bool (!(recB x r))),(55,(pt w.heap.size 1)),(57,.agg (List.toArray (nsv_v5 x)))],(nsv_13B st r x s q pb sb nb w g4 z8),[],Wd.heap.size⟩ ⟨(by rw [hE2]; rfl),tI⟩ (A13_28 Wd hXd hmd),tI⟩
    have A13_32:nsv_13H0 st M r x s q pb sb nb w g4 z8 10 nsv_n5 [(0,(pt nb 0)),(3,(pt w.heap.size 0)),(4,(pt (w.heap.size + 1) 0)),(5,.bool false),(8,(pt z8 0)),(9,(pt (z8 + 1) 0)),(50,.bool (!(recB x r)))]:=by
     intro Wd hXd hmd
     exact holds_anyAll (l:=[4,8,10]) (by kernel_rfl) (by simp) ⟨eop nsv_n11 oh1 [3,4,5,8,9,50,51] [(!(recB x r)) = true] [] ⟨[(3,(pt w.heap.size 0)),(4,(pt (w.heap.size + 1) 0)),(5,.bool false),(8,(pt z8 0)),(9,(pt (z8 + 1) 0)),(50,.bool (!(recB x r))),(51,(pt nb 0))],(nsv_13B st r x s q pb sb nb w g4 z8),[],Wd.heap.size⟩ ⟨(by rw [hE2]; rfl),tI⟩ (A13_29 Wd hXd hmd),eop nsv_n7 oh1 [0,4,5,8,9,50,55] [(!(recB x r)) = true] [] ⟨[(0,(pt nb 0)),(4,(pt (w.heap.size + 1) 0)),(5,.bool false),(8,(pt z8 0)),(9,(pt (z8 + 1) 0)),(50,.bool (!(recB x r))),(55,(pt w.heap.size 1))],(nsv_13B st r x s q pb sb nb w g4 z8),[],Wd.heap.size⟩ ⟨(by rw [hE2]; rfl),tI⟩ (A13_30 Wd hXd hmd),eop nsv_n6 ⟨true,0,[⟨false,5,0,10⟩]⟩ [0,3,4,5,9,50,57] [(!(recB x r)) = true] [(z8,0,10)] ⟨[(0,(pt nb 0)),(3,(pt w.heap.size 0)),(4,(pt (w.heap.size + 1) 0)),(5,.bool false),(9,(pt (z8 + 1) 0)),(50,.bool (!(recB x r))),(57,.agg (List.toArray (nsv_v5 x)))],(nsv_13B st r x s q pb sb nb w g4 z8),[],Wd.heap.size⟩ ⟨(by rw [hE2]; rfl),tI⟩ (A13_31 Wd hXd hmd),tI⟩
    have A13_33:nsv_13H0 st M r x s q pb sb nb w g4 z8 11 nsv_n4 [(0,(pt nb 0)),(3,(pt w.heap.size 0)),(4,(pt (w.heap.size + 1) 0)),(5,.bool false),(8,(pt z8 0)),(9,(pt (z8 + 1) 0)),(49,.bool (!(recB x r)))]:=by
     intro Wd hXd hmd
     exact holds_anyAll (l:=[3]) (by kernel_rfl) (by simp) ⟨eop nsv_n5 oh0 [0,3,4,5,8,9,50] [] [] ⟨[(0,(pt nb 0)),(3,(pt w.heap.size 0)),(4,(pt (w.heap.size + 1) 0)),(5,.bool false),(8,(pt z8 0)),(9,(pt (z8 + 1) 0)),(50,.bool (!(recB x r)))],(nsv_13B st r x s q pb sb nb w g4 z8),[],Wd.heap.size⟩ tI (A13_32 Wd hXd hmd),tI⟩
    have A13_34:nsv_13H0 st M r x s q pb sb nb w g4 z8 12 nsv_n3 [(0,(pt nb 0)),(3,(pt w.heap.size 0)),(4,(pt (w.heap.size + 1) 0)),(5,.bool false),(8,(pt z8 0)),(9,(pt (z8 + 1) 0)),(47,.agg (List.toArray (nsv_v5 x))),(48,.agg (List.toArray (nsv_v3 r)))]:=by
     intro Wd hXd hmd
     exact holds_anyAll (l:=[2]) (by kernel_rfl) (by simp) ⟨eop nsv_n4 oh2 [0,3,4,5,8,9,49] [True] [] ⟨[(0,(pt nb 0)),(3,(pt w.heap.size 0)),(4,(pt (w.heap.size + 1) 0)),(5,.bool false),(8,(pt z8 0)),(9,(pt (z8 + 1) 0)),(49,.bool (!(recB x r)))],(nsv_13B st r x s q pb sb nb w g4 z8),[],Wd.heap.size⟩ ⟨tI,tI⟩ (A13_33 Wd hXd hmd),tI⟩
    have A13_35:nsv_13H0 st M r x s q pb sb nb w g4 z8 13 nsv_n2 [(0,(pt nb 0)),(3,(pt w.heap.size 0)),(4,(pt (w.heap.size + 1) 0)),(5,.bool false),(6,(pt g4 0)),(8,(pt z8 0)),(9,(pt (z8 + 1) 0)),(47,.agg (List.toArray (nsv_v5 x)))]:=by
     intro Wd hXd hmd
     exact holds_anyAll (l:=[1]) (by kernel_rfl) (by simp) ⟨eop nsv_n3 (oA 4 0 10) [0,3,4,5,8,9,47,48] [] [(g4,0,10)] ⟨[(0,(pt nb 0)),(3,(pt w.heap.size 0)),(4,(pt (w.heap.size + 1) 0)),(5,.bool false),(8,(pt z8 0)),(9,(pt (z8 + 1) 0)),(47,.agg (List.toArray (nsv_v5 x))),(48,.agg (List.toArray (nsv_v3 r)))],(nsv_13B st r x s q pb sb nb w g4 z8),[],Wd.heap.size⟩ tI (A13_34 Wd hXd hmd),tI⟩
    have A13_36:nsv_13H0 st M r x s q pb sb nb w g4 z8 13 nsv_n1 [(0,(pt nb 0)),(3,(pt w.heap.size 0)),(4,(pt (w.heap.size + 1) 0)),(5,.bool false),(8,(pt z8 0)),(9,(pt (z8 + 1) 0)),(48,.agg (List.toArray (nsv_v3 r)))]:=by
     intro Wd hXd hmd
     exact holds_anyAll (l:=[0]) (by kernel_rfl) (by simp) ⟨eop nsv_n3 (oA 5 0 10) [0,3,4,5,8,9,47,48] [] [(z8,0,10)] ⟨[(0,(pt nb 0)),(3,(pt w.heap.size 0)),(4,(pt (w.heap.size + 1) 0)),(5,.bool false),(8,(pt z8 0)),(9,(pt (z8 + 1) 0)),(47,.agg (List.toArray (nsv_v5 x))),(48,.agg (List.toArray (nsv_v3 r)))],(nsv_13B st r x s q pb sb nb w g4 z8),[],Wd.heap.size⟩ tI (A13_34 Wd hXd hmd),tI⟩
    have A13_37:nsv_13H0 st M r x s q pb sb nb w g4 z8 14 #[false,false,false,false,false,false,false,false,false,false,false,false,false,false] [(0,(pt nb 0)),(3,(pt w.heap.size 0)),(4,(pt (w.heap.size + 1) 0)),(5,.bool false),(6,(pt g4 0)),(8,(pt z8 0)),(9,(pt (z8 + 1) 0))]:=by
     intro Wd hXd hmd
     exact holds_anyAll (l:=[0,1]) (by kernel_rfl) (by simp) ⟨eop nsv_n2 (oA 5 0 10) [0,3,4,5,6,8,9,47] [] [(z8,0,10)] ⟨[(0,(pt nb 0)),(3,(pt w.heap.size 0)),(4,(pt (w.heap.size + 1) 0)),(5,.bool false),(6,(pt g4 0)),(8,(pt z8 0)),(9,(pt (z8 + 1) 0)),(47,.agg (List.toArray (nsv_v5 x)))],(nsv_13B st r x s q pb sb nb w g4 z8),[],Wd.heap.size⟩ tI (A13_35 Wd hXd hmd),eop nsv_n1 (oA 4 0 10) [0,3,4,5,8,9,48] [] [(g4,0,10)] ⟨[(0,(pt nb 0)),(3,(pt w.heap.size 0)),(4,(pt (w.heap.size + 1) 0)),(5,.bool false),(8,(pt z8 0)),(9,(pt (z8 + 1) 0)),(48,.agg (List.toArray (nsv_v3 r)))],(nsv_13B st r x s q pb sb nb w g4 z8),[],Wd.heap.size⟩ tI (A13_36 Wd hXd hmd),tI⟩
    exact holds_anyStart (by kernel_rfl) (by kernel_rfl) (by kernel_rfl) (by kernel_rfl) (A13_37 W1 (hP.kept hm1.kept (fun _ _ h=>h)) (hm1.off (fun _ h=>h.elim) (Kept.refl (fun _=>False) W1) (fun _ h=>h.elim) (fun _ _ h=>h)))
   intro W2 hXW2 hmW2
   refine hgE 3 [] [4,5,9,60] [] [] [.code [1,1,1,1,1,0,1],.code [1,1,1,1,1,1]] ⟨[(4,(pt (w.heap.size + 1) 0)),(5,.bool false),(9,(pt (z8 + 1) 0)),(60,.bool ((setE M q.stripe x) != 0))],(nsv_b4 st r x s q pb sb nb w g4 z8),[],W2.heap.size⟩ ?_
   rcases Bool.eq_false_or_eq_true ((setE M q.stripe x) != 0) with hF | hF
   ·skip
    have hok2:servOk M q = false:=by
     rw [hok]
     exact beq_eq_false_iff_ne.2 (bne_iff_ne.1 hF)
    have hsy:servS M q = ⟨0,0,0,blankR 0⟩:=by
     unfold servS
     rw [hok2]
     rfl
    refine hgE 10 [oh1,oh0,(oA 3 0 13),oh0] [4,5,9] [oE (((setE M q.stripe x) != 0) = true) hF] [(w.heap.size + 1,0,13)] [.code [1,1,1,1,1,0,1,0,1],.code [1,1,1,1,1,1]] ⟨[(4,(pt (w.heap.size + 1) 0)),(5,.bool false),(9,(pt (z8 + 1) 0))],(nsv_b4 st r x s q pb sb nb w g4 z8),[],W2.heap.size⟩ ?_
    refine hrt [[⟨false,3,0,13⟩]] [.agg (List.toArray (nsv_v2)),.bool false] [(w.heap.size + 1,0,13)] ?_
    intro wx hm
    refine ⟨by rw [hsy,hok2]; rfl,?_,(hmW2.back2 hm).kept⟩
    rw [hpl]
    exact hXW2.kept hm.kept (by rw [mine_set]; exact hnT)
   ·skip
    have hok2:servOk M q = true:=by
     rw [hok]
     exact beq_iff_eq.2 (bne_eq_false_iff_eq.1 hF)
    have hsy:servS M q = s:=by
     unfold servS
     rw [hok2,hr,hx]
     rfl
    refine hgE 11 nsv_n41 [4,5] [oE (((setE M q.stripe x) != 0) = false) hF] [(z8 + 1,0,13),(w.heap.size + 1,0,13)] [.code [1,1,1,1,1,1,1]] ⟨[(4,(pt (w.heap.size + 1) 0)),(5,.bool true)],(nsv_b5 st r x s q pb sb nb w g4 z8),[],W2.heap.size⟩ ?_
    refine hrt [[⟨false,3,0,13⟩]] [.agg (List.toArray (nsv_v6 s)),.bool true] [(w.heap.size + 1,0,13)] ?_
    intro wx hm
    refine ⟨by rw [hsy,hok2]; rfl,?_,(hmW2.back2 hm).kept⟩
    rw [hpl]
    exact hXW2.kept hm.kept (by rw [mine_set]; exact hnT)
 have H1:∀ (g4 y4:Nat),z2 ≤ g4 → z2 ≤ y4 → Holds [] Try.prog (bodyOf Try.f12) 63 w (fun _=>False) (bodyPost Try.prog Try.f12 (fun e w'=>e = .returned (.tuple #[.agg (servS M q).cells.toArray,.bool (servOk M q)]) ∧ PlatAt 64 80 w' pb (servPl M q) ∧ Kept (minePl pb M) w w')) (.any [1,1,0] 4 nsv_n32 :: [.code [1,1,1]]) ⟨[(6,(pt g4 0)),(0,(pt nb 0)),(3,(pt w.heap.size 0)),(4,(pt (w.heap.size + 1) 0)),(5,.bool false),(28,.tuple #[.agg (List.toArray (nsv_v3 r)),.int .i64 0])],(nsv_b2 st q pb sb nb w g4),[],y4⟩:=by
  intro g4 y4 hg4 hy4
  refine holds_tail panicOk_body _ _ (nsv_t5 st r q pb sb nb w g4 y4) trivial ?_
  refine holds_done (by kernel_rfl) ?_
  exact HZ g4 _ (by omega) (by omega)
 refine holds_float (fl:=10) (t:=43) (d:=6) (cs:=(nsv_v4)) (ls0:=nsv_n30) (ls1:=nsv_n32) (f:=4) 8 _ _ (by kernel_rfl) (by kernel_rfl) (by kernel_rfl) (by kernel_rfl) (by decide) (by kernel_rfl) (by kernel_rfl) (by kernel_rfl) (nsv_q4 st r q pb sb nb w z2) ⟨(fun wx hm=>by have h:=get_pl M sb pb st q.stripe hk hk2 hoff wx (hP.kept hm.2.kept (fun _ _ h=>h)) (hm.2.at_ 0 rfl); rw [hr] at h; exact h),trivial⟩ H1 ?_
 intro y4 hy4
 replace hy4:z2 ≤ y4:=hy4
 refine holds_tail panicOk_body _ _ (nsv_t6 st r q pb sb nb w y4) trivial ?_
 refine holds_done (by kernel_rfl) ?_
 exact HZ _ _ (by omega) (by omega)
theorem serve_pl (M:Pl) (pb sb nb:Nat) (st:Int) (q:AskM) (hq:AskOk q) (hk:q.stripe < st) (hk2:q.stripe < (M.n:Int)) (hoff:M.off = false) (ha:M.acts < 4611686018427387900) (hsb:¬ minePl pb M sb) (hnb:¬ minePl pb M nb) (hne:¬ sb = nb) (w:World) (hP:PlatAt 64 80 w pb M) (hs:Blk w sb 82 [.pointer (some ⟨pb,0,none⟩),.int .i64 st]) (hnd:Blk w nb 69 [.pointer (some ⟨sb,0,none⟩),.int .i64 st]) :
  Calls Try.prog 12 #[.pointer (some ⟨nb,0,none⟩),.agg #[.int .i64 q.kind,.int .i64 q.stripe,.int .i64 q.epoch,.int .i64 q.seq,.int .i64 q.mask,.int .i64 q.node,.int .i64 q.oe,.int .i64 q.os,.string q.block]] w (fun e w'=>e = .returned (.tuple #[.agg (servS M q).cells.toArray,.bool (servOk M q)]) ∧ PlatAt 64 80 w' pb (servPl M q) ∧ Kept (minePl pb M) w w'):=by
 have hs0:=hq.stripe
 have hrk:=got_ok M q.stripe hs0
 by_cases h7:7 < q.kind
 ·have e:applyM (gotM M q.stripe) q = (gotM M q.stripe,⟨6,0,0,blankR 0⟩):=by
   unfold applyM
   rw [decide_eq_true (show q.kind > 7 from h7),cond_true]
  have eb:recB (behM M q) (gotM M q.stripe) = true:=by
   unfold behM
   rw [e]
   exact (recB_iff _ _).2 rfl
  have hok:servOk M q = true:=by
   unfold servOk
   rw [eb]
   rfl
  have hpl:servPl M q = M:=by
   unfold servPl
   rw [eb]
   rfl
  have hsy:servS M q = ⟨6,0,0,blankR 0⟩:=by
   unfold servS
   rw [hok,e]
   rfl
  refine (serve_bad pb sb nb st q hq h7 hne w hs hnd).mono fun e w' ⟨h1,h2⟩=>⟨?_,?_,h2.mono (fun _ _ h=>h.elim)⟩
  ·rw [hsy,hok]
   exact h1
  ·rw [hpl]
   exact hP.kept h2 (fun _ _ h=>h)
 ·exact serve_any0 M pb sb nb st q _ _ _ rfl rfl hrk (apply_ok hrk hq) hq (by omega) ⟨hs0.1,hk⟩ ⟨hs0.1,hk2⟩ hoff ha hsb hnb hne w hP hs hnd
end Go.Proofs.Ytfiheghjhgnblaa
