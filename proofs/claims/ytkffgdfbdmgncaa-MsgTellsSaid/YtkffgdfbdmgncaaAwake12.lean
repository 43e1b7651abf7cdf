import Derived.Test.YtkffgdfbdmgncaaGet12
namespace Go.Proofs.Ytkffgdfbdmgncaa
open Go.RowKit
def awL:LetM:=⟨200,100,1,false,⟨8,0,0,0,0,0,0,0,noText⟩,zeroS⟩
theorem awOkL:rightL awL = true:=by kernel_rfl
theorem awSize:(putT awL).size = 54:=by rw [putT_right awOkL,size_frameT,len_layT]; kernel_rfl
def awk_v1:List Value:=[.int .i64 200,.int .i64 100,.int .i64 1,.bool false,.int .i64 8,.int .i64 0,.int .i64 0,.int .i64 0,.int .i64 0,.int .i64 0,.int .i64 0,.int .i64 0,.string ⟨#[]⟩,.int .i64 0,.int .i64 0,.int .i64 0,.bool false,.int .i64 0,.int .i64 0,.int .i64 0,.string ⟨#[]⟩,.bool false,.int .i64 0,.int .i64 0,.int .i64 0,.string ⟨#[]⟩]
def awk_v2:List Value:=[.int .i64 0,.int .i64 0,.int .i64 0,.bool false,.int .i64 0,.int .i64 0,.int .i64 0,.int .i64 0,.int .i64 0,.int .i64 0,.int .i64 0,.int .i64 0,.string ⟨#[]⟩,.int .i64 0,.int .i64 0,.int .i64 0,.bool false,.int .i64 0,.int .i64 0,.int .i64 0,.string ⟨#[]⟩,.bool false,.int .i64 0,.int .i64 0,.int .i64 0,.string ⟨#[]⟩]
set_option maxRecDepth 100000 in
set_option maxHeartbeats 4000000 in
theorem awake12P  (w:World) :
  Calls Try.prog 9 #[] w (RetK (.bool true) w):=by
 refine calls_of_holds (S:=(fun _=>False)) (l:=[]) (n:=48) Try.func9 (body_of (by kernel_rfl)) rfl (by simp) (MemOk.none w _) ?_
 refine hgo 17 [oh0,oh0,oh0,oh0,⟨false,0,[⟨false,0,0,26⟩]⟩,⟨false,0,[⟨false,0,0,26⟩]⟩] [0,1,11] [] [(w.heap.size,0,26),(w.heap.size,0,26)] [.ops [1,1,0] [1,2,3,4,5,6],.code [1,1,1]] ⟨[(0,.bool false),(1,(pt w.heap.size 0)),(11,.agg (List.toArray (awk_v1)))],[⟨w.heap.size,31,true,(awk_v1)⟩],[],w.heap.size + 1⟩ trivial ?_
 refine hcp (.tuple #[.string (putT awL),.int .i64 0]) 10 [.agg (List.toArray (awk_v1))] (some 12) [] trivial rfl (fun wx hm=>by have h:=put_any awL wx; unfold putE at h; rw [awOkL] at h; exact h) fun z2 hz2=>?_
 replace hz2:w.heap.size + 1 ≤ z2:=hz2
 refine hgo 12 [oh0,oh0,oh0,oh0,oh0,oh0] [0,1,2,3,16] [] [] [.ops [1,1,1,0] [1,2,3,4,5,6,7],.code [1,1,1,1]] ⟨[(0,.bool false),(1,(pt w.heap.size 0)),(2,.string (putT awL)),(3,.int .i64 0),(16,.string (putT awL))],[⟨w.heap.size,31,true,(awk_v1)⟩],[],z2⟩ trivial ?_
 refine hcp (.tuple #[.agg (List.toArray (awk_v1)),.int .i64 0]) 12 [.string (putT awL)] (some 17) [] trivial rfl (fun wx hm=>by have h:=getLet_any (putT awL) (by rw [awSize]; decide) wx; rw [← getV_some (get_put awOkL)] at h; exact h) fun z4 hz4=>?_
 replace hz4:z2 ≤ z4:=hz4
 refine hgo 12 [oh0,oh0,oh0,oh0,⟨false,0,[⟨false,1,0,26⟩]⟩,oh0] [0,1,2,3,4,5] [] [(z4,0,26)] [.ops [1,1,1,1,0] [0,1,2,3,4,5,6],.code [1,1,1,1,1]] ⟨[(0,.bool false),(1,(pt w.heap.size 0)),(2,.string (putT awL)),(3,.int .i64 0),(4,(pt z4 0)),(5,.int .i64 0)],[⟨w.heap.size,31,true,(awk_v1)⟩,⟨z4,31,true,(awk_v1)⟩],[],z4 + 1⟩ trivial ?_
 refine hcp (.tuple #[.agg (List.toArray (awk_v2)),.int .i64 120]) 12 [.string ⟨#[]⟩] (some 21) [] trivial rfl (fun wx hm=>by have h:=getLet_any noText (by decide) wx; rw [← getV_none (getL_open rfl)] at h; exact h) fun z6 hz6=>?_
 replace hz6:z4 + 1 ≤ z6:=hz6
 refine hgo 34 [oh0,oh0,oh0,oh0,⟨false,0,[⟨false,2,0,26⟩]⟩,oh0,oh0,oh0,oh0,oh1,oh1,oh1,oh3,oh0,⟨true,0,[⟨false,1,0,26⟩]⟩,⟨true,0,[⟨false,0,0,26⟩]⟩,⟨true,1,[]⟩,oh3,oh0,oh1,oh1,oh3,oh0,oh1,oh1,oh3,oh0,⟨true,0,[⟨false,0,0,26⟩]⟩] [0,44,45] [true = true,true = true,true = true,true = true,(decide ((((putT awL).size:Int):Int) > 43)) = true,(decide ((((putT awL).size:Int):Int) > 43)) = true,(decide ((((putT awL).size:Int):Int) > 43)) = true,True,(decide ((((putT awL).size:Int):Int) > 43)) = true,true = true,true = true,true = true,true = true,true = true,true = true,true = true] [(z6,0,26),(z4,0,26),(w.heap.size,0,26),(w.heap.size,0,26)] [.ops [1,1,1,1,1,0] [22,23,24],.code [1,1,1,1,1,1]] ⟨[(0,.bool false),(44,.bool true),(45,.agg (List.toArray (awk_v1)))],[⟨w.heap.size,31,true,(awk_v1)⟩,⟨z4,31,true,(awk_v1)⟩,⟨z6,31,true,(awk_v2)⟩],[],z6 + 1⟩ ⟨rfl,rfl,rfl,rfl,decide_eq_true (by rw [awSize]; decide),decide_eq_true (by rw [awSize]; decide),decide_eq_true (by rw [awSize]; decide),trivial,decide_eq_true (by rw [awSize]; decide),rfl,rfl,rfl,rfl,rfl,rfl,rfl,trivial⟩ ?_
 refine hcp (.bool true) 14 [.agg (List.toArray (awk_v1))] (some 46) [true = true] ⟨rfl,trivial⟩ rfl (fun wx hm=>by have h:=msgRight_any awL wx; rw [awOkL] at h; exact h) fun z8 hz8=>?_
 replace hz8:z6 + 1 ≤ z8:=hz8
 refine hgo 6 [oh3,oh0] [0] [true = true] [] [.code [1,1,1,1,1,1]] ⟨[(0,.bool true)],[⟨w.heap.size,31,true,(awk_v1)⟩,⟨z4,31,true,(awk_v1)⟩,⟨z6,31,true,(awk_v2)⟩],[],z8⟩ ⟨rfl,trivial⟩ ?_
 refine hrt [] [.bool true] [] ?_
 intro wx hm
 exact ⟨rfl,hm.kept⟩
end Go.Proofs.Ytkffgdfbdmgncaa
