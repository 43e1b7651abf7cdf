import Derived.Test.YtpilmccjjbgmiaaShelf3
import Derived.Test.YtpilmccjjbgmiaaCrcM
namespace Go.Proofs.Ytpilmccjjbgmiaa
open Go.RowKit
set_option maxRecDepth 100000 in
set_option maxHeartbeats 4000000 in
theorem shelfNew_st (M:Pl) (pb:Nat) (st:Int) (hst:1 ≤ st ∧ st ≤ 8) (hn:st ≤ (M.n:Int)) (w:World) (hP:PlatAt 90 94 w pb M) :
  Calls Try.prog 21 #[.pointer (some ⟨pb,0,none⟩),.int .i64 st] w (fun e w'=>∃ sb,e = .returned (.tuple #[.pointer (some ⟨sb,0,none⟩),.int .i64 0]) ∧ w.heap.size ≤ sb ∧ Blk w' sb 92 [.pointer (some ⟨pb,0,none⟩),.int .i64 st] ∧ Kept (fun _=>False) w w'):=by
 refine calls_of_holds (S:=(fun _=>False)) (l:=[(pt pb 0),.int .i64 st]) (n:=26) Try.func21 (body_of (by kernel_rfl)) rfl (by simp) (MemOk.none w _) ?_
 refine hgE 23 [oh0,oh0,oh0,oh0,oh0,oh0,oh0,⟨false,3,[]⟩,oh0,oh0,oh0,⟨false,3,[]⟩,oh0,oh0] [0,1,4,5,16,17] [fF,fF,fF,dF ((st:Int) < 1),dF ((st:Int) < 1),dF ((st:Int) < 1),dF ((st:Int) > 8)] [] [.ops [1,0,0] [12,13,14,15],.code [1,0,1],.code [1,1]] ⟨[(0,(pt pb 0)),(1,i6 st),(4,.pointer none),(5,i6 0),(16,.bool (decide ((st:Int) > 8))),(17,(pt pb 0))],[],[],w.heap.size⟩ ?_
 refine hcp (i6 (M.n:Int)) 55 [(pt pb 0)] (some 18) [(decide ((st:Int) > 8)) = false] ⟨decide_eq_false (by omega),tI⟩ rfl (fun wx hm=>sectors_any M.n M.lb M.mb pb M.off M.acts M.armed wx (hP.kept hm.kept (fun _ _ h=>h)).p) fun z2 hz2=>?_
 replace hz2:w.heap.size ≤ z2:=hz2
 refine hgE 18 [oh0,oh0,⟨false,3,[]⟩,oh0,oh0,oh0,oh0,oh0,oh0,oh0] [4,5] [dF ((st:Int) > 8),dF ((st:Int) > 8),dF ((st:Int) > 8),dF (((M.n:Int):Int) < st)] [] [.code [1,1,1]] ⟨[(4,(pt z2 0)),(5,i6 0)],[⟨z2,92,true,[(pt pb 0),i6 st]⟩],[],z2 + 1⟩ ?_
 refine hrt [] [(pt z2 0),i6 0] [] ?_
 intro wx hm
 exact ⟨z2,rfl,by omega,hm.at_ 0 rfl,hm.kept⟩
set_option maxRecDepth 100000 in
set_option maxHeartbeats 4000000 in
theorem shelfNew_nil  (w:World)  :
  Calls Try.prog 21 #[.pointer none,.int .i64 1] w (RetK (.tuple #[.pointer none,.int .i64 1]) w):=by
 refine calls_of_holds (S:=(fun _=>False)) (l:=[.pointer none,.int .i64 1]) (n:=26) Try.func21 (body_of (by kernel_rfl)) rfl (by simp) (MemOk.none w _) ?_
 refine hgE 34 [oh0,oh0,oh0,oh0,oh0,oh1,oh1,oh3,oh0,oh1,oh1,oh3,oh0,oh1,oh1,oh1,oh1,oh3,oh1,oh0,oh0] [0,1,4,5] [tT,tT,tT,tT,tT,tT,tT,tT,tT,tT,tT,tT] [] [.code [1,0,1,0,1],.code [1,1]] ⟨[(0,.pointer none),(1,i6 1),(4,.pointer none),(5,i6 1)],[],[],w.heap.size⟩ ?_
 refine hrt [] [.pointer none,i6 1] [] ?_
 intro wx hm
 exact ⟨rfl,hm.kept⟩
theorem ok_set {pb:Nat} {M:Pl} {k:Int} {r:RecM} (hp:PlOk pb M) (hk:0 ≤ k ∧ k < (M.n:Int)):PlOk pb (setPl M k r):=by
 have h:=hp.write hk (secOk_of (size_packS k r))
 unfold setPl
 split
 ·exact h.flush
 ·exact h
def zeros16:ByteArray:=bytesI (List.replicate 16 0)
theorem byts16:Byts (List.replicate 16 0):=fun x hx=>by rw [List.eq_of_mem_replicate hx]; decide
def fmtR:RecM:=⟨true,0,0,0,zeros16,false,0,0,0,noText⟩
theorem fmtR_ok:RecOk fmtR:=⟨by decide,by decide,by decide,by decide,by decide,by decide,fun _=>by decide,fun h=>(by cases h),fun h=>(by cases h),fun _=>⟨rfl,rfl,rfl,rfl⟩⟩
end Go.Proofs.Ytpilmccjjbgmiaa
