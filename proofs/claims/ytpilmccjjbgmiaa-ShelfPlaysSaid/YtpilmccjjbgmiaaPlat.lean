import Derived.Test.YtpilmccjjbgmiaaPlatG
import Derived.Test.YtpilmccjjbgmiaaProg
namespace Go.Proofs.Ytpilmccjjbgmiaa
open Go.RowKit
def secs (n:Nat):List Value:=(madeCells (intsV zeroSec).toArray (n * (intsV zeroSec).length)).toList
def PlatNew (n:Nat) (w:World) (e:Ending) (w':World):Prop:=∃ lb mb pb,e = .returned (.tuple #[.pointer (some ⟨pb,0,none⟩),i6 0]) ∧ w.heap.size ≤ lb ∧ lb < mb ∧ mb < pb ∧ Blk w' pb 90 [.slice (some ⟨lb,0,none⟩) n n,.map (some mb),.bool false,i6 0,i6 0] ∧ Blk w' lb 94 (secs n) ∧ MapAt w' mb [] 0 ∧ Kept (fun _=>False) w w'
set_option maxRecDepth 100000 in
set_option maxHeartbeats 4000000 in
theorem new_any (n:Nat) (hn:1 ≤ n ∧ n ≤ 64) (w:World) :
  Calls Try.prog 20 #[.int .i64 (n:Int)] w (PlatNew n w):=by
 refine calls_of_holds (S:=(fun _=>False)) (l:=[.int .i64 (n:Int)]) (n:=15) Try.func20 (body_of (by kernel_rfl)) rfl (by simp) (MemOk.none w _) ?_
 refine hgE 23 [oh0,oh0,oh0,oh0,oh0,oh0,oh0,⟨false,3,[]⟩,oh0,oh0] [2,3,10] [dF (((n:Int):Int) < 1),dF (((n:Int):Int) < 1),dF (((n:Int):Int) < 1),dF (((n:Int):Int) > 64)] [] [.ops [1,1,0] [1,2,3,4,5,6],.code [1,1,1]] ⟨[(2,.pointer none),(3,i6 0),(10,i6 (n:Int))],[],[],w.heap.size⟩ ?_
 refine holds_op1 (dst:=(some 11)) (x:=Instr.makeSlice 87 (.int .i64 (n:Int)) (.int .i64 (n:Int))) (.slice (some ⟨w.heap.size,0,none⟩) n n) [⟨w.heap.size,94,true,(secs n)⟩] (by kernel_rfl) (by kernel_rfl) rfl (fun wx hm=>?_) fun z2 hz2=>?_
 ·obtain ⟨w',h1,h2,h3⟩:=run_newRow (P:=Try.prog) wx 87 94 (intsV zeroSec) n 64 (by kernel_rfl) (by kernel_rfl) (by omega) (by omega)
  rw [hm.size] at h1 h2
  have h4:=hm.add h3 [⟨w.heap.size,94,true,secs n⟩] ⟨h2,trivial⟩ (by simp) (by simp)
  exact ⟨w',h1,h4⟩
 replace hz2:w.heap.size ≤ z2:=hz2
 refine holds_fact (fun wx hm=>hm.size ▸ (hm.at_ 0 rfl).lt) (fun hlt=>?_)
 replace hlt:w.heap.size < z2:=hlt
 refine hgE 3 [] [2,3,11] [] [] [.ops [1,1,0] [2,3,4,5,6],.code [1,1,1]] ⟨[(2,.pointer none),(3,i6 0),(11,.slice (some ⟨w.heap.size,0,none⟩) n n)],[⟨w.heap.size,94,true,(secs n)⟩],[],z2⟩ ?_
 refine holds_opW (w:=w) (S':=fun _=>False) (dst:=(some 12)) (x:=Instr.makeMap 88 none) (fun _=>.map (some z2)) (fun _ W=>MapAt W z2 [] 0) (fun _=>[(12,.map (some z2)),(2,.pointer none),(3,.int .i64 0),(11,.slice (some ⟨w.heap.size,0,none⟩) n n)]) (by kernel_rfl) (by kernel_rfl) (fun _=>rfl) (fun wx hm=>?_) (fun _ W hX hmW=>?_)
 ·obtain ⟨w',h1,h2,h3⟩:=run_newMap (P:=Try.prog) wx 88
  rw [hm.size] at h1 h2
  exact ⟨0,w',h1,h2,(hm.same h3).2⟩
 have hlW:=hX.lt
 refine hgE 8 [oh0,oh0,oh0,oh0] [2,3] [] [] [.code [1,1,1]] ⟨[(2,(pt W.heap.size 0)),(3,i6 0)],[⟨w.heap.size,94,true,(secs n)⟩,⟨W.heap.size,90,true,[.slice (some ⟨w.heap.size,0,none⟩) n n,.map (some z2),.bool false,i6 0,i6 0]⟩],[],W.heap.size + 1⟩ ?_
 refine hrt [] [(pt W.heap.size 0),i6 0] [] ?_
 intro wx hm
 exact ⟨w.heap.size,z2,W.heap.size,rfl,by omega,by omega,by omega,hm.at_ 1 rfl,hm.at_ 0 rfl,hX.kept hm.kept (by rintro ⟨b,hb,hr,he⟩; simp at hb; subst hb; simp at he hr; omega),kept_back hmW hm.kept⟩
@[simp] def psc_b1 (n:Nat) (a:Int) (c:Int) (off:Bool) (lb:Nat) (mb:Nat) (pb:Nat):List Bk:=[⟨pb,90,false,[.slice (some ⟨lb,0,none⟩) n n,.map (some mb),.bool off,i6 a,i6 c]⟩]
set_option maxRecDepth 100000 in
set_option maxHeartbeats 4000000 in
theorem sectors_any (n lb mb pb:Nat) (off:Bool) (a c:Int) (w:World) (hp:Blk w pb 90 [.slice (some ⟨lb,0,none⟩) n n,.map (some mb),.bool off,.int .i64 a,.int .i64 c]) :
  Calls Try.prog 55 #[.pointer (some ⟨pb,0,none⟩)] w (RetK (.int .i64 (n:Int)) w):=by
 refine calls_of_holds (S:=(fun _=>False)) (l:=[(pt pb 0)]) (n:=8) Try.func55 (body_of (by kernel_rfl)) rfl (by simp) (MemOk.start (bk:=(psc_b1 n a c off lb mb pb)) (wn:=[]) (by simpa using hp) (by simp) (by simp) (by simp)) ?_
 refine hgE 16 [oh0,oh0,oh0,oh0,(oA 0 0 1),oh0,oh0] [2] [] [(pb,0,1)] [.code [1,1]] ⟨[(2,i6 (n:Int))],(psc_b1 n a c off lb mb pb),[],w.heap.size⟩ ?_
 refine hrt [] [i6 (n:Int)] [] ?_
 intro wx hm
 exact ⟨rfl,hm.kept⟩
@[simp] def phs_b1 (n:Nat) (a:Int) (c:Int) (off:Bool) (lb:Nat) (mb:Nat) (pb:Nat):List Bk:=[⟨pb,90,false,[.slice (some ⟨lb,0,none⟩) n n,.map (some mb),.bool off,i6 a,i6 c]⟩]
set_option maxRecDepth 100000 in
set_option maxHeartbeats 4000000 in
theorem has_true (n lb mb pb:Nat) (off:Bool) (a c k:Int) (hk:0 ≤ k ∧ k < (n:Int)) (w:World) (hp:Blk w pb 90 [.slice (some ⟨lb,0,none⟩) n n,.map (some mb),.bool off,.int .i64 a,.int .i64 c]) :
  Calls Try.prog 57 #[.pointer (some ⟨pb,0,none⟩),.int .i64 k] w (RetK (.bool true) w):=by
 refine calls_of_holds (S:=(fun _=>False)) (l:=[(pt pb 0),.int .i64 k]) (n:=16) Try.func57 (body_of (by kernel_rfl)) rfl (by simp) (MemOk.start (bk:=(phs_b1 n a c off lb mb pb)) (wn:=[]) (by simpa using hp) (by simp) (by simp) (by simp)) ?_
 refine hgE 22 [oh0,oh0,oh0,oh0,oh1,oh1,oh1,oh1,⟨true,0,[⟨false,0,0,1⟩]⟩,oh1,oh1,oh3,oh0] [4] [dT ((k:Int) ≥ 0),dT ((k:Int) ≥ 0),dT ((k:Int) ≥ 0),dT ((k:Int) ≥ 0),dT ((k:Int) ≥ 0),dT ((k:Int) ≥ 0),dT ((k:Int) ≥ 0),dT ((k:Int) ≥ 0)] [(pb,0,1)] [.code [1,1]] ⟨[(4,.bool (decide ((k:Int) < (n:Int))))],(phs_b1 n a c off lb mb pb),[],w.heap.size⟩ ?_
 refine hrt [] [.bool (decide ((k:Int) < (n:Int)))] [] ?_
 intro wx hm
 exact ⟨ret_bool (decide_eq_true (by omega)),hm.kept⟩
@[simp] def pao_b1 (n:Nat) (a:Int) (c:Int) (lb:Nat) (mb:Nat) (pb:Nat):List Bk:=[⟨pb,90,false,[.slice (some ⟨lb,0,none⟩) n n,.map (some mb),.bool true,i6 a,i6 c]⟩]
set_option maxRecDepth 100000 in
set_option maxHeartbeats 4000000 in
theorem act_off (n lb mb pb:Nat) (a c:Int) (w:World) (hp:Blk w pb 90 [.slice (some ⟨lb,0,none⟩) n n,.map (some mb),.bool true,.int .i64 a,.int .i64 c]) :
  Calls Try.prog 56 #[.pointer (some ⟨pb,0,none⟩)] w (RetK (.bool false) w):=by
 refine calls_of_holds (S:=(fun _=>False)) (l:=[(pt pb 0)]) (n:=39) Try.func56 (body_of (by kernel_rfl)) rfl (by simp) (MemOk.start (bk:=(pao_b1 n a c lb mb pb)) (wn:=[]) (by simpa using hp) (by simp) (by simp) (by simp)) ?_
 refine hgE 20 [oh0,oh0,oh0,oh0,(oA 0 2 1),oh1,oh0] [0,2] [tT] [(pb,2,1)] [.code [1,0,1,0,1],.code [1,1]] ⟨[(0,(pt pb 0)),(2,.bool false)],(pao_b1 n a c lb mb pb),[],w.heap.size⟩ ?_
 refine hrt [] [.bool false] [] ?_
 intro wx hm
 exact ⟨rfl,hm.kept⟩
def pal_v1 (n:Nat) (a:Int) (c:Int) (lb:Nat) (mb:Nat):List Value:=[.slice (some ⟨lb,0,none⟩) n n,.map (some mb),.bool false,i6 (a + 1),i6 c]
set_option maxRecDepth 100000 in
set_option maxHeartbeats 4000000 in
theorem act_live (n lb mb pb:Nat) (a c:Int) (ha:0 ≤ a ∧ a < 4611686018427387904) (hc:0 ≤ c ∧ c < 4611686018427387904) (w:World) (hp:Blk w pb 90 [.slice (some ⟨lb,0,none⟩) n n,.map (some mb),.bool false,.int .i64 a,.int .i64 c]) :
  Calls Try.prog 56 #[.pointer (some ⟨pb,0,none⟩)] w (fun e w'=>e = .returned (.bool (!decide (c = 1))) ∧ Blk w' pb 90 [.slice (some ⟨lb,0,none⟩) n n,.map (some mb),.bool (decide (c = 1)),.int .i64 (a + 1),.int .i64 (dn c)] ∧ Kept (fun x=>x = pb) w w'):=by
 refine calls_of_holds (S:=(fun x=>x = pb)) (l:=[(pt pb 0)]) (n:=39) Try.func56 (body_of (by kernel_rfl)) rfl (by simp) (MemOk.start (bk:=[⟨pb,90,true,[.slice (some ⟨lb,0,none⟩) n n,.map (some mb),.bool false,.int .i64 a,.int .i64 c]⟩]) (wn:=[]) (by simpa using hp) (by simp) (by simp) (by simp)) ?_
 refine hgE 37 [oh0,oh0,oh0,oh0,(oA 0 2 1),oh0,oh0,oh0,oh0,(oA 0 3 1),oh2,oh0,oh0,(oA 0 3 1),oh0,oh0,oh0,(oA 0 4 1),oh0] [0,2,18] [fF,n64 ((a + 1))] [(pb,2,1),(pb,3,1),(pb,3,1),(pb,4,1)] [.code [1,1,1,0,1],.code [1,1,1,1]] ⟨[(0,(pt pb 0)),(2,.bool false),(18,.bool (decide ((c:Int) > 0)))],[⟨pb,90,true,(pal_v1 n a c lb mb)⟩],[],w.heap.size⟩ ?_
 rcases Bool.eq_false_or_eq_true (decide ((c:Int) > 0)) with d1 | d1
 ·skip
  refine hgE 35 [oh1,oh0,oh0,oh0,(oA 0 4 1),oh2,oh0,oh0,(oA 0 4 1),oh0,oh0,oh0,oh0,(oA 0 4 1),oh0,oh0,oh0,(oA 0 2 1),oh0,oh0,oh0,(oA 0 2 1),oh0,oh0] [2] [eD d1,n64 ((c - 1))] [(pb,4,1),(pb,4,1),(pb,4,1),(pb,2,1),(pb,2,1)] [.code [1,1,1,1,1]] ⟨[(2,.bool (!((c - 1) == 0)))],[⟨pb,90,true,[.slice (some ⟨lb,0,none⟩) n n,.map (some mb),.bool ((c - 1) == 0),i6 (a + 1),i6 (c - 1)]⟩],[],w.heap.size⟩ ?_
  refine hrt [] [.bool (!((c - 1) == 0))] [] ?_
  intro wx hm
  have e0:=of_decide_eq_true d1
  have e1:((c - 1:Int) == 0) = decide (c = 1):=by
   rw [Bool.eq_iff_iff,beq_iff_eq,decide_eq_true_iff]
   omega
  have e2:dn c = c - 1:=if_pos e0
  refine ⟨by rw [← e1]; rfl,?_,hm.kept⟩
  rw [← e1,e2]
  exact hm.at_ 0 rfl
 ·skip
  refine hgE 14 [oh0,oh0,oh0,oh0,(oA 0 2 1),oh0,oh0] [2] [eD d1] [(pb,2,1)] [.code [1,1,1,1,1]] ⟨[(2,.bool true)],[⟨pb,90,true,(pal_v1 n a c lb mb)⟩],[],w.heap.size⟩ ?_
  refine hrt [] [.bool true] [] ?_
  intro wx hm
  have e0:=of_decide_eq_false d1
  have e1:decide (c = 1) = false:=decide_eq_false (by omega)
  have e2:dn c = c:=if_neg (by omega)
  refine ⟨by rw [e1]; rfl,?_,hm.kept⟩
  rw [e1,e2]
  exact hm.at_ 0 rfl
end Go.Proofs.Ytpilmccjjbgmiaa
