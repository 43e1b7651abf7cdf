import Derived.Test.YtpilmccjjbgmiaaPack8
import Derived.Test.YtpilmccjjbgmiaaRightR8
namespace Go.Proofs.Ytpilmccjjbgmiaa
open Go.RowKit
@[simp] def thr_b1 (n:Int) (w:World):List Bk:=[⟨w.heap.size,5,true,[u6 (n % 256),u6 ((n / 256) % 256),u6 (n / 65536)]⟩]
set_option maxRecDepth 100000 in
set_option maxHeartbeats 4000000 in
theorem three_any (n:Int) (hn:0 ≤ n ∧ n ≤ 16777215) (w:World) :
  Calls Try.prog 48 #[.int .i64 n] w (RetK (.string (bytesI [n % 256,n / 256 % 256,n / 65536])) w):=by
 refine calls_of_holds (S:=(fun _=>False)) (l:=[.int .i64 n]) (n:=15) Try.func48 (body_of (by kernel_rfl)) rfl (by simp) (MemOk.none w _) ?_
 refine hgE 20 [oh0,oh0,oh2,oh2,oh0,oh2,oh2,oh2,oh0,oh2,oh2,oh0] [2,13] [oE ((0:Int) ≤ n ∧ (0:Int) < 256),n8 ((n % 256)),oE ((0:Int) ≤ n ∧ (0:Int) < 256 ∧ n ≤ IntKind.max .i64) (⟨by omega,by omega,le_max64 (by omega)⟩),oE ((0:Int) ≤ (n / 256) ∧ (0:Int) < 256),n8 (((n / 256) % 256)),oE ((0:Int) ≤ n ∧ (0:Int) < 65536 ∧ n ≤ IntKind.max .i64) (⟨by omega,by omega,le_max64 (by omega)⟩),n8 ((n / 65536))] [] [.ops [1,0] [11,12],.code [1,1]] ⟨[(2,sT ⟨#[]⟩),(13,.slice (some ⟨w.heap.size,0,none⟩) 3 3)],(thr_b1 n w),[],w.heap.size + 1⟩ ?_
 refine holds_opR (dst:=(some 14)) (x:=convert 40 9 (.slice (some ⟨w.heap.size,0,none⟩) 3 3)) (.string (bytesI ([n % 256,n / 256 % 256,n / 65536]))) (by kernel_rfl) (by kernel_rfl) rfl (fun wx hm=>?_) ?_
 ·exact run_bytesAt (P:=Try.prog) wx 40 9 5 _ _ _ _ _ ([n % 256,n / 256 % 256,n / 65536]) ([]) [] (by kernel_rfl) (by kernel_rfl) (by kernel_rfl) (hm.at_ 0 rfl) rfl rfl (by intro n hn; simp at hn; omega)
 refine hgE 5 [oh0] [2] [] [] [.code [1,1]] ⟨[(2,sT (bytesI ([n % 256,n / 256 % 256,n / 65536])))],(thr_b1 n w),[],w.heap.size + 1⟩ ?_
 refine hrt [] [sT (bytesI ([n % 256,n / 256 % 256,n / 65536]))] [] ?_
 intro wx hm
 exact ⟨rfl,hm.kept⟩
def fila_v1:List Value:=rp 16 (.int .u8 0)
set_option maxRecDepth 100000 in
set_option maxHeartbeats 4000000 in
theorem filled_a (s:ByteArray) (hs:s.size = 0) (w:World) :
  Calls Try.prog 49 #[.string s,.int .i64 16] w (RetK (.string (s ++ bytesI (List.replicate 16 0))) w):=by
 refine calls_of_holds (S:=(fun _=>False)) (l:=[.string s,.int .i64 16]) (n:=13) Try.func49 (body_of (by kernel_rfl)) rfl (by simp) (MemOk.none w _) ?_
 refine hgE 14 [oh0,oh0,oh0,oh0,oh0,oh2] [4,5,9] [n64 ((16 - (s.size:Int)))] [] [.ops [1,0] [5,6,7,8],.code [1,1]] ⟨[(4,sT ⟨#[]⟩),(5,sT s),(9,i6 (16 - (s.size:Int)))],[],[],w.heap.size⟩ ?_
 rw [show (16 - (s.size:Int):Int) = 16 from by omega]
 refine hgE 4 [oh0] [4,5,10] [] [] [.ops [1,0] [6,7,8],.code [1,1]] ⟨[(4,sT ⟨#[]⟩),(5,sT s),(10,.slice (some ⟨w.heap.size,0,none⟩) 16 16)],[⟨w.heap.size,5,true,(fila_v1)⟩],[],w.heap.size + 1⟩ ?_
 refine holds_opR (dst:=(some 11)) (x:=convert 40 9 (.slice (some ⟨w.heap.size,0,none⟩) 16 16)) (.string (bytesI (List.replicate 16 0))) (by kernel_rfl) (by kernel_rfl) rfl (fun wx hm=>?_) ?_
 ·exact run_bytesAt (P:=Try.prog) wx 40 9 5 _ _ _ _ _ (List.replicate 16 0) ([]) [] (by kernel_rfl) (by kernel_rfl) (by kernel_rfl) (hm.at_ 0 rfl) rfl rfl (by intro n hn; rw [List.eq_of_mem_replicate hn]; omega)
 refine hgE 6 [oh2,oh0] [4] [oE ((((s).size + ((bytesI (List.replicate 16 0))).size:Nat):Int) ≤ 9223372036854775807) (by rw [size_bytesI,hs,List.length_replicate]; decide)] [] [.code [1,1]] ⟨[(4,sT (s ++ (bytesI (List.replicate 16 0))))],[⟨w.heap.size,5,true,(fila_v1)⟩],[],w.heap.size + 1⟩ ?_
 refine hrt [] [sT (s ++ (bytesI (List.replicate 16 0)))] [] ?_
 intro wx hm
 exact ⟨rfl,hm.kept⟩
set_option maxRecDepth 100000 in
set_option maxHeartbeats 4000000 in
theorem filled_b (s:ByteArray) (hs:s.size = 16) (w:World) :
  Calls Try.prog 49 #[.string s,.int .i64 16] w (RetK (.string (s ++ bytesI (List.replicate 0 0))) w):=by
 refine calls_of_holds (S:=(fun _=>False)) (l:=[.string s,.int .i64 16]) (n:=13) Try.func49 (body_of (by kernel_rfl)) rfl (by simp) (MemOk.none w _) ?_
 refine hgE 14 [oh0,oh0,oh0,oh0,oh0,oh2] [4,5,9] [n64 ((16 - (s.size:Int)))] [] [.ops [1,0] [5,6,7,8],.code [1,1]] ⟨[(4,sT ⟨#[]⟩),(5,sT s),(9,i6 (16 - (s.size:Int)))],[],[],w.heap.size⟩ ?_
 rw [show (16 - (s.size:Int):Int) = 0 from by omega]
 refine hgE 4 [oh0] [4,5,10] [] [] [.ops [1,0] [6,7,8],.code [1,1]] ⟨[(4,sT ⟨#[]⟩),(5,sT s),(10,.slice (some ⟨w.heap.size,0,none⟩) 0 0)],[⟨w.heap.size,5,true,[]⟩],[],w.heap.size + 1⟩ ?_
 refine holds_opR (dst:=(some 11)) (x:=convert 40 9 (.slice (some ⟨w.heap.size,0,none⟩) 0 0)) (.string (bytesI (List.replicate 0 0))) (by kernel_rfl) (by kernel_rfl) rfl (fun wx hm=>?_) ?_
 ·exact run_bytesAt (P:=Try.prog) wx 40 9 5 _ _ _ _ _ (List.replicate 0 0) ([]) [] (by kernel_rfl) (by kernel_rfl) (by kernel_rfl) (hm.at_ 0 rfl) rfl rfl (fun _ hn=>by cases hn)
 refine hgE 6 [oh2,oh0] [4] [oE ((((s).size + ((bytesI (List.replicate 0 0))).size:Nat):Int) ≤ 9223372036854775807) (by rw [size_bytesI,hs,List.length_replicate]; decide)] [] [.code [1,1]] ⟨[(4,sT (s ++ (bytesI (List.replicate 0 0))))],[⟨w.heap.size,5,true,[]⟩],[],w.heap.size + 1⟩ ?_
 refine hrt [] [sT (s ++ (bytesI (List.replicate 0 0)))] [] ?_
 intro wx hm
 exact ⟨rfl,hm.kept⟩
def filc_v1:List Value:=rp 10 (.int .u8 0)
set_option maxRecDepth 100000 in
set_option maxHeartbeats 4000000 in
theorem filled_c (s:ByteArray) (hs:s.size = 51) (w:World) :
  Calls Try.prog 49 #[.string s,.int .i64 61] w (RetK (.string (s ++ bytesI (List.replicate 10 0))) w):=by
 refine calls_of_holds (S:=(fun _=>False)) (l:=[.string s,.int .i64 61]) (n:=13) Try.func49 (body_of (by kernel_rfl)) rfl (by simp) (MemOk.none w _) ?_
 refine hgE 14 [oh0,oh0,oh0,oh0,oh0,oh2] [4,5,9] [n64 ((61 - (s.size:Int)))] [] [.ops [1,0] [5,6,7,8],.code [1,1]] ⟨[(4,sT ⟨#[]⟩),(5,sT s),(9,i6 (61 - (s.size:Int)))],[],[],w.heap.size⟩ ?_
 rw [show (61 - (s.size:Int):Int) = 10 from by omega]
 refine hgE 4 [oh0] [4,5,10] [] [] [.ops [1,0] [6,7,8],.code [1,1]] ⟨[(4,sT ⟨#[]⟩),(5,sT s),(10,.slice (some ⟨w.heap.size,0,none⟩) 10 10)],[⟨w.heap.size,5,true,(filc_v1)⟩],[],w.heap.size + 1⟩ ?_
 refine holds_opR (dst:=(some 11)) (x:=convert 40 9 (.slice (some ⟨w.heap.size,0,none⟩) 10 10)) (.string (bytesI (List.replicate 10 0))) (by kernel_rfl) (by kernel_rfl) rfl (fun wx hm=>?_) ?_
 ·exact run_bytesAt (P:=Try.prog) wx 40 9 5 _ _ _ _ _ (List.replicate 10 0) ([]) [] (by kernel_rfl) (by kernel_rfl) (by kernel_rfl) (hm.at_ 0 rfl) rfl rfl (by intro n hn; rw [List.eq_of_mem_replicate hn]; omega)
 refine hgE 6 [oh2,oh0] [4] [oE ((((s).size + ((bytesI (List.replicate 10 0))).size:Nat):Int) ≤ 9223372036854775807) (by rw [size_bytesI,hs,List.length_replicate]; decide)] [] [.code [1,1]] ⟨[(4,sT (s ++ (bytesI (List.replicate 10 0))))],[⟨w.heap.size,5,true,(filc_v1)⟩],[],w.heap.size + 1⟩ ?_
 refine hrt [] [sT (s ++ (bytesI (List.replicate 10 0)))] [] ?_
 intro wx hm
 exact ⟨rfl,hm.kept⟩
theorem filled16 (s:ByteArray) (h:s.size = 0 ∨ s.size = 16) (w:World):Calls Try.prog 49 #[.string s,.int .i64 16] w (RetK (.string (bytesI ((List.range 16).map (byteAt s)))) w):=by
 rcases h with h | h
 ·have h1:=filled_a s h w
  rw [size_zero.1 h] at h1 ⊢
  rw [map_byteAt_none rfl]
  exact h1
 ·have h1:=filled_b s h w
  have e:s ++ bytesI (List.replicate 0 0) = s:=by
   apply ByteArray.ext
   simp [bytesI,u8s]
  rw [e] at h1
  rw [← intsOf_size h,bytesI_intsOf]
  exact h1
theorem filled61 (l:List Int) (hl:l.length = 51) (s:ByteArray) (hs:s = bytesI l) (w:World):Calls Try.prog 49 #[.string s,.int .i64 61] w (RetK (.string (bytesI (l ++ List.replicate 10 0))) w):=by
 have h1:=filled_c s (by rw [hs,size_bytesI,hl]) w
 rw [← bytesI_append,← hs]
 exact h1
def rp_v1 (r:RecM):List Value:=[.bool r.used,i6 r.fence,i6 r.de,i6 r.ds,sT r.block,.bool r.op,i6 r.ie,i6 r.is,i6 r.mask,sT r.staged]
def rp_v2 (st:Int) (r:RecM):List Value:=[u6 ((sumI (packH st r)) / 65536),u6 (((sumI (packH st r)) / 256) % 256),u6 ((sumI (packH st r)) % 256)]
def rp_n1:List Nat:=[1,1,1,1,1,1,1,1,0]
def rp_n2:List OH:=[oh0,oh0,oh0,⟨false,0,[⟨false,0,0,10⟩]⟩]
@[simp] def rp_b1 (st:Int) (r:RecM) (w:World) (z14:Nat):List Bk:=[⟨w.heap.size,25,true,(rp_v1 r)⟩,⟨z14,5,true,[u6 83,u6 st,u6 (flagsI r)]⟩]
@[simp] def rp_b2 (st:Int) (r:RecM) (w:World) (z14:Nat) (z32:Nat):List Bk:=[⟨w.heap.size,25,true,(rp_v1 r)⟩,⟨z14,5,true,[u6 83,u6 st,u6 (flagsI r)]⟩,⟨z32,5,true,(rp_v2 st r)⟩]
theorem rp_q26 (st:Int) (r:RecM) (w:World) (z14:Nat):Out.prune [3,4,5,8] (qListG Try.prog 92 w (fun _=>False) (opsOf (getCode (bodyOf Try.f13) [1,1,1,1,1,1,1,0])) (opsOf (getCode (bodyOf Try.f13) [1,1,1,1,1,1,1,0])).toList ⟨[(3,(pt w.heap.size 0)),(4,sT ⟨#[]⟩),(5,i6 0),(8,sT (bytesI ([83,st,flagsI r])))],(rp_b1 st r w z14),[],z14 + 1⟩ [(false,.op oh0),(false,.op oh0),(false,.op (oA 0 1 1)),(false,.call (sT (bytesI [r.fence % 256,r.fence / 256 % 256,r.fence / 65536]))),(false,.op oh2),(false,.op oh0),(false,.op oh0),(false,.op (oA 0 2 1)),(false,.call (sT (bytesI [r.de % 256,r.de / 256 % 256,r.de / 65536]))),(false,.op oh2),(false,.op oh0),(false,.op oh0),(false,.op (oA 0 3 1)),(false,.call (sT (bytesI [r.ds % 256,r.ds / 256 % 256,r.ds / 65536]))),(false,.op oh2),(false,.op oh0),(false,.op oh0),(false,.op (oA 0 6 1)),(false,.call (sT (bytesI [r.ie % 256,r.ie / 256 % 256,r.ie / 65536]))),(false,.op oh2),(false,.op oh0),(false,.op oh0),(false,.op (oA 0 7 1)),(false,.call (sT (bytesI [r.is % 256,r.is / 256 % 256,r.is / 65536]))),(false,.op oh2),(false,.op oh0)]) = some ⟨[∀ w',MemC w (fun _=>False) (rp_b1 st r w z14) [] (z14 + 1) w' → Calls Try.prog 48 #[i6 r.fence] w' (RetK (sT (bytesI [r.fence % 256,r.fence / 256 % 256,r.fence / 65536])) w'),((((bytesI ([83,st,flagsI r]))).size + ((bytesI [r.fence % 256,r.fence / 256 % 256,r.fence / 65536])).size:Nat):Int) ≤ 9223372036854775807,∀ w',MemC w (fun _=>False) (rp_b1 st r w z14) [] (z14 + 1) w' → Calls Try.prog 48 #[i6 r.de] w' (RetK (sT (bytesI [r.de % 256,r.de / 256 % 256,r.de / 65536])) w'),(((((bytesI ([83,st,flagsI r])) ++ (bytesI [r.fence % 256,r.fence / 256 % 256,r.fence / 65536]))).size + ((bytesI [r.de % 256,r.de / 256 % 256,r.de / 65536])).size:Nat):Int) ≤ 9223372036854775807,∀ w',MemC w (fun _=>False) (rp_b1 st r w z14) [] (z14 + 1) w' → Calls Try.prog 48 #[i6 r.ds] w' (RetK (sT (bytesI [r.ds % 256,r.ds / 256 % 256,r.ds / 65536])) w'),((((((bytesI ([83,st,flagsI r])) ++ (bytesI [r.fence % 256,r.fence / 256 % 256,r.fence / 65536])) ++ (bytesI [r.de % 256,r.de / 256 % 256,r.de / 65536]))).size + ((bytesI [r.ds % 256,r.ds / 256 % 256,r.ds / 65536])).size:Nat):Int) ≤ 9223372036854775807,∀ w',MemC w (fun _=>False) (rp_b1 st r w z14) [] (z14 + 1) w' → Calls Try.prog 48 #[i6 r.ie] w' (RetK (sT (bytesI [r.ie % 256,r.ie / 256 % 256,r.ie / 65536])) w'),(((((((bytesI ([83,st,flagsI r])) ++ (bytesI [r.fence % 256,r.fence / 256 % 256,r.fence / 65536])) ++ (bytesI [r.de % 256,r.de / 256 % 256,r.de / 65536])) ++ (bytesI [r.ds % 256,r.ds / 256 % 256,r.ds / 65536]))).size + ((bytesI [r.ie % 256,r.ie / 256 % 256,r.ie / 65536])).size:Nat):Int) ≤ 9223372036854775807,∀ w',MemC w (fun _=>False) (rp_b1 st r w z14) [] (z14 + 1) w' → Calls Try.prog 48 #[i6 r.is] w' (RetK (sT (bytesI [r.is % 256,r.is / 256 % 256,r.is / 65536])) w'),((((((((bytesI ([83,st,flagsI r])) ++ (bytesI [r.fence % 256,r.fence / 256 % 256,r.fence / 65536])) ++ (bytesI [r.de % 256,r.de / 256 % 256,r.de / 65536])) ++ (bytesI [r.ds % 256,r.ds / 256 % 256,r.ds / 65536])) ++ (bytesI [r.ie % 256,r.ie / 256 % 256,r.ie / 65536]))).size + ((bytesI [r.is % 256,r.is / 256 % 256,r.is / 65536])).size:Nat):Int) ≤ 9223372036854775807],dupR [(w.heap.size,1,1),(w.heap.size,2,1),(w.heap.size,3,1),(w.heap.size,6,1),(w.heap.size,7,1)],⟨[(3,(pt w.heap.size 0)),(4,sT ⟨#[]⟩),(5,i6 0),(8,sT ((((((bytesI ([83,st,flagsI r])) ++ (bytesI [r.fence % 256,r.fence / 256 % 256,r.fence / 65536])) ++ (bytesI [r.de % 256,r.de / 256 % 256,r.de / 65536])) ++ (bytesI [r.ds % 256,r.ds / 256 % 256,r.ds / 65536])) ++ (bytesI [r.ie % 256,r.ie / 256 % 256,r.ie / 65536])) ++ (bytesI [r.is % 256,r.is / 256 % 256,r.is / 65536])))],(rp_b1 st r w z14),[],z14 + 1⟩⟩:=by kernel_rfl
def rp_g28s (st:Int) (r:RecM) (w:World):List (Nat × Value):=[(3,(pt w.heap.size 0)),(4,sT ⟨#[]⟩),(5,i6 0),(8,sT ((((((bytesI ([83,st,flagsI r])) ++ (bytesI [r.fence % 256,r.fence / 256 % 256,r.fence / 65536])) ++ (bytesI [r.de % 256,r.de / 256 % 256,r.de / 65536])) ++ (bytesI [r.ds % 256,r.ds / 256 % 256,r.ds / 65536])) ++ (bytesI [r.ie % 256,r.ie / 256 % 256,r.ie / 65536])) ++ (bytesI [r.is % 256,r.is / 256 % 256,r.is / 65536])))]
def rp_g28v (st:Int) (r:RecM) (w:World):List (Option Value):=[some (sT ((((((bytesI ([83,st,flagsI r])) ++ (bytesI [r.fence % 256,r.fence / 256 % 256,r.fence / 65536])) ++ (bytesI [r.de % 256,r.de / 256 % 256,r.de / 65536])) ++ (bytesI [r.ds % 256,r.ds / 256 % 256,r.ds / 65536])) ++ (bytesI [r.ie % 256,r.ie / 256 % 256,r.ie / 65536])) ++ (bytesI [r.is % 256,r.is / 256 % 256,r.is / 65536]))),some ((pt w.heap.size 8)),some (i6 r.mask),some (u6 r.mask),none,some (sT (bytesI ([r.mask]))),some (sT (((((((bytesI ([83,st,flagsI r])) ++ (bytesI [r.fence % 256,r.fence / 256 % 256,r.fence / 65536])) ++ (bytesI [r.de % 256,r.de / 256 % 256,r.de / 65536])) ++ (bytesI [r.ds % 256,r.ds / 256 % 256,r.ds / 65536])) ++ (bytesI [r.ie % 256,r.ie / 256 % 256,r.ie / 65536])) ++ (bytesI [r.is % 256,r.is / 256 % 256,r.is / 65536])) ++ (bytesI ([r.mask])))),some ((pt w.heap.size 4)),some (sT r.block),some (sT (bytesI ((List.range 16).map (byteAt r.block)))),some (sT ((((((((bytesI ([83,st,flagsI r])) ++ (bytesI [r.fence % 256,r.fence / 256 % 256,r.fence / 65536])) ++ (bytesI [r.de % 256,r.de / 256 % 256,r.de / 65536])) ++ (bytesI [r.ds % 256,r.ds / 256 % 256,r.ds / 65536])) ++ (bytesI [r.ie % 256,r.ie / 256 % 256,r.ie / 65536])) ++ (bytesI [r.is % 256,r.is / 256 % 256,r.is / 65536])) ++ (bytesI ([r.mask]))) ++ (bytesI ((List.range 16).map (byteAt r.block))))),some ((pt w.heap.size 9)),some (sT r.staged),some (sT (bytesI ((List.range 16).map (byteAt r.staged)))),some (sT (((((((((bytesI ([83,st,flagsI r])) ++ (bytesI [r.fence % 256,r.fence / 256 % 256,r.fence / 65536])) ++ (bytesI [r.de % 256,r.de / 256 % 256,r.de / 65536])) ++ (bytesI [r.ds % 256,r.ds / 256 % 256,r.ds / 65536])) ++ (bytesI [r.ie % 256,r.ie / 256 % 256,r.ie / 65536])) ++ (bytesI [r.is % 256,r.is / 256 % 256,r.is / 65536])) ++ (bytesI ([r.mask]))) ++ (bytesI ((List.range 16).map (byteAt r.block)))) ++ (bytesI ((List.range 16).map (byteAt r.staged))))),some (sT (((((((((bytesI ([83,st,flagsI r])) ++ (bytesI [r.fence % 256,r.fence / 256 % 256,r.fence / 65536])) ++ (bytesI [r.de % 256,r.de / 256 % 256,r.de / 65536])) ++ (bytesI [r.ds % 256,r.ds / 256 % 256,r.ds / 65536])) ++ (bytesI [r.ie % 256,r.ie / 256 % 256,r.ie / 65536])) ++ (bytesI [r.is % 256,r.is / 256 % 256,r.is / 65536])) ++ (bytesI ([r.mask]))) ++ (bytesI ((List.range 16).map (byteAt r.block)))) ++ (bytesI ((List.range 16).map (byteAt r.staged)))))]
def rp_g28m (st:Int) (r:RecM) (w:World) (z14:Nat):List (List Bk):=[(rp_b1 st r w z14)]
def rp_g28t:List (Option Nat):=[none,none,none,none,none,none,none,none,none,none,none,none,none,none,none,none]
theorem rp_g28_9 (st:Int) (r:RecM) (w:World):callAt Try.prog (opsOf (getCode (bodyOf Try.f13) rp_n1)) (slG (opsOf (getCode (bodyOf Try.f13) rp_n1)) (rp_g28v st r w) (slI (opsOf (getCode (bodyOf Try.f13) rp_n1)) (rp_g28s st r w) 9) (needsOf (opsOf (getCode (bodyOf Try.f13) rp_n1)) 9)) 9 = some (49,[sT r.block,i6 16],dstOf (opsOf (getCode (bodyOf Try.f13) rp_n1)) 9,[]):=by kernel_rfl
theorem rp_g28_13 (st:Int) (r:RecM) (w:World):callAt Try.prog (opsOf (getCode (bodyOf Try.f13) rp_n1)) (slG (opsOf (getCode (bodyOf Try.f13) rp_n1)) (rp_g28v st r w) (slI (opsOf (getCode (bodyOf Try.f13) rp_n1)) (rp_g28s st r w) 13) (needsOf (opsOf (getCode (bodyOf Try.f13) rp_n1)) 13)) 13 = some (49,[sT r.staged,i6 16],dstOf (opsOf (getCode (bodyOf Try.f13) rp_n1)) 13,[]):=by kernel_rfl
def rp_g28C (st:Int) (r:RecM) (w:World) (z14:Nat) (z26:Nat) (i_:Nat):Prop:=CertG (wpOp Try.prog (opsOf (getCode (bodyOf Try.f13) rp_n1)) (sem Try.prog (bodyOf Try.f13) (bodyPost Try.prog Try.f13 (RetK (.tuple #[sT (packT st r),i6 (packE st r)]) w)) [.code [1,1,1,1,1,1,1,1,1]])) [] 92 (opsOf (getCode (bodyOf Try.f13) rp_n1)) (slI (opsOf (getCode (bodyOf Try.f13) rp_n1)) (rp_g28s st r w) i_) (rp_g28t) 0 (MG w (fun _=>False) (rp_g28m st r w z14) [] z26) (Turned (rp_b1 st r w z14)) (PvG (rp_g28v st r w) (CBytes 4 z26 5 1 [r.mask])) i_
set_option maxRecDepth 100000 in
set_option maxHeartbeats 4000000 in
theorem refPack_any (st:Int) (r:RecM) (w:World) :
  Calls Try.prog 13 #[.int .i64 st,.agg #[.bool r.used,.int .i64 r.fence,.int .i64 r.de,.int .i64 r.ds,.string r.block,.bool r.op,.int .i64 r.ie,.int .i64 r.is,.int .i64 r.mask,.string r.staged]] w (RetK (.tuple #[.string (packT st r),.int .i64 (packE st r)]) w):=by
 refine calls_of_holds (S:=(fun _=>False)) (l:=[.int .i64 st,.agg (List.toArray (rp_v1 r))]) (n:=92) Try.func13 (body_of (by kernel_rfl)) rfl (by simp) (MemOk.none w _) ?_
 by_cases h1:st < 0
 ·skip
  refine hgE 12 rp_n2 [0,3,4,5,10] [] [(w.heap.size,0,10)] [.ops [1,0] [1,2],.code [1,1]] ⟨[(0,i6 st),(3,(pt w.heap.size 0)),(4,sT ⟨#[]⟩),(5,i6 0),(10,.agg (List.toArray (rp_v1 r)))],[⟨w.heap.size,25,true,(rp_v1 r)⟩],[],w.heap.size + 1⟩ ?_
  refine hcp (.bool (okB r)) 17 [.agg (List.toArray (rp_v1 r))] (some 11) [] tI rfl (fun wx hm=>refRight_any r wx) fun z2 hz2=>?_
  replace hz2:w.heap.size + 1 ≤ z2:=hz2
  refine hgE 25 [oh0,oh0,oh0,oh0,oh1,oh1,oh3,oh0,oh1,oh1,oh3,oh1,oh0,oh0] [0,3,4,5] [oE ((decide ((st:Int) < 0)) = true) (decide_eq_true h1),oE ((decide ((st:Int) < 0)) = true) (decide_eq_true h1),oE ((decide ((st:Int) < 0)) = true) (decide_eq_true h1),tT,tT,tT,tT] [] [.code [1,1,0,1,0,1],.code [1,1,1]] ⟨[(0,i6 st),(3,(pt w.heap.size 0)),(4,sT ⟨#[]⟩),(5,i6 80)],[⟨w.heap.size,25,true,(rp_v1 r)⟩],[],z2⟩ ?_
  refine hrt [] [sT ⟨#[]⟩,i6 80] [] ?_
  intro wx hm
  exact ⟨by
   have e:packGood st r = false:=by
    unfold packGood
    rw [decide_eq_false (show ¬ 0 ≤ st by omega)]
    rfl
   unfold packT packE
   rw [e]
   rfl,hm.kept⟩
 by_cases h2:st ≥ 8
 ·skip
  refine hgE 12 rp_n2 [0,3,4,5,10] [] [(w.heap.size,0,10)] [.ops [1,0] [1,2],.code [1,1]] ⟨[(0,i6 st),(3,(pt w.heap.size 0)),(4,sT ⟨#[]⟩),(5,i6 0),(10,.agg (List.toArray (rp_v1 r)))],[⟨w.heap.size,25,true,(rp_v1 r)⟩],[],w.heap.size + 1⟩ ?_
  refine hcp (.bool (okB r)) 17 [.agg (List.toArray (rp_v1 r))] (some 11) [] tI rfl (fun wx hm=>refRight_any r wx) fun z6 hz6=>?_
  replace hz6:w.heap.size + 1 ≤ z6:=hz6
  refine hgE 25 [oh0,oh0,oh0,oh0,oh0,oh0,⟨false,3,[]⟩,oh0,oh1,oh1,oh3,oh1,oh0,oh0] [0,3,4,5] [oE ((decide ((st:Int) < 0)) = false) (decide_eq_false h1),oE ((decide ((st:Int) < 0)) = false) (decide_eq_false h1),oE ((decide ((st:Int) < 0)) = false) (decide_eq_false h1),oE ((decide ((st:Int) ≥ 8)) = true) (decide_eq_true h2),oE ((decide ((st:Int) ≥ 8)) = true) (decide_eq_true h2),oE ((decide ((st:Int) ≥ 8)) = true) (decide_eq_true h2),tT] [] [.code [1,1,0,1,0,1],.code [1,1,1]] ⟨[(0,i6 st),(3,(pt w.heap.size 0)),(4,sT ⟨#[]⟩),(5,i6 80)],[⟨w.heap.size,25,true,(rp_v1 r)⟩],[],z6⟩ ?_
  refine hrt [] [sT ⟨#[]⟩,i6 80] [] ?_
  intro wx hm
  exact ⟨by
   have e:packGood st r = false:=by
    unfold packGood
    rw [decide_eq_false (show ¬ st < 8 by omega),Bool.and_false]
    rfl
   unfold packT packE
   rw [e]
   rfl,hm.kept⟩
 rcases Bool.eq_false_or_eq_true (okB r) with hok | hok
 rotate_left
 ·skip
  refine hgE 12 rp_n2 [0,3,4,5,10] [] [(w.heap.size,0,10)] [.ops [1,0] [1,2],.code [1,1]] ⟨[(0,i6 st),(3,(pt w.heap.size 0)),(4,sT ⟨#[]⟩),(5,i6 0),(10,.agg (List.toArray (rp_v1 r)))],[⟨w.heap.size,25,true,(rp_v1 r)⟩],[],w.heap.size + 1⟩ ?_
  refine hcp (.bool (okB r)) 17 [.agg (List.toArray (rp_v1 r))] (some 11) [] tI rfl (fun wx hm=>refRight_any r wx) fun z10 hz10=>?_
  replace hz10:w.heap.size + 1 ≤ z10:=hz10
  refine hgE 25 [oh0,oh0,oh0,oh0,oh0,oh0,⟨false,3,[]⟩,oh0,oh0,oh0,⟨false,3,[]⟩,oh1,oh0,oh0] [0,3,4,5] [oE ((decide ((st:Int) < 0)) = false) (decide_eq_false h1),oE ((decide ((st:Int) < 0)) = false) (decide_eq_false h1),oE ((decide ((st:Int) < 0)) = false) (decide_eq_false h1),oE ((decide ((st:Int) ≥ 8)) = false) (decide_eq_false h2),oE ((decide ((st:Int) ≥ 8)) = false) (decide_eq_false h2),oE ((decide ((st:Int) ≥ 8)) = false) (decide_eq_false h2),eD (nT hok)] [] [.code [1,1,0,1,0,1],.code [1,1,1]] ⟨[(0,i6 st),(3,(pt w.heap.size 0)),(4,sT ⟨#[]⟩),(5,i6 80)],[⟨w.heap.size,25,true,(rp_v1 r)⟩],[],z10⟩ ?_
  refine hrt [] [sT ⟨#[]⟩,i6 80] [] ?_
  intro wx hm
  exact ⟨by
   have e:packGood st r = false:=by
    unfold packGood
    rw [hok,Bool.and_false]
   unfold packT packE
   rw [e]
   rfl,hm.kept⟩
 have hg:packGood st r = true:=by
  unfold packGood
  rw [decide_eq_true (show 0 ≤ st by omega),decide_eq_true (show st < 8 by omega),hok]
  rfl
 have hrk:=(okB_iff r).1 hok
 have hby:=byts_packH (st:=st) ⟨by omega,by omega⟩ hrk
 have hC:=sumI_bd hby
 have hfe:=hrk.fence
 have hde:=hrk.de
 have hds:=hrk.ds
 have hie:=hrk.ie
 have his:=hrk.is
 have hmk:=hrk.mask
 have hbs:=block_size hrk
 have hss:=staged_size hrk
 have eT:packT st r = packS st r:=by unfold packT; rw [hg]; rfl
 have eE:packE st r = 0:=by unfold packE; rw [hg]; rfl
 refine hgE 12 rp_n2 [0,3,4,5,10] [] [(w.heap.size,0,10)] [.ops [1,0] [1,2],.code [1,1]] ⟨[(0,i6 st),(3,(pt w.heap.size 0)),(4,sT ⟨#[]⟩),(5,i6 0),(10,.agg (List.toArray (rp_v1 r)))],[⟨w.heap.size,25,true,(rp_v1 r)⟩],[],w.heap.size + 1⟩ ?_
 refine hcp (.bool (okB r)) 17 [.agg (List.toArray (rp_v1 r))] (some 11) [] tI rfl (fun wx hm=>refRight_any r wx) fun z14 hz14=>?_
 replace hz14:w.heap.size + 1 ≤ z14:=hz14
 refine hgE 31 [oh0,oh0,oh0,oh0,oh0,oh0,⟨false,3,[]⟩,oh0,oh0,oh0,⟨false,3,[]⟩,oh0,oh0,oh0,(oA 0 0 1)] [0,3,4,5,7,23] [oE ((decide ((st:Int) < 0)) = false) (decide_eq_false h1),oE ((decide ((st:Int) < 0)) = false) (decide_eq_false h1),oE ((decide ((st:Int) < 0)) = false) (decide_eq_false h1),oE ((decide ((st:Int) ≥ 8)) = false) (decide_eq_false h2),oE ((decide ((st:Int) ≥ 8)) = false) (decide_eq_false h2),oE ((decide ((st:Int) ≥ 8)) = false) (decide_eq_false h2),eD (nF hok)] [(w.heap.size,0,1)] [.code [1,1,1,1,0,1],.code [1,1,1,1,1]] ⟨[(0,i6 st),(3,(pt w.heap.size 0)),(4,sT ⟨#[]⟩),(5,i6 0),(7,i6 0),(23,.bool r.used)],[⟨w.heap.size,25,true,(rp_v1 r)⟩],[],z14⟩ ?_
 suffices HF:∀ fl:Int,fl = flagsI r → Holds [] Try.prog (bodyOf Try.f13) 92 w (fun _=>False) (bodyPost Try.prog Try.f13 (RetK (.tuple #[.string (packT st r),.int .i64 (packE st r)]) w)) [.ops [1,1,1,1,1,1,0] [0,1,2,3,4,5,6],.code [1,1,1,1,1,1,1]] ⟨[(0,.int .i64 st),(3,(pt w.heap.size 0)),(4,.string ⟨#[]⟩),(5,.int .i64 0),(7,.int .i64 fl)],[⟨w.heap.size,25,true,(rp_v1 r)⟩],[],z14⟩ by
  refine hgE 3 [] [0,3,4,5,7,23] [] [] [.code [1,1,1,1,0,1],.code [1,1,1,1,1]] ⟨[(0,i6 st),(3,(pt w.heap.size 0)),(4,sT ⟨#[]⟩),(5,i6 0),(7,i6 0),(23,.bool r.used)],[⟨w.heap.size,25,true,(rp_v1 r)⟩],[],z14⟩ ?_
  rcases Bool.eq_false_or_eq_true (r.used) with uused | uused
  ·skip
   refine hgE 13 [oh1,oh0,oh0,(oA 0 5 1)] [0,3,4,5,7,25] [oE (r.used = true) uused] [(w.heap.size,5,1)] [.code [1,1,1,1,1,0,1],.code [1,1,1,1,1,1]] ⟨[(0,i6 st),(3,(pt w.heap.size 0)),(4,sT ⟨#[]⟩),(5,i6 0),(7,i6 1),(25,.bool r.op)],[⟨w.heap.size,25,true,(rp_v1 r)⟩],[],z14⟩ ?_
   rcases Bool.eq_false_or_eq_true (r.op) with uop | uop
   ·skip
    refine hgE 11 [oh1,oh0,oh0,oh0] [0,3,4,5,7] [oE (r.op = true) uop] [] [.ops [1,1,1,1,1,1,0] [0,1,2,3,4,5,6],.code [1,1,1,1,1,1,1]] ⟨[(0,i6 st),(3,(pt w.heap.size 0)),(4,sT ⟨#[]⟩),(5,i6 0),(7,i6 3)],[⟨w.heap.size,25,true,(rp_v1 r)⟩],[],z14⟩ ?_
    have e:flagsI r = 3:=by
     unfold flagsI
     rw [uused,uop]
     rfl
    exact HF _ e.symm
   ·skip
    refine hgE 7 [oh0] [0,3,4,5,7] [oE (r.op = false) uop] [] [.ops [1,1,1,1,1,1,0] [0,1,2,3,4,5,6],.code [1,1,1,1,1,1,1]] ⟨[(0,i6 st),(3,(pt w.heap.size 0)),(4,sT ⟨#[]⟩),(5,i6 0),(7,i6 1)],[⟨w.heap.size,25,true,(rp_v1 r)⟩],[],z14⟩ ?_
    have e:flagsI r = 1:=by
     unfold flagsI
     rw [uused,uop]
     rfl
    exact HF _ e.symm
  ·skip
   refine hgE 11 [oh0,oh0,(oA 0 5 1)] [0,3,4,5,7,25] [oE (r.used = false) uused] [(w.heap.size,5,1)] [.code [1,1,1,1,1,0,1],.code [1,1,1,1,1,1]] ⟨[(0,i6 st),(3,(pt w.heap.size 0)),(4,sT ⟨#[]⟩),(5,i6 0),(7,i6 0),(25,.bool r.op)],[⟨w.heap.size,25,true,(rp_v1 r)⟩],[],z14⟩ ?_
   rcases Bool.eq_false_or_eq_true (r.op) with uop | uop
   ·skip
    refine hgE 11 [oh1,oh0,oh0,oh0] [0,3,4,5,7] [oE (r.op = true) uop] [] [.ops [1,1,1,1,1,1,0] [0,1,2,3,4,5,6],.code [1,1,1,1,1,1,1]] ⟨[(0,i6 st),(3,(pt w.heap.size 0)),(4,sT ⟨#[]⟩),(5,i6 0),(7,i6 2)],[⟨w.heap.size,25,true,(rp_v1 r)⟩],[],z14⟩ ?_
    have e:flagsI r = 2:=by
     unfold flagsI
     rw [uused,uop]
     rfl
    exact HF _ e.symm
   ·skip
    refine hgE 7 [oh0] [0,3,4,5,7] [oE (r.op = false) uop] [] [.ops [1,1,1,1,1,1,0] [0,1,2,3,4,5,6],.code [1,1,1,1,1,1,1]] ⟨[(0,i6 st),(3,(pt w.heap.size 0)),(4,sT ⟨#[]⟩),(5,i6 0),(7,i6 0)],[⟨w.heap.size,25,true,(rp_v1 r)⟩],[],z14⟩ ?_
    have e:flagsI r = 0:=by
     unfold flagsI
     rw [uused,uop]
     rfl
    exact HF _ e.symm
 intro fl hfl
 have hflb:=flagsI_bd r
 subst hfl
 refine hgE 8 [oh0,oh2,oh0,oh2,oh0] [3,4,5,32] [n8 (st),n8 ((flagsI r))] [] [.ops [1,1,1,1,1,1,0] [5,6],.code [1,1,1,1,1,1,1]] ⟨[(3,(pt w.heap.size 0)),(4,sT ⟨#[]⟩),(5,i6 0),(32,.slice (some ⟨z14,0,none⟩) 3 3)],(rp_b1 st r w z14),[],z14 + 1⟩ ?_
 refine holds_opR (dst:=(some 33)) (x:=convert 40 9 (.slice (some ⟨z14,0,none⟩) 3 3)) (.string (bytesI ([83,st,flagsI r]))) (by kernel_rfl) (by kernel_rfl) rfl (fun wx hm=>?_) ?_
 ·exact run_bytesAt (P:=Try.prog) wx 40 9 5 _ _ _ _ _ ([83,st,flagsI r]) ([]) [] (by kernel_rfl) (by kernel_rfl) (by kernel_rfl) (hm.at_ 1 rfl) rfl rfl (by intro n hn; simp at hn; omega)
 refine hgE 6 [oh0] [3,4,5,8] [] [] [.code [1,1,1,1,1,1,1,0],.code [1,1,1,1,1,1,1,1]] ⟨[(3,(pt w.heap.size 0)),(4,sT ⟨#[]⟩),(5,i6 0),(8,sT (bytesI ([83,st,flagsI r])))],(rp_b1 st r w z14),[],z14 + 1⟩ ?_
 refine holds_quietG _ _ (by kernel_rfl) (by kernel_rfl) (by kernel_rfl) (rp_q26 st r w z14) ⟨(fun wx hm=>three_any _ hfe wx),by simp [size_bytesI],(fun wx hm=>three_any _ hde wx),by simp [size_bytesI],(fun wx hm=>three_any _ hds wx),by simp [size_bytesI],(fun wx hm=>three_any _ hie wx),by simp [size_bytesI],(fun wx hm=>three_any _ his wx),by simp [size_bytesI],trivial⟩ fun z26 hz26=>?_
 replace hz26:z14 + 1 ≤ z26:=hz26
 refine hgE 4 [] [3,4,5,8] [] [] [.code rp_n1,.code [1,1,1,1,1,1,1,1,1]] ⟨[(3,(pt w.heap.size 0)),(4,sT ⟨#[]⟩),(5,i6 0),(8,sT ((((((bytesI ([83,st,flagsI r])) ++ (bytesI [r.fence % 256,r.fence / 256 % 256,r.fence / 65536])) ++ (bytesI [r.de % 256,r.de / 256 % 256,r.de / 65536])) ++ (bytesI [r.ds % 256,r.ds / 256 % 256,r.ds / 65536])) ++ (bytesI [r.ie % 256,r.ie / 256 % 256,r.ie / 65536])) ++ (bytesI [r.is % 256,r.is / 256 % 256,r.is / 65536])))],(rp_b1 st r w z14),[],z26⟩ ?_
 have rp_g28_c4:rp_g28C st r w z14 z26 4:=cert_new (h:=oh0) (ob:=[]) (rs:=[]) (t:=5) (L:=1) (l:=[r.mask]) (by kernel_rfl) (by kernel_rfl) (by kernel_rfl) (fun sz=>by kernel_rfl) trivial
 have rp_g28_c5:rp_g28C st r w z14 z26 5:=cert_bytes (k:=4) (d:=63) (src:=40) (dst:=9) (e:=5) (l:=[r.mask]) (show 4 ∈ _ from List.mem_of_getElem? (i:=0) (by kernel_rfl)) (by kernel_rfl) (by kernel_rfl) (by kernel_rfl) (by kernel_rfl) (fun g=>by kernel_rfl) (fun g=>by kernel_rfl) (by kernel_rfl) (by kernel_rfl) (by kernel_rfl) rfl (by intro n hn; simp at hn; omega)
 have rp_g28_c9:rp_g28C st r w z14 z26 9:=cert_call (v:=.string (bytesI ((List.range 16).map (byteAt r.block)))) (by kernel_rfl) (by kernel_rfl) (rp_g28_9 st r w) trivial (fun j wx _ hm=>filled16 _ hbs wx)
 have rp_g28_c13:rp_g28C st r w z14 z26 13:=cert_call (v:=.string (bytesI ((List.range 16).map (byteAt r.staged)))) (by kernel_rfl) (by kernel_rfl) (rp_g28_13 st r w) trivial (fun j wx _ hm=>filled16 _ hss wx)
 have rp_g28_R:∀ e_ ∈ (rZs [0,1,7,11,15] ++ [⟨2,⟨false,0,[⟨false,0,8,1⟩]⟩,[],[(w.heap.size,8,1)]⟩,⟨3,oh2,[n8 (r.mask)],[]⟩,⟨6,oh2,[oE ((((((((((bytesI ([83,st,flagsI r])) ++ (bytesI [r.fence % 256,r.fence / 256 % 256,r.fence / 65536])) ++ (bytesI [r.de % 256,r.de / 256 % 256,r.de / 65536])) ++ (bytesI [r.ds % 256,r.ds / 256 % 256,r.ds / 65536])) ++ (bytesI [r.ie % 256,r.ie / 256 % 256,r.ie / 65536])) ++ (bytesI [r.is % 256,r.is / 256 % 256,r.is / 65536]))).size + ((bytesI ([r.mask]))).size:Nat):Int) ≤ 9223372036854775807) (by simp [size_bytesI])],[]⟩,⟨8,⟨false,0,[⟨false,0,4,1⟩]⟩,[],[(w.heap.size,4,1)]⟩,⟨10,oh2,[oE (((((((((((bytesI ([83,st,flagsI r])) ++ (bytesI [r.fence % 256,r.fence / 256 % 256,r.fence / 65536])) ++ (bytesI [r.de % 256,r.de / 256 % 256,r.de / 65536])) ++ (bytesI [r.ds % 256,r.ds / 256 % 256,r.ds / 65536])) ++ (bytesI [r.ie % 256,r.ie / 256 % 256,r.ie / 65536])) ++ (bytesI [r.is % 256,r.is / 256 % 256,r.is / 65536])) ++ (bytesI ([r.mask])))).size + ((bytesI ((List.range 16).map (byteAt r.block)))).size:Nat):Int) ≤ 9223372036854775807) (by simp [size_bytesI])],[]⟩,⟨12,⟨false,0,[⟨false,0,9,1⟩]⟩,[],[(w.heap.size,9,1)]⟩,⟨14,oh2,[oE ((((((((((((bytesI ([83,st,flagsI r])) ++ (bytesI [r.fence % 256,r.fence / 256 % 256,r.fence / 65536])) ++ (bytesI [r.de % 256,r.de / 256 % 256,r.de / 65536])) ++ (bytesI [r.ds % 256,r.ds / 256 % 256,r.ds / 65536])) ++ (bytesI [r.ie % 256,r.ie / 256 % 256,r.ie / 65536])) ++ (bytesI [r.is % 256,r.is / 256 % 256,r.is / 65536])) ++ (bytesI ([r.mask]))) ++ (bytesI ((List.range 16).map (byteAt r.block))))).size + ((bytesI ((List.range 16).map (byteAt r.staged)))).size:Nat):Int) ≤ 9223372036854775807) (by simp [size_bytesI])],[]⟩]:List RegE),rp_g28C st r w z14 z26 e_.i:=certs_reg (by kernel_rfl) _ (fun sz=>by kernel_rfl)
 refine holds_mixG (vs:=(rp_g28v st r w)) (ms:=(rp_g28m st r w z14)) (stg:=(rp_g28t)) (J:=0) (sl':=[(4,sT ⟨#[]⟩),(5,i6 0),(8,sT (((((((((bytesI ([83,st,flagsI r])) ++ (bytesI [r.fence % 256,r.fence / 256 % 256,r.fence / 65536])) ++ (bytesI [r.de % 256,r.de / 256 % 256,r.de / 65536])) ++ (bytesI [r.ds % 256,r.ds / 256 % 256,r.ds / 65536])) ++ (bytesI [r.ie % 256,r.ie / 256 % 256,r.ie / 65536])) ++ (bytesI [r.is % 256,r.is / 256 % 256,r.is / 65536])) ++ (bytesI ([r.mask]))) ++ (bytesI ((List.range 16).map (byteAt r.block)))) ++ (bytesI ((List.range 16).map (byteAt r.staged)))))]) (bk':=(rp_b1 st r w z14)) (CBytes 4 z26 5 1 [r.mask]) [4,5,8] (by kernel_rfl) (by kernel_rfl) (by kernel_rfl) (cbytes_stable (by intro b hb; simp at hb; rcases hb with rfl | rfl <;> (simp; try omega))) (certs_mix rp_g28_R [4,5,9,13] ⟨rp_g28_c4,rp_g28_c5,rp_g28_c9,rp_g28_c13,tI⟩ (by kernel_rfl)) (by kernel_rfl) (by kernel_rfl) (by kernel_rfl) (fun z28 hz28=>?_)
 replace hz28:z26 ≤ z28:=hz28
 refine hgE 6 [oh0] [4,5,8,74] [] [] [.ops [1,1,1,1,1,1,1,1,1,0] [1,2],.code [1,1,1,1,1,1,1,1,1,1]] ⟨[(4,sT ⟨#[]⟩),(5,i6 0),(8,sT (((((((((bytesI ([83,st,flagsI r])) ++ (bytesI [r.fence % 256,r.fence / 256 % 256,r.fence / 65536])) ++ (bytesI [r.de % 256,r.de / 256 % 256,r.de / 65536])) ++ (bytesI [r.ds % 256,r.ds / 256 % 256,r.ds / 65536])) ++ (bytesI [r.ie % 256,r.ie / 256 % 256,r.ie / 65536])) ++ (bytesI [r.is % 256,r.is / 256 % 256,r.is / 65536])) ++ (bytesI ([r.mask]))) ++ (bytesI ((List.range 16).map (byteAt r.block)))) ++ (bytesI ((List.range 16).map (byteAt r.staged))))),(74,sT (((((((((bytesI ([83,st,flagsI r])) ++ (bytesI [r.fence % 256,r.fence / 256 % 256,r.fence / 65536])) ++ (bytesI [r.de % 256,r.de / 256 % 256,r.de / 65536])) ++ (bytesI [r.ds % 256,r.ds / 256 % 256,r.ds / 65536])) ++ (bytesI [r.ie % 256,r.ie / 256 % 256,r.ie / 65536])) ++ (bytesI [r.is % 256,r.is / 256 % 256,r.is / 65536])) ++ (bytesI ([r.mask]))) ++ (bytesI ((List.range 16).map (byteAt r.block)))) ++ (bytesI ((List.range 16).map (byteAt r.staged)))))],(rp_b1 st r w z14),[],z28⟩ ?_
 refine hcp (sT (bytesI (packH st r))) 49 [sT (((((((((bytesI ([83,st,flagsI r])) ++ (bytesI [r.fence % 256,r.fence / 256 % 256,r.fence / 65536])) ++ (bytesI [r.de % 256,r.de / 256 % 256,r.de / 65536])) ++ (bytesI [r.ds % 256,r.ds / 256 % 256,r.ds / 65536])) ++ (bytesI [r.ie % 256,r.ie / 256 % 256,r.ie / 65536])) ++ (bytesI [r.is % 256,r.is / 256 % 256,r.is / 65536])) ++ (bytesI ([r.mask]))) ++ (bytesI ((List.range 16).map (byteAt r.block)))) ++ (bytesI ((List.range 16).map (byteAt r.staged)))),i6 61] (some 75) [] tI rfl (fun wx hm=>filled61 ((packH st r).take 51) rfl _ (by simp only [bytesI_append]; rfl) wx) fun z30 hz30=>?_
 replace hz30:z28 ≤ z30:=hz30
 refine hgE 8 [oh0,oh0] [4,5,8,76] [] [] [.ops [1,1,1,1,1,1,1,1,1,1,0] [1,2],.code [1,1,1,1,1,1,1,1,1,1,1]] ⟨[(4,sT ⟨#[]⟩),(5,i6 0),(8,sT (bytesI (packH st r))),(76,sT (bytesI (packH st r)))],(rp_b1 st r w z14),[],z30⟩ ?_
 refine hcp (i6 (sumI (packH st r))) 50 [sT (bytesI (packH st r))] (some 77) [] tI rfl (fun wx hm=>by have h:=rsum_any (bytesI (packH st r)) (by rw [size_bytesI,length_packH]; decide) wx; rw [crcS_bytesI hby] at h; exact h) fun z32 hz32=>?_
 replace hz32:z30 ≤ z32:=hz32
 refine hgE 19 [oh0,oh0,oh0,oh2,oh2,oh0,oh2,oh2,oh2,oh0,oh2,oh2,oh0] [4,5,78,89] [oE ((0:Int) ≤ (sumI (packH st r)) ∧ (0:Int) < 65536 ∧ (sumI (packH st r)) ≤ IntKind.max .i64) (⟨by omega,by omega,le_max64 (by omega)⟩),n8 (((sumI (packH st r)) / 65536)),oE ((0:Int) ≤ (sumI (packH st r)) ∧ (0:Int) < 256 ∧ (sumI (packH st r)) ≤ IntKind.max .i64) (⟨by omega,by omega,le_max64 (by omega)⟩),oE ((0:Int) ≤ ((sumI (packH st r)) / 256) ∧ (0:Int) < 256),n8 ((((sumI (packH st r)) / 256) % 256)),oE ((0:Int) ≤ (sumI (packH st r)) ∧ (0:Int) < 256),n8 (((sumI (packH st r)) % 256))] [] [.ops [1,1,1,1,1,1,1,1,1,1,1,0] [12,13,14,15],.code [1,1,1,1,1,1,1,1,1,1,1,1]] ⟨[(4,sT ⟨#[]⟩),(5,i6 0),(78,sT (bytesI (packH st r))),(89,.slice (some ⟨z32,0,none⟩) 3 3)],(rp_b2 st r w z14 z32),[],z32 + 1⟩ ?_
 refine holds_opR (dst:=(some 90)) (x:=convert 40 9 (.slice (some ⟨z32,0,none⟩) 3 3)) (.string (bytesI ([(sumI (packH st r)) / 65536,(sumI (packH st r)) / 256 % 256,(sumI (packH st r)) % 256]))) (by kernel_rfl) (by kernel_rfl) rfl (fun wx hm=>?_) ?_
 ·exact run_bytesAt (P:=Try.prog) wx 40 9 5 _ _ _ _ _ ([(sumI (packH st r)) / 65536,(sumI (packH st r)) / 256 % 256,(sumI (packH st r)) % 256]) ([]) [] (by kernel_rfl) (by kernel_rfl) (by kernel_rfl) (hm.at_ 2 rfl) rfl rfl (byts_tail3 hC)
 refine hgE 7 [oh2,oh0,oh0] [4,5] [oE (((((bytesI (packH st r))).size + ((bytesI ([(sumI (packH st r)) / 65536,(sumI (packH st r)) / 256 % 256,(sumI (packH st r)) % 256]))).size:Nat):Int) ≤ 9223372036854775807) (by simp [size_bytesI,length_packH])] [] [.code [1,1,1,1,1,1,1,1,1,1,1,1]] ⟨[(4,sT ((bytesI (packH st r)) ++ (bytesI ([(sumI (packH st r)) / 65536,(sumI (packH st r)) / 256 % 256,(sumI (packH st r)) % 256])))),(5,i6 0)],(rp_b2 st r w z14 z32),[],z32 + 1⟩ ?_
 refine hrt [] [sT ((bytesI (packH st r)) ++ (bytesI ([(sumI (packH st r)) / 65536,(sumI (packH st r)) / 256 % 256,(sumI (packH st r)) % 256]))),i6 0] [] ?_
 intro wx hm
 refine ⟨?_,hm.kept⟩
 rw [eT,eE]
 unfold packS
 rw [← bytesI_append]
 rfl
end Go.Proofs.Ytpilmccjjbgmiaa
