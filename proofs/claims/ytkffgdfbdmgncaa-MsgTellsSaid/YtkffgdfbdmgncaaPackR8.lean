import Derived.Test.YtkffgdfbdmgncaaPack8
import Derived.Test.YtkffgdfbdmgncaaRightR8
namespace Go.Proofs.Ytkffgdfbdmgncaa
open Go.RowKit
@[simp] def thr_b1 (n:Int) (w:World):List Bk:=[⟨w.heap.size,5,true,[.int .u8 (n % 256),.int .u8 ((n / 256) % 256),.int .u8 (n / 65536)]⟩]
set_option maxRecDepth 100000 in
set_option maxHeartbeats 4000000 in
theorem three_any (n:Int) (hn:0 ≤ n ∧ n ≤ 16777215) (w:World) :
  Calls Try.prog 47 #[.int .i64 n] w (RetK (.string (bytesI [n % 256,n / 256 % 256,n / 65536])) w):=by
 refine calls_of_holds (S:=(fun _=>False)) (l:=[.int .i64 n]) (n:=15) Try.func47 (body_of (by kernel_rfl)) rfl (by simp) (MemOk.none w _) ?_
 refine hgo 20 [oh0,oh0,oh2,oh2,oh0,oh2,oh2,oh2,oh0,oh2,oh2,oh0] [2,13] [(0:Int) ≤ n ∧ (0:Int) < 256,inR .u8 ((n % 256)),(0:Int) ≤ n ∧ (0:Int) < 256 ∧ n ≤ IntKind.max .i64,(0:Int) ≤ (n / 256) ∧ (0:Int) < 256,inR .u8 (((n / 256) % 256)),(0:Int) ≤ n ∧ (0:Int) < 65536 ∧ n ≤ IntKind.max .i64,inR .u8 ((n / 65536))] [] [.ops [1,0] [11,12],.code [1,1]] ⟨[(2,.string ⟨#[]⟩),(13,.slice (some ⟨w.heap.size,0,none⟩) 3 3)],(thr_b1 n w),[],w.heap.size + 1⟩ ⟨⟨by omega,by omega⟩,inU8 (by omega),⟨by omega,by omega,le_max64 (by omega)⟩,⟨by omega,by omega⟩,inU8 (by omega),⟨by omega,by omega,le_max64 (by omega)⟩,inU8 (by omega),trivial⟩ ?_
 refine holds_opR (dst:=(some 14)) (x:=convert 50 9 (.slice (some ⟨w.heap.size,0,none⟩) 3 3)) (.string (bytesI ([n % 256,n / 256 % 256,n / 65536]))) (by kernel_rfl) (by kernel_rfl) rfl (fun wx hm=>?_) ?_
 ·exact run_bytesAt (P:=Try.prog) wx 50 9 5 _ _ _ _ _ ([n % 256,n / 256 % 256,n / 65536]) ([]) [] (by kernel_rfl) (by kernel_rfl) (by kernel_rfl) (hm.at_ 0 rfl) rfl rfl (by intro n hn; simp at hn; omega)
 refine hgo 5 [oh0] [2] [] [] [.code [1,1]] ⟨[(2,.string (bytesI ([n % 256,n / 256 % 256,n / 65536])))],(thr_b1 n w),[],w.heap.size + 1⟩ trivial ?_
 refine hrt [] [.string (bytesI ([n % 256,n / 256 % 256,n / 65536]))] [] ?_
 intro wx hm
 exact ⟨rfl,hm.kept⟩
def fila_v1:List Value:=[.int .u8 0,.int .u8 0,.int .u8 0,.int .u8 0,.int .u8 0,.int .u8 0,.int .u8 0,.int .u8 0,.int .u8 0,.int .u8 0,.int .u8 0,.int .u8 0,.int .u8 0,.int .u8 0,.int .u8 0,.int .u8 0]
set_option maxRecDepth 100000 in
set_option maxHeartbeats 4000000 in
theorem filled_a (s:ByteArray) (hs:s.size = 0) (w:World) :
  Calls Try.prog 48 #[.string s,.int .i64 16] w (RetK (.string (s ++ bytesI (List.replicate 16 0))) w):=by
 refine calls_of_holds (S:=(fun _=>False)) (l:=[.string s,.int .i64 16]) (n:=13) Try.func48 (body_of (by kernel_rfl)) rfl (by simp) (MemOk.none w _) ?_
 refine hgo 14 [oh0,oh0,oh0,oh0,oh0,oh2] [4,5,9] [inR .i64 ((16 - (s.size:Int)))] [] [.ops [1,0] [5,6,7,8],.code [1,1]] ⟨[(4,.string ⟨#[]⟩),(5,.string s),(9,.int .i64 (16 - (s.size:Int)))],[],[],w.heap.size⟩ ⟨in64 (by omega),trivial⟩ ?_
 rw [show (16 - (s.size:Int):Int) = 16 from by omega]
 refine hgo 4 [oh0] [4,5,10] [] [] [.ops [1,0] [6,7,8],.code [1,1]] ⟨[(4,.string ⟨#[]⟩),(5,.string s),(10,.slice (some ⟨w.heap.size,0,none⟩) 16 16)],[⟨w.heap.size,5,true,(fila_v1)⟩],[],w.heap.size + 1⟩ trivial ?_
 refine holds_opR (dst:=(some 11)) (x:=convert 50 9 (.slice (some ⟨w.heap.size,0,none⟩) 16 16)) (.string (bytesI (List.replicate 16 0))) (by kernel_rfl) (by kernel_rfl) rfl (fun wx hm=>?_) ?_
 ·exact run_bytesAt (P:=Try.prog) wx 50 9 5 _ _ _ _ _ (List.replicate 16 0) ([]) [] (by kernel_rfl) (by kernel_rfl) (by kernel_rfl) (hm.at_ 0 rfl) rfl rfl (by intro n hn; rw [List.eq_of_mem_replicate hn]; omega)
 refine hgo 6 [oh2,oh0] [4] [(((s).size + ((bytesI (List.replicate 16 0))).size:Nat):Int) ≤ 9223372036854775807] [] [.code [1,1]] ⟨[(4,.string (s ++ (bytesI (List.replicate 16 0))))],[⟨w.heap.size,5,true,(fila_v1)⟩],[],w.heap.size + 1⟩ ⟨by rw [size_bytesI,hs,List.length_replicate]; decide,trivial⟩ ?_
 refine hrt [] [.string (s ++ (bytesI (List.replicate 16 0)))] [] ?_
 intro wx hm
 exact ⟨rfl,hm.kept⟩
set_option maxRecDepth 100000 in
set_option maxHeartbeats 4000000 in
theorem filled_b (s:ByteArray) (hs:s.size = 16) (w:World) :
  Calls Try.prog 48 #[.string s,.int .i64 16] w (RetK (.string (s ++ bytesI (List.replicate 0 0))) w):=by
 refine calls_of_holds (S:=(fun _=>False)) (l:=[.string s,.int .i64 16]) (n:=13) Try.func48 (body_of (by kernel_rfl)) rfl (by simp) (MemOk.none w _) ?_
 refine hgo 14 [oh0,oh0,oh0,oh0,oh0,oh2] [4,5,9] [inR .i64 ((16 - (s.size:Int)))] [] [.ops [1,0] [5,6,7,8],.code [1,1]] ⟨[(4,.string ⟨#[]⟩),(5,.string s),(9,.int .i64 (16 - (s.size:Int)))],[],[],w.heap.size⟩ ⟨in64 (by omega),trivial⟩ ?_
 rw [show (16 - (s.size:Int):Int) = 0 from by omega]
 refine hgo 4 [oh0] [4,5,10] [] [] [.ops [1,0] [6,7,8],.code [1,1]] ⟨[(4,.string ⟨#[]⟩),(5,.string s),(10,.slice (some ⟨w.heap.size,0,none⟩) 0 0)],[⟨w.heap.size,5,true,[]⟩],[],w.heap.size + 1⟩ trivial ?_
 refine holds_opR (dst:=(some 11)) (x:=convert 50 9 (.slice (some ⟨w.heap.size,0,none⟩) 0 0)) (.string (bytesI (List.replicate 0 0))) (by kernel_rfl) (by kernel_rfl) rfl (fun wx hm=>?_) ?_
 ·exact run_bytesAt (P:=Try.prog) wx 50 9 5 _ _ _ _ _ (List.replicate 0 0) ([]) [] (by kernel_rfl) (by kernel_rfl) (by kernel_rfl) (hm.at_ 0 rfl) rfl rfl (fun _ hn=>by cases hn)
 refine hgo 6 [oh2,oh0] [4] [(((s).size + ((bytesI (List.replicate 0 0))).size:Nat):Int) ≤ 9223372036854775807] [] [.code [1,1]] ⟨[(4,.string (s ++ (bytesI (List.replicate 0 0))))],[⟨w.heap.size,5,true,[]⟩],[],w.heap.size + 1⟩ ⟨by rw [size_bytesI,hs,List.length_replicate]; decide,trivial⟩ ?_
 refine hrt [] [.string (s ++ (bytesI (List.replicate 0 0)))] [] ?_
 intro wx hm
 exact ⟨rfl,hm.kept⟩
def filc_v1:List Value:=[.int .u8 0,.int .u8 0,.int .u8 0,.int .u8 0,.int .u8 0,.int .u8 0,.int .u8 0,.int .u8 0,.int .u8 0,.int .u8 0]
set_option maxRecDepth 100000 in
set_option maxHeartbeats 4000000 in
theorem filled_c (s:ByteArray) (hs:s.size = 51) (w:World) :
  Calls Try.prog 48 #[.string s,.int .i64 61] w (RetK (.string (s ++ bytesI (List.replicate 10 0))) w):=by
 refine calls_of_holds (S:=(fun _=>False)) (l:=[.string s,.int .i64 61]) (n:=13) Try.func48 (body_of (by kernel_rfl)) rfl (by simp) (MemOk.none w _) ?_
 refine hgo 14 [oh0,oh0,oh0,oh0,oh0,oh2] [4,5,9] [inR .i64 ((61 - (s.size:Int)))] [] [.ops [1,0] [5,6,7,8],.code [1,1]] ⟨[(4,.string ⟨#[]⟩),(5,.string s),(9,.int .i64 (61 - (s.size:Int)))],[],[],w.heap.size⟩ ⟨in64 (by omega),trivial⟩ ?_
 rw [show (61 - (s.size:Int):Int) = 10 from by omega]
 refine hgo 4 [oh0] [4,5,10] [] [] [.ops [1,0] [6,7,8],.code [1,1]] ⟨[(4,.string ⟨#[]⟩),(5,.string s),(10,.slice (some ⟨w.heap.size,0,none⟩) 10 10)],[⟨w.heap.size,5,true,(filc_v1)⟩],[],w.heap.size + 1⟩ trivial ?_
 refine holds_opR (dst:=(some 11)) (x:=convert 50 9 (.slice (some ⟨w.heap.size,0,none⟩) 10 10)) (.string (bytesI (List.replicate 10 0))) (by kernel_rfl) (by kernel_rfl) rfl (fun wx hm=>?_) ?_
 ·exact run_bytesAt (P:=Try.prog) wx 50 9 5 _ _ _ _ _ (List.replicate 10 0) ([]) [] (by kernel_rfl) (by kernel_rfl) (by kernel_rfl) (hm.at_ 0 rfl) rfl rfl (by intro n hn; rw [List.eq_of_mem_replicate hn]; omega)
 refine hgo 6 [oh2,oh0] [4] [(((s).size + ((bytesI (List.replicate 10 0))).size:Nat):Int) ≤ 9223372036854775807] [] [.code [1,1]] ⟨[(4,.string (s ++ (bytesI (List.replicate 10 0))))],[⟨w.heap.size,5,true,(filc_v1)⟩],[],w.heap.size + 1⟩ ⟨by rw [size_bytesI,hs,List.length_replicate]; decide,trivial⟩ ?_
 refine hrt [] [.string (s ++ (bytesI (List.replicate 10 0)))] [] ?_
 intro wx hm
 exact ⟨rfl,hm.kept⟩
theorem filled16 (s:ByteArray) (h:s.size = 0 ∨ s.size = 16) (w:World):Calls Try.prog 48 #[.string s,.int .i64 16] w (RetK (.string (bytesI ((List.range 16).map (byteAt s)))) w):=by
 rcases h with h | h
 ·have h1:=filled_a s h w
  rw [size_zero.1 h] at h1 ⊢
  rw [map_byteAt_none rfl]
  exact h1
 ·have h1:=filled_b s h w
  have e:s ++ bytesI (List.replicate 0 0) = s:=by
   apply ByteArray.ext
   simp [bytesI,u8s]
  rw [e] at h1
  rw [← intsOf_size h,bytesI_intsOf]
  exact h1
theorem filled61 (l:List Int) (hl:l.length = 51) (s:ByteArray) (hs:s = bytesI l) (w:World):Calls Try.prog 48 #[.string s,.int .i64 61] w (RetK (.string (bytesI (l ++ List.replicate 10 0))) w):=by
 have h1:=filled_c s (by rw [hs,size_bytesI,hl]) w
 rw [← bytesI_append,← hs]
 exact h1
def rp_v1 (r:RecM):List Value:=[.bool r.used,.int .i64 r.fence,.int .i64 r.de,.int .i64 r.ds,.string r.block,.bool r.op,.int .i64 r.ie,.int .i64 r.is,.int .i64 r.mask,.string r.staged]
def rp_v2 (st:Int) (r:RecM):List Value:=[.int .u8 ((sumI (packH st r)) / 65536),.int .u8 (((sumI (packH st r)) / 256) % 256),.int .u8 ((sumI (packH st r)) % 256)]
def rp_n1:List Nat:=[1,1,1,1,1,1,1,1,0]
def rp_n2:List OH:=[oh0,oh0,oh0,⟨false,0,[⟨false,0,0,10⟩]⟩]
@[simp] def rp_b1 (st:Int) (r:RecM) (w:World) (z14:Nat):List Bk:=[⟨w.heap.size,27,true,(rp_v1 r)⟩,⟨z14,5,true,[.int .u8 83,.int .u8 st,.int .u8 (flagsI r)]⟩]
@[simp] def rp_b2 (st:Int) (r:RecM) (w:World) (z14:Nat) (z32:Nat):List Bk:=[⟨w.heap.size,27,true,(rp_v1 r)⟩,⟨z14,5,true,[.int .u8 83,.int .u8 st,.int .u8 (flagsI r)]⟩,⟨z32,5,true,(rp_v2 st r)⟩]
theorem rp_q26 (st:Int) (r:RecM) (w:World) (z14:Nat):Out.prune [3,4,5,8] (qListG Try.prog 92 w (fun _=>False) (opsOf (getCode (bodyOf Try.f23) [1,1,1,1,1,1,1,0])) (opsOf (getCode (bodyOf Try.f23) [1,1,1,1,1,1,1,0])).toList ⟨[(3,(pt w.heap.size 0)),(4,.string ⟨#[]⟩),(5,.int .i64 0),(8,.string (bytesI ([83,st,flagsI r])))],(rp_b1 st r w z14),[],z14 + 1⟩ [(false,.op oh0),(false,.op oh0),(false,.op ⟨false,0,[⟨false,0,1,1⟩]⟩),(false,.call (.string (bytesI [r.fence % 256,r.fence / 256 % 256,r.fence / 65536]))),(false,.op oh2),(false,.op oh0),(false,.op oh0),(false,.op ⟨false,0,[⟨false,0,2,1⟩]⟩),(false,.call (.string (bytesI [r.de % 256,r.de / 256 % 256,r.de / 65536]))),(false,.op oh2),(false,.op oh0),(false,.op oh0),(false,.op ⟨false,0,[⟨false,0,3,1⟩]⟩),(false,.call (.string (bytesI [r.ds % 256,r.ds / 256 % 256,r.ds / 65536]))),(false,.op oh2),(false,.op oh0),(false,.op oh0),(false,.op ⟨false,0,[⟨false,0,6,1⟩]⟩),(false,.call (.string (bytesI [r.ie % 256,r.ie / 256 % 256,r.ie / 65536]))),(false,.op oh2),(false,.op oh0),(false,.op oh0),(false,.op ⟨false,0,[⟨false,0,7,1⟩]⟩),(false,.call (.string (bytesI [r.is % 256,r.is / 256 % 256,r.is / 65536]))),(false,.op oh2),(false,.op oh0)]) = some ⟨[∀ w',MemC w (fun _=>False) (rp_b1 st r w z14) [] (z14 + 1) w' → Calls Try.prog 47 #[.int .i64 r.fence] w' (RetK (.string (bytesI [r.fence % 256,r.fence / 256 % 256,r.fence / 65536])) w'),((((bytesI ([83,st,flagsI r]))).size + ((bytesI [r.fence % 256,r.fence / 256 % 256,r.fence / 65536])).size:Nat):Int) ≤ 9223372036854775807,∀ w',MemC w (fun _=>False) (rp_b1 st r w z14) [] (z14 + 1) w' → Calls Try.prog 47 #[.int .i64 r.de] w' (RetK (.string (bytesI [r.de % 256,r.de / 256 % 256,r.de / 65536])) w'),(((((bytesI ([83,st,flagsI r])) ++ (bytesI [r.fence % 256,r.fence / 256 % 256,r.fence / 65536]))).size + ((bytesI [r.de % 256,r.de / 256 % 256,r.de / 65536])).size:Nat):Int) ≤ 9223372036854775807,∀ w',MemC w (fun _=>False) (rp_b1 st r w z14) [] (z14 + 1) w' → Calls Try.prog 47 #[.int .i64 r.ds] w' (RetK (.string (bytesI [r.ds % 256,r.ds / 256 % 256,r.ds / 65536])) w'),((((((bytesI ([83,st,flagsI r])) ++ (bytesI [r.fence % 256,r.fence / 256 % 256,r.fence / 65536])) ++ (bytesI [r.de % 256,r.de / 256 % 256,r.de / 65536]))).size + ((bytesI [r.ds % 256,r.ds / 256 % 256,r.ds / 65536])).size:Nat):Int) ≤ 9223372036854775807,∀ w',MemC w (fun _=>False) (rp_b1 st r w z14) [] (z14 + 1) w' → Calls Try.prog 47 #[.int .i64 r.ie] w' (RetK (.string (bytesI [r.ie % 256,r.ie / 256 % 256,r.ie / 65536])) w'),(((((((bytesI ([83,st,flagsI r])) ++ (bytesI [r.fence % 256,r.fence / 256 % 256,r.fence / 65536])) ++ (bytesI [r.de % 256,r.de / 256 % 256,r.de / 65536])) ++ (bytesI [r.ds % 256,r.ds / 256 % 256,r.ds / 65536]))).size + ((bytesI [r.ie % 256,r.ie / 256 % 256,r.ie / 65536])).size:Nat):Int) ≤ 9223372036854775807,∀ w',MemC w (fun _=>False) (rp_b1 st r w z14) [] (z14 + 1) w' → Calls Try.prog 47 #[.int .i64 r.is] w' (RetK (.string (bytesI [r.is % 256,r.is / 256 % 256,r.is / 65536])) w'),((((((((bytesI ([83,st,flagsI r])) ++ (bytesI [r.fence % 256,r.fence / 256 % 256,r.fence / 65536])) ++ (bytesI [r.de % 256,r.de / 256 % 256,r.de / 65536])) ++ (bytesI [r.ds % 256,r.ds / 256 % 256,r.ds / 65536])) ++ (bytesI [r.ie % 256,r.ie / 256 % 256,r.ie / 65536]))).size + ((bytesI [r.is % 256,r.is / 256 % 256,r.is / 65536])).size:Nat):Int) ≤ 9223372036854775807],dupR [(w.heap.size,1,1),(w.heap.size,2,1),(w.heap.size,3,1),(w.heap.size,6,1),(w.heap.size,7,1)],⟨[(3,(pt w.heap.size 0)),(4,.string ⟨#[]⟩),(5,.int .i64 0),(8,.string ((((((bytesI ([83,st,flagsI r])) ++ (bytesI [r.fence % 256,r.fence / 256 % 256,r.fence / 65536])) ++ (bytesI [r.de % 256,r.de / 256 % 256,r.de / 65536])) ++ (bytesI [r.ds % 256,r.ds / 256 % 256,r.ds / 65536])) ++ (bytesI [r.ie % 256,r.ie / 256 % 256,r.ie / 65536])) ++ (bytesI [r.is % 256,r.is / 256 % 256,r.is / 65536])))],(rp_b1 st r w z14),[],z14 + 1⟩⟩:=by kernel_rfl
def rp_g28s (st:Int) (r:RecM) (w:World):List (Nat × Value):=[(3,(pt w.heap.size 0)),(4,.string ⟨#[]⟩),(5,.int .i64 0),(8,.string ((((((bytesI ([83,st,flagsI r])) ++ (bytesI [r.fence % 256,r.fence / 256 % 256,r.fence / 65536])) ++ (bytesI [r.de % 256,r.de / 256 % 256,r.de / 65536])) ++ (bytesI [r.ds % 256,r.ds / 256 % 256,r.ds / 65536])) ++ (bytesI [r.ie % 256,r.ie / 256 % 256,r.ie / 65536])) ++ (bytesI [r.is % 256,r.is / 256 % 256,r.is / 65536])))]
def rp_g28v (st:Int) (r:RecM) (w:World):List (Option Value):=[some (.string ((((((bytesI ([83,st,flagsI r])) ++ (bytesI [r.fence % 256,r.fence / 256 % 256,r.fence / 65536])) ++ (bytesI [r.de % 256,r.de / 256 % 256,r.de / 65536])) ++ (bytesI [r.ds % 256,r.ds / 256 % 256,r.ds / 65536])) ++ (bytesI [r.ie % 256,r.ie / 256 % 256,r.ie / 65536])) ++ (bytesI [r.is % 256,r.is / 256 % 256,r.is / 65536]))),some ((pt w.heap.size 8)),some (.int .i64 r.mask),some (.int .u8 r.mask),none,some (.string (bytesI ([r.mask]))),some (.string (((((((bytesI ([83,st,flagsI r])) ++ (bytesI [r.fence % 256,r.fence / 256 % 256,r.fence / 65536])) ++ (bytesI [r.de % 256,r.de / 256 % 256,r.de / 65536])) ++ (bytesI [r.ds % 256,r.ds / 256 % 256,r.ds / 65536])) ++ (bytesI [r.ie % 256,r.ie / 256 % 256,r.ie / 65536])) ++ (bytesI [r.is % 256,r.is / 256 % 256,r.is / 65536])) ++ (bytesI ([r.mask])))),some ((pt w.heap.size 4)),some (.string r.block),some (.string (bytesI ((List.range 16).map (byteAt r.block)))),some (.string ((((((((bytesI ([83,st,flagsI r])) ++ (bytesI [r.fence % 256,r.fence / 256 % 256,r.fence / 65536])) ++ (bytesI [r.de % 256,r.de / 256 % 256,r.de / 65536])) ++ (bytesI [r.ds % 256,r.ds / 256 % 256,r.ds / 65536])) ++ (bytesI [r.ie % 256,r.ie / 256 % 256,r.ie / 65536])) ++ (bytesI [r.is % 256,r.is / 256 % 256,r.is / 65536])) ++ (bytesI ([r.mask]))) ++ (bytesI ((List.range 16).map (byteAt r.block))))),some ((pt w.heap.size 9)),some (.string r.staged),some (.string (bytesI ((List.range 16).map (byteAt r.staged)))),some (.string (((((((((bytesI ([83,st,flagsI r])) ++ (bytesI [r.fence % 256,r.fence / 256 % 256,r.fence / 65536])) ++ (bytesI [r.de % 256,r.de / 256 % 256,r.de / 65536])) ++ (bytesI [r.ds % 256,r.ds / 256 % 256,r.ds / 65536])) ++ (bytesI [r.ie % 256,r.ie / 256 % 256,r.ie / 65536])) ++ (bytesI [r.is % 256,r.is / 256 % 256,r.is / 65536])) ++ (bytesI ([r.mask]))) ++ (bytesI ((List.range 16).map (byteAt r.block)))) ++ (bytesI ((List.range 16).map (byteAt r.staged))))),some (.string (((((((((bytesI ([83,st,flagsI r])) ++ (bytesI [r.fence % 256,r.fence / 256 % 256,r.fence / 65536])) ++ (bytesI [r.de % 256,r.de / 256 % 256,r.de / 65536])) ++ (bytesI [r.ds % 256,r.ds / 256 % 256,r.ds / 65536])) ++ (bytesI [r.ie % 256,r.ie / 256 % 256,r.ie / 65536])) ++ (bytesI [r.is % 256,r.is / 256 % 256,r.is / 65536])) ++ (bytesI ([r.mask]))) ++ (bytesI ((List.range 16).map (byteAt r.block)))) ++ (bytesI ((List.range 16).map (byteAt r.staged)))))]
def rp_g28m (st:Int) (r:RecM) (w:World) (z14:Nat):List (List Bk):=[(rp_b1 st r w z14)]
def rp_g28t:List (Option Nat):=[none,none,none,none,none,none,none,none,none,none,none,none,none,none,none,none]
def rp_g28E (st:Int) (r:RecM) (w:World) (z14:Nat) (i_:Nat) (h_:OH) (o_:List Prop) (r_:List (Nat × Nat × Nat)):Prop:=∀ sz,(List.range (0 + 1)).map (regEnt Try.prog (opsOf (getCode (bodyOf Try.f23) rp_n1)) (slI (opsOf (getCode (bodyOf Try.f23) rp_n1)) (rp_g28s st r w) i_) (rp_g28v st r w) (rp_g28m st r w z14) [] sz i_ h_) = (List.range (0 + 1)).map (regExp (rp_g28v st r w) (rp_g28m st r w z14) sz i_ o_ r_)
theorem rp_g28_0 (st:Int) (r:RecM) (w:World) (z14:Nat):rp_g28E st r w z14 0 oh0 [] []:=fun sz=>by kernel_rfl
theorem rp_g28_1 (st:Int) (r:RecM) (w:World) (z14:Nat):rp_g28E st r w z14 1 oh0 [] []:=fun sz=>by kernel_rfl
theorem rp_g28_2 (st:Int) (r:RecM) (w:World) (z14:Nat):rp_g28E st r w z14 2 ⟨false,0,[⟨false,0,8,1⟩]⟩ [] [(w.heap.size,8,1)]:=fun sz=>by kernel_rfl
theorem rp_g28_3 (st:Int) (r:RecM) (w:World) (z14:Nat):rp_g28E st r w z14 3 oh2 [inR .u8 (r.mask)] []:=fun sz=>by kernel_rfl
theorem rp_g28_6 (st:Int) (r:RecM) (w:World) (z14:Nat):rp_g28E st r w z14 6 oh2 [(((((((((bytesI ([83,st,flagsI r])) ++ (bytesI [r.fence % 256,r.fence / 256 % 256,r.fence / 65536])) ++ (bytesI [r.de % 256,r.de / 256 % 256,r.de / 65536])) ++ (bytesI [r.ds % 256,r.ds / 256 % 256,r.ds / 65536])) ++ (bytesI [r.ie % 256,r.ie / 256 % 256,r.ie / 65536])) ++ (bytesI [r.is % 256,r.is / 256 % 256,r.is / 65536]))).size + ((bytesI ([r.mask]))).size:Nat):Int) ≤ 9223372036854775807] []:=fun sz=>by kernel_rfl
theorem rp_g28_7 (st:Int) (r:RecM) (w:World) (z14:Nat):rp_g28E st r w z14 7 oh0 [] []:=fun sz=>by kernel_rfl
theorem rp_g28_8 (st:Int) (r:RecM) (w:World) (z14:Nat):rp_g28E st r w z14 8 ⟨false,0,[⟨false,0,4,1⟩]⟩ [] [(w.heap.size,4,1)]:=fun sz=>by kernel_rfl
theorem rp_g28_9 (st:Int) (r:RecM) (w:World):callAt Try.prog (opsOf (getCode (bodyOf Try.f23) rp_n1)) (slG (opsOf (getCode (bodyOf Try.f23) rp_n1)) (rp_g28v st r w) (slI (opsOf (getCode (bodyOf Try.f23) rp_n1)) (rp_g28s st r w) 9) (needsOf (opsOf (getCode (bodyOf Try.f23) rp_n1)) 9)) 9 = some (48,[.string r.block,.int .i64 16],dstOf (opsOf (getCode (bodyOf Try.f23) rp_n1)) 9,[]):=by kernel_rfl
theorem rp_g28_10 (st:Int) (r:RecM) (w:World) (z14:Nat):rp_g28E st r w z14 10 oh2 [((((((((((bytesI ([83,st,flagsI r])) ++ (bytesI [r.fence % 256,r.fence / 256 % 256,r.fence / 65536])) ++ (bytesI [r.de % 256,r.de / 256 % 256,r.de / 65536])) ++ (bytesI [r.ds % 256,r.ds / 256 % 256,r.ds / 65536])) ++ (bytesI [r.ie % 256,r.ie / 256 % 256,r.ie / 65536])) ++ (bytesI [r.is % 256,r.is / 256 % 256,r.is / 65536])) ++ (bytesI ([r.mask])))).size + ((bytesI ((List.range 16).map (byteAt r.block)))).size:Nat):Int) ≤ 9223372036854775807] []:=fun sz=>by kernel_rfl
theorem rp_g28_11 (st:Int) (r:RecM) (w:World) (z14:Nat):rp_g28E st r w z14 11 oh0 [] []:=fun sz=>by kernel_rfl
theorem rp_g28_12 (st:Int) (r:RecM) (w:World) (z14:Nat):rp_g28E st r w z14 12 ⟨false,0,[⟨false,0,9,1⟩]⟩ [] [(w.heap.size,9,1)]:=fun sz=>by kernel_rfl
theorem rp_g28_13 (st:Int) (r:RecM) (w:World):callAt Try.prog (opsOf (getCode (bodyOf Try.f23) rp_n1)) (slG (opsOf (getCode (bodyOf Try.f23) rp_n1)) (rp_g28v st r w) (slI (opsOf (getCode (bodyOf Try.f23) rp_n1)) (rp_g28s st r w) 13) (needsOf (opsOf (getCode (bodyOf Try.f23) rp_n1)) 13)) 13 = some (48,[.string r.staged,.int .i64 16],dstOf (opsOf (getCode (bodyOf Try.f23) rp_n1)) 13,[]):=by kernel_rfl
theorem rp_g28_14 (st:Int) (r:RecM) (w:World) (z14:Nat):rp_g28E st r w z14 14 oh2 [(((((((((((bytesI ([83,st,flagsI r])) ++ (bytesI [r.fence % 256,r.fence / 256 % 256,r.fence / 65536])) ++ (bytesI [r.de % 256,r.de / 256 % 256,r.de / 65536])) ++ (bytesI [r.ds % 256,r.ds / 256 % 256,r.ds / 65536])) ++ (bytesI [r.ie % 256,r.ie / 256 % 256,r.ie / 65536])) ++ (bytesI [r.is % 256,r.is / 256 % 256,r.is / 65536])) ++ (bytesI ([r.mask]))) ++ (bytesI ((List.range 16).map (byteAt r.block))))).size + ((bytesI ((List.range 16).map (byteAt r.staged)))).size:Nat):Int) ≤ 9223372036854775807] []:=fun sz=>by kernel_rfl
theorem rp_g28_15 (st:Int) (r:RecM) (w:World) (z14:Nat):rp_g28E st r w z14 15 oh0 [] []:=fun sz=>by kernel_rfl
def rp_g28C (st:Int) (r:RecM) (w:World) (z14:Nat) (z26:Nat) (i_:Nat):Prop:=CertG (wpOp Try.prog (opsOf (getCode (bodyOf Try.f23) rp_n1)) (sem Try.prog (bodyOf Try.f23) (bodyPost Try.prog Try.f23 (RetK (.tuple #[.string (packT st r),.int .i64 (packE st r)]) w)) [.code [1,1,1,1,1,1,1,1,1]])) [] 92 (opsOf (getCode (bodyOf Try.f23) rp_n1)) (slI (opsOf (getCode (bodyOf Try.f23) rp_n1)) (rp_g28s st r w) i_) (rp_g28t) 0 (MG w (fun _=>False) (rp_g28m st r w z14) [] z26) (Turned (rp_b1 st r w z14)) (PvG (rp_g28v st r w) (CBytes 4 z26 5 1 [r.mask])) i_
set_option maxRecDepth 100000 in
set_option maxHeartbeats 4000000 in
theorem refPack_any (st:Int) (r:RecM) (w:World) :
  Calls Try.prog 23 #[.int .i64 st,.agg #[.bool r.used,.int .i64 r.fence,.int .i64 r.de,.int .i64 r.ds,.string r.block,.bool r.op,.int .i64 r.ie,.int .i64 r.is,.int .i64 r.mask,.string r.staged]] w (RetK (.tuple #[.string (packT st r),.int .i64 (packE st r)]) w):=by
 refine calls_of_holds (S:=(fun _=>False)) (l:=[.int .i64 st,.agg (List.toArray (rp_v1 r))]) (n:=92) Try.func23 (body_of (by kernel_rfl)) rfl (by simp) (MemOk.none w _) ?_
 by_cases h1:st < 0
 ·skip
  refine hgo 12 rp_n2 [0,3,4,5,10] [] [(w.heap.size,0,10)] [.ops [1,0] [1,2],.code [1,1]] ⟨[(0,.int .i64 st),(3,(pt w.heap.size 0)),(4,.string ⟨#[]⟩),(5,.int .i64 0),(10,.agg (List.toArray (rp_v1 r)))],[⟨w.heap.size,27,true,(rp_v1 r)⟩],[],w.heap.size + 1⟩ trivial ?_
  refine hcp (.bool (okB r)) 38 [.agg (List.toArray (rp_v1 r))] (some 11) [] trivial rfl (fun wx hm=>refRight_any r wx) fun z2 hz2=>?_
  replace hz2:w.heap.size + 1 ≤ z2:=hz2
  refine hgo 25 [oh0,oh0,oh0,oh0,oh1,oh1,oh3,oh0,oh1,oh1,oh3,oh1,oh0,oh0] [0,3,4,5] [(decide ((st:Int) < 0)) = true,(decide ((st:Int) < 0)) = true,(decide ((st:Int) < 0)) = true,true = true,true = true,true = true,true = true] [] [.code [1,1,0,1,0,1],.code [1,1,1]] ⟨[(0,.int .i64 st),(3,(pt w.heap.size 0)),(4,.string ⟨#[]⟩),(5,.int .i64 80)],[⟨w.heap.size,27,true,(rp_v1 r)⟩],[],z2⟩ ⟨decide_eq_true h1,decide_eq_true h1,decide_eq_true h1,rfl,rfl,rfl,rfl,trivial⟩ ?_
  refine hrt [] [.string ⟨#[]⟩,.int .i64 80] [] ?_
  intro wx hm
  exact ⟨by
   have e:packGood st r = false:=by
    unfold packGood
    rw [decide_eq_false (show ¬ 0 ≤ st by omega)]
    rfl
   unfold packT packE
   rw [e]
   rfl,hm.kept⟩
 by_cases h2:st ≥ 8
 ·skip
  refine hgo 12 rp_n2 [0,3,4,5,10] [] [(w.heap.size,0,10)] [.ops [1,0] [1,2],.code [1,1]] ⟨[(0,.int .i64 st),(3,(pt w.heap.size 0)),(4,.string ⟨#[]⟩),(5,.int .i64 0),(10,.agg (List.toArray (rp_v1 r)))],[⟨w.heap.size,27,true,(rp_v1 r)⟩],[],w.heap.size + 1⟩ trivial ?_
  refine hcp (.bool (okB r)) 38 [.agg (List.toArray (rp_v1 r))] (some 11) [] trivial rfl (fun wx hm=>refRight_any r wx) fun z6 hz6=>?_
  replace hz6:w.heap.size + 1 ≤ z6:=hz6
  refine hgo 25 [oh0,oh0,oh0,oh0,oh0,oh0,⟨false,3,[]⟩,oh0,oh1,oh1,oh3,oh1,oh0,oh0] [0,3,4,5] [(decide ((st:Int) < 0)) = false,(decide ((st:Int) < 0)) = false,(decide ((st:Int) < 0)) = false,(decide ((st:Int) ≥ 8)) = true,(decide ((st:Int) ≥ 8)) = true,(decide ((st:Int) ≥ 8)) = true,true = true] [] [.code [1,1,0,1,0,1],.code [1,1,1]] ⟨[(0,.int .i64 st),(3,(pt w.heap.size 0)),(4,.string ⟨#[]⟩),(5,.int .i64 80)],[⟨w.heap.size,27,true,(rp_v1 r)⟩],[],z6⟩ ⟨decide_eq_false h1,decide_eq_false h1,decide_eq_false h1,decide_eq_true h2,decide_eq_true h2,decide_eq_true h2,rfl,trivial⟩ ?_
  refine hrt [] [.string ⟨#[]⟩,.int .i64 80] [] ?_
  intro wx hm
  exact ⟨by
   have e:packGood st r = false:=by
    unfold packGood
    rw [decide_eq_false (show ¬ st < 8 by omega),Bool.and_false]
    rfl
   unfold packT packE
   rw [e]
   rfl,hm.kept⟩
 rcases Bool.eq_false_or_eq_true (okB r) with hok | hok
 rotate_left
 ·skip
  refine hgo 12 rp_n2 [0,3,4,5,10] [] [(w.heap.size,0,10)] [.ops [1,0] [1,2],.code [1,1]] ⟨[(0,.int .i64 st),(3,(pt w.heap.size 0)),(4,.string ⟨#[]⟩),(5,.int .i64 0),(10,.agg (List.toArray (rp_v1 r)))],[⟨w.heap.size,27,true,(rp_v1 r)⟩],[],w.heap.size + 1⟩ trivial ?_
  refine hcp (.bool (okB r)) 38 [.agg (List.toArray (rp_v1 r))] (some 11) [] trivial rfl (fun wx hm=>refRight_any r wx) fun z10 hz10=>?_
  replace hz10:w.heap.size + 1 ≤ z10:=hz10
  refine hgo 25 [oh0,oh0,oh0,oh0,oh0,oh0,⟨false,3,[]⟩,oh0,oh0,oh0,⟨false,3,[]⟩,oh1,oh0,oh0] [0,3,4,5] [(decide ((st:Int) < 0)) = false,(decide ((st:Int) < 0)) = false,(decide ((st:Int) < 0)) = false,(decide ((st:Int) ≥ 8)) = false,(decide ((st:Int) ≥ 8)) = false,(decide ((st:Int) ≥ 8)) = false,(!(okB r)) = true] [] [.code [1,1,0,1,0,1],.code [1,1,1]] ⟨[(0,.int .i64 st),(3,(pt w.heap.size 0)),(4,.string ⟨#[]⟩),(5,.int .i64 80)],[⟨w.heap.size,27,true,(rp_v1 r)⟩],[],z10⟩ ⟨decide_eq_false h1,decide_eq_false h1,decide_eq_false h1,decide_eq_false h2,decide_eq_false h2,decide_eq_false h2,(by rw [hok]; rfl),trivial⟩ ?_
  refine hrt [] [.string ⟨#[]⟩,.int .i64 80] [] ?_
  intro wx hm
  exact ⟨by
   have e:packGood st r = false:=by
    unfold packGood
    rw [hok,Bool.and_false]
   unfold packT packE
   rw [e]
   rfl,hm.kept⟩
 have hg:packGood st r = true:=by
  unfold packGood
  rw [decide_eq_true (show 0 ≤ st by omega),decide_eq_true (show st < 8 by omega),hok]
  rfl
 have hrk:=(okB_iff r).1 hok
 have hby:=byts_packH (st:=st) ⟨by omega,by omega⟩ hrk
 have hC:=sumI_bd hby
 have hfe:=hrk.fence
 have hde:=hrk.de
 have hds:=hrk.ds
 have hie:=hrk.ie
 have his:=hrk.is
 have hmk:=hrk.mask
 have hbs:=block_size hrk
 have hss:=staged_size hrk
 have eT:packT st r = packS st r:=by unfold packT; rw [hg]; rfl
 have eE:packE st r = 0:=by unfold packE; rw [hg]; rfl
 refine hgo 12 rp_n2 [0,3,4,5,10] [] [(w.heap.size,0,10)] [.ops [1,0] [1,2],.code [1,1]] ⟨[(0,.int .i64 st),(3,(pt w.heap.size 0)),(4,.string ⟨#[]⟩),(5,.int .i64 0),(10,.agg (List.toArray (rp_v1 r)))],[⟨w.heap.size,27,true,(rp_v1 r)⟩],[],w.heap.size + 1⟩ trivial ?_
 refine hcp (.bool (okB r)) 38 [.agg (List.toArray (rp_v1 r))] (some 11) [] trivial rfl (fun wx hm=>refRight_any r wx) fun z14 hz14=>?_
 replace hz14:w.heap.size + 1 ≤ z14:=hz14
 refine hgo 31 [oh0,oh0,oh0,oh0,oh0,oh0,⟨false,3,[]⟩,oh0,oh0,oh0,⟨false,3,[]⟩,oh0,oh0,oh0,⟨false,0,[⟨false,0,0,1⟩]⟩] [0,3,4,5,7,23] [(decide ((st:Int) < 0)) = false,(decide ((st:Int) < 0)) = false,(decide ((st:Int) < 0)) = false,(decide ((st:Int) ≥ 8)) = false,(decide ((st:Int) ≥ 8)) = false,(decide ((st:Int) ≥ 8)) = false,(!(okB r)) = false] [(w.heap.size,0,1)] [.code [1,1,1,1,0,1],.code [1,1,1,1,1]] ⟨[(0,.int .i64 st),(3,(pt w.heap.size 0)),(4,.string ⟨#[]⟩),(5,.int .i64 0),(7,.int .i64 0),(23,.bool r.used)],[⟨w.heap.size,27,true,(rp_v1 r)⟩],[],z14⟩ ⟨decide_eq_false h1,decide_eq_false h1,decide_eq_false h1,decide_eq_false h2,decide_eq_false h2,decide_eq_false h2,(by rw [hok]; rfl),trivial⟩ ?_
 suffices HF:∀ fl:Int,fl = flagsI r → Holds [] Try.prog (bodyOf Try.f23) 92 w (fun _=>False) (bodyPost Try.prog Try.f23 (RetK (.tuple #[.string (packT st r),.int .i64 (packE st r)]) w)) [.ops [1,1,1,1,1,1,0] [0,1,2,3,4,5,6],.code [1,1,1,1,1,1,1]] ⟨[(0,.int .i64 st),(3,(pt w.heap.size 0)),(4,.string ⟨#[]⟩),(5,.int .i64 0),(7,.int .i64 fl)],[⟨w.heap.size,27,true,(rp_v1 r)⟩],[],z14⟩ by
  refine hgo 3 [] [0,3,4,5,7,23] [] [] [.code [1,1,1,1,0,1],.code [1,1,1,1,1]] ⟨[(0,.int .i64 st),(3,(pt w.heap.size 0)),(4,.string ⟨#[]⟩),(5,.int .i64 0),(7,.int .i64 0),(23,.bool r.used)],[⟨w.heap.size,27,true,(rp_v1 r)⟩],[],z14⟩ trivial ?_
  rcases Bool.eq_false_or_eq_true (r.used) with uused | uused
  ·skip
   refine hgo 13 [oh1,oh0,oh0,⟨false,0,[⟨false,0,5,1⟩]⟩] [0,3,4,5,7,25] [r.used = true] [(w.heap.size,5,1)] [.code [1,1,1,1,1,0,1],.code [1,1,1,1,1,1]] ⟨[(0,.int .i64 st),(3,(pt w.heap.size 0)),(4,.string ⟨#[]⟩),(5,.int .i64 0),(7,.int .i64 1),(25,.bool r.op)],[⟨w.heap.size,27,true,(rp_v1 r)⟩],[],z14⟩ ⟨uused,trivial⟩ ?_
   rcases Bool.eq_false_or_eq_true (r.op) with uop | uop
   ·skip
    refine hgo 11 [oh1,oh0,oh0,oh0] [0,3,4,5,7] [r.op = true] [] [.ops [1,1,1,1,1,1,0] [0,1,2,3,4,5,6],.code [1,1,1,1,1,1,1]] ⟨[(0,.int .i64 st),(3,(pt w.heap.size 0)),(4,.string ⟨#[]⟩),(5,.int .i64 0),(7,.int .i64 3)],[⟨w.heap.size,27,true,(rp_v1 r)⟩],[],z14⟩ ⟨uop,trivial⟩ ?_
    have e:flagsI r = 3:=by
     unfold flagsI
     rw [uused,uop]
     rfl
    exact HF _ e.symm
   ·skip
    refine hgo 7 [oh0] [0,3,4,5,7] [r.op = false] [] [.ops [1,1,1,1,1,1,0] [0,1,2,3,4,5,6],.code [1,1,1,1,1,1,1]] ⟨[(0,.int .i64 st),(3,(pt w.heap.size 0)),(4,.string ⟨#[]⟩),(5,.int .i64 0),(7,.int .i64 1)],[⟨w.heap.size,27,true,(rp_v1 r)⟩],[],z14⟩ ⟨uop,trivial⟩ ?_
    have e:flagsI r = 1:=by
     unfold flagsI
     rw [uused,uop]
     rfl
    exact HF _ e.symm
  ·skip
   refine hgo 11 [oh0,oh0,⟨false,0,[⟨false,0,5,1⟩]⟩] [0,3,4,5,7,25] [r.used = false] [(w.heap.size,5,1)] [.code [1,1,1,1,1,0,1],.code [1,1,1,1,1,1]] ⟨[(0,.int .i64 st),(3,(pt w.heap.size 0)),(4,.string ⟨#[]⟩),(5,.int .i64 0),(7,.int .i64 0),(25,.bool r.op)],[⟨w.heap.size,27,true,(rp_v1 r)⟩],[],z14⟩ ⟨uused,trivial⟩ ?_
   rcases Bool.eq_false_or_eq_true (r.op) with uop | uop
   ·skip
    refine hgo 11 [oh1,oh0,oh0,oh0] [0,3,4,5,7] [r.op = true] [] [.ops [1,1,1,1,1,1,0] [0,1,2,3,4,5,6],.code [1,1,1,1,1,1,1]] ⟨[(0,.int .i64 st),(3,(pt w.heap.size 0)),(4,.string ⟨#[]⟩),(5,.int .i64 0),(7,.int .i64 2)],[⟨w.heap.size,27,true,(rp_v1 r)⟩],[],z14⟩ ⟨uop,trivial⟩ ?_
    have e:flagsI r = 2:=by
     unfold flagsI
     rw [uused,uop]
     rfl
    exact HF _ e.symm
   ·skip
    refine hgo 7 [oh0] [0,3,4,5,7] [r.op = false] [] [.ops [1,1,1,1,1,1,0] [0,1,2,3,4,5,6],.code [1,1,1,1,1,1,1]] ⟨[(0,.int .i64 st),(3,(pt w.heap.size 0)),(4,.string ⟨#[]⟩),(5,.int .i64 0),(7,.int .i64 0)],[⟨w.heap.size,27,true,(rp_v1 r)⟩],[],z14⟩ ⟨uop,trivial⟩ ?_
    have e:flagsI r = 0:=by
     unfold flagsI
     rw [uused,uop]
     rfl
    exact HF _ e.symm
 intro fl hfl
 have hflb:=flagsI_bd r
 subst hfl
 refine hgo 8 [oh0,oh2,oh0,oh2,oh0] [3,4,5,32] [inR .u8 (st),inR .u8 ((flagsI r))] [] [.ops [1,1,1,1,1,1,0] [5,6],.code [1,1,1,1,1,1,1]] ⟨[(3,(pt w.heap.size 0)),(4,.string ⟨#[]⟩),(5,.int .i64 0),(32,.slice (some ⟨z14,0,none⟩) 3 3)],(rp_b1 st r w z14),[],z14 + 1⟩ ⟨inU8 (by omega),inU8 (by omega),trivial⟩ ?_
 refine holds_opR (dst:=(some 33)) (x:=convert 50 9 (.slice (some ⟨z14,0,none⟩) 3 3)) (.string (bytesI ([83,st,flagsI r]))) (by kernel_rfl) (by kernel_rfl) rfl (fun wx hm=>?_) ?_
 ·exact run_bytesAt (P:=Try.prog) wx 50 9 5 _ _ _ _ _ ([83,st,flagsI r]) ([]) [] (by kernel_rfl) (by kernel_rfl) (by kernel_rfl) (hm.at_ 1 rfl) rfl rfl (by intro n hn; simp at hn; omega)
 refine hgo 6 [oh0] [3,4,5,8] [] [] [.code [1,1,1,1,1,1,1,0],.code [1,1,1,1,1,1,1,1]] ⟨[(3,(pt w.heap.size 0)),(4,.string ⟨#[]⟩),(5,.int .i64 0),(8,.string (bytesI ([83,st,flagsI r])))],(rp_b1 st r w z14),[],z14 + 1⟩ trivial ?_
 refine holds_quietG _ _ (by kernel_rfl) (by kernel_rfl) (by kernel_rfl) (rp_q26 st r w z14) ⟨(fun wx hm=>three_any _ hfe wx),by simp [size_bytesI],(fun wx hm=>three_any _ hde wx),by simp [size_bytesI],(fun wx hm=>three_any _ hds wx),by simp [size_bytesI],(fun wx hm=>three_any _ hie wx),by simp [size_bytesI],(fun wx hm=>three_any _ his wx),by simp [size_bytesI],trivial⟩ fun z26 hz26=>?_
 replace hz26:z14 + 1 ≤ z26:=hz26
 refine hgo 4 [] [3,4,5,8] [] [] [.code rp_n1,.code [1,1,1,1,1,1,1,1,1]] ⟨[(3,(pt w.heap.size 0)),(4,.string ⟨#[]⟩),(5,.int .i64 0),(8,.string ((((((bytesI ([83,st,flagsI r])) ++ (bytesI [r.fence % 256,r.fence / 256 % 256,r.fence / 65536])) ++ (bytesI [r.de % 256,r.de / 256 % 256,r.de / 65536])) ++ (bytesI [r.ds % 256,r.ds / 256 % 256,r.ds / 65536])) ++ (bytesI [r.ie % 256,r.ie / 256 % 256,r.ie / 65536])) ++ (bytesI [r.is % 256,r.is / 256 % 256,r.is / 65536])))],(rp_b1 st r w z14),[],z26⟩ trivial ?_
 have rp_g28_c0:rp_g28C st r w z14 z26 0:=cert_reg (v:=.string ((((((bytesI ([83,st,flagsI r])) ++ (bytesI [r.fence % 256,r.fence / 256 % 256,r.fence / 65536])) ++ (bytesI [r.de % 256,r.de / 256 % 256,r.de / 65536])) ++ (bytesI [r.ds % 256,r.ds / 256 % 256,r.ds / 65536])) ++ (bytesI [r.ie % 256,r.ie / 256 % 256,r.ie / 65536])) ++ (bytesI [r.is % 256,r.is / 256 % 256,r.is / 65536]))) (by kernel_rfl) (by kernel_rfl) (by kernel_rfl) (rp_g28_0 st r w z14) trivial
 have rp_g28_c1:rp_g28C st r w z14 z26 1:=cert_reg (v:=(pt w.heap.size 8)) (by kernel_rfl) (by kernel_rfl) (by kernel_rfl) (rp_g28_1 st r w z14) trivial
 have rp_g28_c2:rp_g28C st r w z14 z26 2:=cert_reg (v:=.int .i64 r.mask) (by kernel_rfl) (by kernel_rfl) (by kernel_rfl) (rp_g28_2 st r w z14) trivial
 have rp_g28_c3:rp_g28C st r w z14 z26 3:=cert_reg (v:=.int .u8 r.mask) (by kernel_rfl) (by kernel_rfl) (by kernel_rfl) (rp_g28_3 st r w z14) ⟨inU8 (by omega),trivial⟩
 have rp_g28_c4:rp_g28C st r w z14 z26 4:=cert_new (h:=oh0) (ob:=[]) (rs:=[]) (t:=5) (L:=1) (l:=[r.mask]) (by kernel_rfl) (by kernel_rfl) (by kernel_rfl) (fun sz=>by kernel_rfl) trivial
 have rp_g28_c5:rp_g28C st r w z14 z26 5:=cert_bytes (k:=4) (d:=63) (src:=50) (dst:=9) (e:=5) (l:=[r.mask]) (show 4 ∈ _ from List.mem_of_getElem? (i:=0) (by kernel_rfl)) (by kernel_rfl) (by kernel_rfl) (by kernel_rfl) (by kernel_rfl) (fun g=>by kernel_rfl) (fun g=>by kernel_rfl) (by kernel_rfl) (by kernel_rfl) (by kernel_rfl) rfl (by intro n hn; simp at hn; omega)
 have rp_g28_c6:rp_g28C st r w z14 z26 6:=cert_reg (v:=.string (((((((bytesI ([83,st,flagsI r])) ++ (bytesI [r.fence % 256,r.fence / 256 % 256,r.fence / 65536])) ++ (bytesI [r.de % 256,r.de / 256 % 256,r.de / 65536])) ++ (bytesI [r.ds % 256,r.ds / 256 % 256,r.ds / 65536])) ++ (bytesI [r.ie % 256,r.ie / 256 % 256,r.ie / 65536])) ++ (bytesI [r.is % 256,r.is / 256 % 256,r.is / 65536])) ++ (bytesI ([r.mask])))) (by kernel_rfl) (by kernel_rfl) (by kernel_rfl) (rp_g28_6 st r w z14) ⟨by simp [size_bytesI],trivial⟩
 have rp_g28_c7:rp_g28C st r w z14 z26 7:=cert_reg (v:=(pt w.heap.size 4)) (by kernel_rfl) (by kernel_rfl) (by kernel_rfl) (rp_g28_7 st r w z14) trivial
 have rp_g28_c8:rp_g28C st r w z14 z26 8:=cert_reg (v:=.string r.block) (by kernel_rfl) (by kernel_rfl) (by kernel_rfl) (rp_g28_8 st r w z14) trivial
 have rp_g28_c9:rp_g28C st r w z14 z26 9:=cert_call (v:=.string (bytesI ((List.range 16).map (byteAt r.block)))) (by kernel_rfl) (by kernel_rfl) (rp_g28_9 st r w) trivial (fun j wx _ hm=>filled16 _ hbs wx)
 have rp_g28_c10:rp_g28C st r w z14 z26 10:=cert_reg (v:=.string ((((((((bytesI ([83,st,flagsI r])) ++ (bytesI [r.fence % 256,r.fence / 256 % 256,r.fence / 65536])) ++ (bytesI [r.de % 256,r.de / 256 % 256,r.de / 65536])) ++ (bytesI [r.ds % 256,r.ds / 256 % 256,r.ds / 65536])) ++ (bytesI [r.ie % 256,r.ie / 256 % 256,r.ie / 65536])) ++ (bytesI [r.is % 256,r.is / 256 % 256,r.is / 65536])) ++ (bytesI ([r.mask]))) ++ (bytesI ((List.range 16).map (byteAt r.block))))) (by kernel_rfl) (by kernel_rfl) (by kernel_rfl) (rp_g28_10 st r w z14) ⟨by simp [size_bytesI],trivial⟩
 have rp_g28_c11:rp_g28C st r w z14 z26 11:=cert_reg (v:=(pt w.heap.size 9)) (by kernel_rfl) (by kernel_rfl) (by kernel_rfl) (rp_g28_11 st r w z14) trivial
 have rp_g28_c12:rp_g28C st r w z14 z26 12:=cert_reg (v:=.string r.staged) (by kernel_rfl) (by kernel_rfl) (by kernel_rfl) (rp_g28_12 st r w z14) trivial
 have rp_g28_c13:rp_g28C st r w z14 z26 13:=cert_call (v:=.string (bytesI ((List.range 16).map (byteAt r.staged)))) (by kernel_rfl) (by kernel_rfl) (rp_g28_13 st r w) trivial (fun j wx _ hm=>filled16 _ hss wx)
 have rp_g28_c14:rp_g28C st r w z14 z26 14:=cert_reg (v:=.string (((((((((bytesI ([83,st,flagsI r])) ++ (bytesI [r.fence % 256,r.fence / 256 % 256,r.fence / 65536])) ++ (bytesI [r.de % 256,r.de / 256 % 256,r.de / 65536])) ++ (bytesI [r.ds % 256,r.ds / 256 % 256,r.ds / 65536])) ++ (bytesI [r.ie % 256,r.ie / 256 % 256,r.ie / 65536])) ++ (bytesI [r.is % 256,r.is / 256 % 256,r.is / 65536])) ++ (bytesI ([r.mask]))) ++ (bytesI ((List.range 16).map (byteAt r.block)))) ++ (bytesI ((List.range 16).map (byteAt r.staged))))) (by kernel_rfl) (by kernel_rfl) (by kernel_rfl) (rp_g28_14 st r w z14) ⟨by simp [size_bytesI],trivial⟩
 have rp_g28_c15:rp_g28C st r w z14 z26 15:=cert_reg (v:=.string (((((((((bytesI ([83,st,flagsI r])) ++ (bytesI [r.fence % 256,r.fence / 256 % 256,r.fence / 65536])) ++ (bytesI [r.de % 256,r.de / 256 % 256,r.de / 65536])) ++ (bytesI [r.ds % 256,r.ds / 256 % 256,r.ds / 65536])) ++ (bytesI [r.ie % 256,r.ie / 256 % 256,r.ie / 65536])) ++ (bytesI [r.is % 256,r.is / 256 % 256,r.is / 65536])) ++ (bytesI ([r.mask]))) ++ (bytesI ((List.range 16).map (byteAt r.block)))) ++ (bytesI ((List.range 16).map (byteAt r.staged))))) (by kernel_rfl) (by kernel_rfl) (by kernel_rfl) (rp_g28_15 st r w z14) trivial
 refine holds_mixG (vs:=(rp_g28v st r w)) (ms:=(rp_g28m st r w z14)) (stg:=(rp_g28t)) (J:=0) (sl':=[(4,.string ⟨#[]⟩),(5,.int .i64 0),(8,.string (((((((((bytesI ([83,st,flagsI r])) ++ (bytesI [r.fence % 256,r.fence / 256 % 256,r.fence / 65536])) ++ (bytesI [r.de % 256,r.de / 256 % 256,r.de / 65536])) ++ (bytesI [r.ds % 256,r.ds / 256 % 256,r.ds / 65536])) ++ (bytesI [r.ie % 256,r.ie / 256 % 256,r.ie / 65536])) ++ (bytesI [r.is % 256,r.is / 256 % 256,r.is / 65536])) ++ (bytesI ([r.mask]))) ++ (bytesI ((List.range 16).map (byteAt r.block)))) ++ (bytesI ((List.range 16).map (byteAt r.staged)))))]) (bk':=(rp_b1 st r w z14)) (CBytes 4 z26 5 1 [r.mask]) [4,5,8] (by kernel_rfl) (by kernel_rfl) (by kernel_rfl) (cbytes_stable (by intro b hb; simp at hb; rcases hb with rfl | rfl <;> (simp; try omega))) (certs_of [0,1,2,3,4,5,6,7,8,9,10,11,12,13,14,15] (by kernel_rfl) ⟨rp_g28_c0,rp_g28_c1,rp_g28_c2,rp_g28_c3,rp_g28_c4,rp_g28_c5,rp_g28_c6,rp_g28_c7,rp_g28_c8,rp_g28_c9,rp_g28_c10,rp_g28_c11,rp_g28_c12,rp_g28_c13,rp_g28_c14,rp_g28_c15,trivial⟩) (by kernel_rfl) (by kernel_rfl) (by kernel_rfl) (fun z28 hz28=>?_)
 replace hz28:z26 ≤ z28:=hz28
 refine hgo 6 [oh0] [4,5,8,74] [] [] [.ops [1,1,1,1,1,1,1,1,1,0] [1,2],.code [1,1,1,1,1,1,1,1,1,1]] ⟨[(4,.string ⟨#[]⟩),(5,.int .i64 0),(8,.string (((((((((bytesI ([83,st,flagsI r])) ++ (bytesI [r.fence % 256,r.fence / 256 % 256,r.fence / 65536])) ++ (bytesI [r.de % 256,r.de / 256 % 256,r.de / 65536])) ++ (bytesI [r.ds % 256,r.ds / 256 % 256,r.ds / 65536])) ++ (bytesI [r.ie % 256,r.ie / 256 % 256,r.ie / 65536])) ++ (bytesI [r.is % 256,r.is / 256 % 256,r.is / 65536])) ++ (bytesI ([r.mask]))) ++ (bytesI ((List.range 16).map (byteAt r.block)))) ++ (bytesI ((List.range 16).map (byteAt r.staged))))),(74,.string (((((((((bytesI ([83,st,flagsI r])) ++ (bytesI [r.fence % 256,r.fence / 256 % 256,r.fence / 65536])) ++ (bytesI [r.de % 256,r.de / 256 % 256,r.de / 65536])) ++ (bytesI [r.ds % 256,r.ds / 256 % 256,r.ds / 65536])) ++ (bytesI [r.ie % 256,r.ie / 256 % 256,r.ie / 65536])) ++ (bytesI [r.is % 256,r.is / 256 % 256,r.is / 65536])) ++ (bytesI ([r.mask]))) ++ (bytesI ((List.range 16).map (byteAt r.block)))) ++ (bytesI ((List.range 16).map (byteAt r.staged)))))],(rp_b1 st r w z14),[],z28⟩ trivial ?_
 refine hcp (.string (bytesI (packH st r))) 48 [.string (((((((((bytesI ([83,st,flagsI r])) ++ (bytesI [r.fence % 256,r.fence / 256 % 256,r.fence / 65536])) ++ (bytesI [r.de % 256,r.de / 256 % 256,r.de / 65536])) ++ (bytesI [r.ds % 256,r.ds / 256 % 256,r.ds / 65536])) ++ (bytesI [r.ie % 256,r.ie / 256 % 256,r.ie / 65536])) ++ (bytesI [r.is % 256,r.is / 256 % 256,r.is / 65536])) ++ (bytesI ([r.mask]))) ++ (bytesI ((List.range 16).map (byteAt r.block)))) ++ (bytesI ((List.range 16).map (byteAt r.staged)))),.int .i64 61] (some 75) [] trivial rfl (fun wx hm=>filled61 ((packH st r).take 51) rfl _ (by simp only [bytesI_append]; rfl) wx) fun z30 hz30=>?_
 replace hz30:z28 ≤ z30:=hz30
 refine hgo 8 [oh0,oh0] [4,5,8,76] [] [] [.ops [1,1,1,1,1,1,1,1,1,1,0] [1,2],.code [1,1,1,1,1,1,1,1,1,1,1]] ⟨[(4,.string ⟨#[]⟩),(5,.int .i64 0),(8,.string (bytesI (packH st r))),(76,.string (bytesI (packH st r)))],(rp_b1 st r w z14),[],z30⟩ trivial ?_
 refine hcp (.int .i64 (sumI (packH st r))) 49 [.string (bytesI (packH st r))] (some 77) [] trivial rfl (fun wx hm=>by have h:=rsum_any (bytesI (packH st r)) (by rw [size_bytesI,length_packH]; decide) wx; rw [crcS_bytesI hby] at h; exact h) fun z32 hz32=>?_
 replace hz32:z30 ≤ z32:=hz32
 refine hgo 19 [oh0,oh0,oh0,oh2,oh2,oh0,oh2,oh2,oh2,oh0,oh2,oh2,oh0] [4,5,78,89] [(0:Int) ≤ (sumI (packH st r)) ∧ (0:Int) < 65536 ∧ (sumI (packH st r)) ≤ IntKind.max .i64,inR .u8 (((sumI (packH st r)) / 65536)),(0:Int) ≤ (sumI (packH st r)) ∧ (0:Int) < 256 ∧ (sumI (packH st r)) ≤ IntKind.max .i64,(0:Int) ≤ ((sumI (packH st r)) / 256) ∧ (0:Int) < 256,inR .u8 ((((sumI (packH st r)) / 256) % 256)),(0:Int) ≤ (sumI (packH st r)) ∧ (0:Int) < 256,inR .u8 (((sumI (packH st r)) % 256))] [] [.ops [1,1,1,1,1,1,1,1,1,1,1,0] [12,13,14,15],.code [1,1,1,1,1,1,1,1,1,1,1,1]] ⟨[(4,.string ⟨#[]⟩),(5,.int .i64 0),(78,.string (bytesI (packH st r))),(89,.slice (some ⟨z32,0,none⟩) 3 3)],(rp_b2 st r w z14 z32),[],z32 + 1⟩ ⟨⟨by omega,by omega,le_max64 (by omega)⟩,inU8 (by omega),⟨by omega,by omega,le_max64 (by omega)⟩,⟨by omega,by omega⟩,inU8 (by omega),⟨by omega,by omega⟩,inU8 (by omega),trivial⟩ ?_
 refine holds_opR (dst:=(some 90)) (x:=convert 50 9 (.slice (some ⟨z32,0,none⟩) 3 3)) (.string (bytesI ([(sumI (packH st r)) / 65536,(sumI (packH st r)) / 256 % 256,(sumI (packH st r)) % 256]))) (by kernel_rfl) (by kernel_rfl) rfl (fun wx hm=>?_) ?_
 ·exact run_bytesAt (P:=Try.prog) wx 50 9 5 _ _ _ _ _ ([(sumI (packH st r)) / 65536,(sumI (packH st r)) / 256 % 256,(sumI (packH st r)) % 256]) ([]) [] (by kernel_rfl) (by kernel_rfl) (by kernel_rfl) (hm.at_ 2 rfl) rfl rfl (byts_tail3 hC)
 refine hgo 7 [oh2,oh0,oh0] [4,5] [((((bytesI (packH st r))).size + ((bytesI ([(sumI (packH st r)) / 65536,(sumI (packH st r)) / 256 % 256,(sumI (packH st r)) % 256]))).size:Nat):Int) ≤ 9223372036854775807] [] [.code [1,1,1,1,1,1,1,1,1,1,1,1]] ⟨[(4,.string ((bytesI (packH st r)) ++ (bytesI ([(sumI (packH st r)) / 65536,(sumI (packH st r)) / 256 % 256,(sumI (packH st r)) % 256])))),(5,.int .i64 0)],(rp_b2 st r w z14 z32),[],z32 + 1⟩ ⟨by simp [size_bytesI,length_packH],trivial⟩ ?_
 refine hrt [] [.string ((bytesI (packH st r)) ++ (bytesI ([(sumI (packH st r)) / 65536,(sumI (packH st r)) / 256 % 256,(sumI (packH st r)) % 256]))),.int .i64 0] [] ?_
 intro wx hm
 refine ⟨?_,hm.kept⟩
 rw [eT,eE]
 unfold packS
 rw [← bytesI_append]
 rfl
end Go.Proofs.Ytkffgdfbdmgncaa
