import Derived.Test.YtpilmccjjbgmiaaRight8
import Derived.Test.YtpilmccjjbgmiaaCrc
import Derived.Test.YtpilmccjjbgmiaaEngY
namespace Go.Proofs.Ytpilmccjjbgmiaa
open Go.RowKit
theorem block_size {r:RecM} (h:RecOk r):r.block.size = 0 ∨ r.block.size = 16:=by
 cases e:r.used with
 | true=>exact .inr (h.block e)
 | false=>
  rw [(h.none e).1]
  exact .inl rfl
theorem staged_size {r:RecM} (h:RecOk r):r.staged.size = 0 ∨ r.staged.size = 16:=by
 cases e:r.op with
 | true=>exact .inr (h.staged e)
 | false=>
  rw [(h.shut e).1]
  exact .inl rfl
def atI:Nat → Int
 | 0=>3
 | 1=>6
 | 2=>9
 | 3=>12
 | 4=>15
 | _=>18
def bv (r:RecM) (pre:List Nat) (k:Nat):Int:=
 match pre[(k - 3) / 3]? with
 | none=>0
 | some x=>match (k - 3) % 3 with
  | 0=>numV r x % 256
  | 1=>numV r x / 256 % 256
  | _=>numV r x / 65536
theorem bv_ne {r:RecM} {pre:List Nat} {x k:Nat} (h:(k - 3) / 3 ≠ pre.length):bv r (pre ++ [x]) k = bv r pre k:=by
 unfold bv
 have e:(pre ++ [x])[(k - 3) / 3]? = pre[(k - 3) / 3]?:=by
  rcases Nat.lt_or_gt_of_ne h with h1 | h1
  ·rw [List.getElem?_append_left h1]
  ·rw [List.getElem?_append_right (by omega),List.getElem?_eq_none (by simp; omega),List.getElem?_eq_none (by omega)]
 rw [e]
theorem bv_at {r:RecM} {pre:List Nat} {x k:Nat} (h:(k - 3) / 3 = pre.length):bv r (pre ++ [x]) k = match (k - 3) % 3 with
  | 0=>numV r x % 256
  | 1=>numV r x / 256 % 256
  | _=>numV r x / 65536:=by
 unfold bv
 rw [h,List.getElem?_append_right (Nat.le_refl _),Nat.sub_self]
 rfl
def packBk (w:World) (z10:Nat) (st fl:Int) (r:RecM) (pre:List Nat):List Bk:=[⟨w.heap.size,25,true,[.bool r.used,i6 r.fence,i6 r.de,i6 r.ds,sT r.block,.bool r.op,i6 r.ie,i6 r.is,i6 r.mask,sT r.staged]⟩,⟨z10,75,true,[u6 83,u6 st,u6 fl,u6 (bv r pre 3),u6 (bv r pre 4),u6 (bv r pre 5),u6 (bv r pre 6),u6 (bv r pre 7),u6 (bv r pre 8),u6 (bv r pre 9),u6 (bv r pre 10),u6 (bv r pre 11),u6 (bv r pre 12),u6 (bv r pre 13),u6 (bv r pre 14),u6 (bv r pre 15),u6 (bv r pre 16),u6 (bv r pre 17),u6 0,u6 0,u6 0,u6 0,u6 0,u6 0,u6 0,u6 0,u6 0,u6 0,u6 0,u6 0,u6 0,u6 0,u6 0,u6 0,u6 0,u6 0,u6 0,u6 0,u6 0,u6 0,u6 0,u6 0,u6 0,u6 0,u6 0,u6 0,u6 0,u6 0,u6 0,u6 0,u6 0,u6 0,u6 0,u6 0,u6 0,u6 0,u6 0,u6 0,u6 0,u6 0,u6 0,u6 0,u6 0,u6 0]⟩,⟨z10 + 1,3,true,[i6 (atI pre.length)]⟩,⟨z10 + 2,79,false,[.pointer (some ⟨w.heap.size,0,none⟩)]⟩]
theorem packBk_0 (w:World) (z10:Nat) (st fl:Int) (r:RecM) (pre:List Nat) (x:Nat) (hl:pre.length = 0):packBk w z10 st fl r (pre ++ [x]) = [⟨w.heap.size,25,true,[.bool r.used,.int .i64 r.fence,.int .i64 r.de,.int .i64 r.ds,.string r.block,.bool r.op,.int .i64 r.ie,.int .i64 r.is,.int .i64 r.mask,.string r.staged]⟩,⟨z10,75,true,[.int .u8 83,.int .u8 st,.int .u8 fl,.int .u8 (numV r x % 256),.int .u8 (numV r x / 256 % 256),.int .u8 (numV r x / 65536),.int .u8 (bv r pre 6),.int .u8 (bv r pre 7),.int .u8 (bv r pre 8),.int .u8 (bv r pre 9),.int .u8 (bv r pre 10),.int .u8 (bv r pre 11),.int .u8 (bv r pre 12),.int .u8 (bv r pre 13),.int .u8 (bv r pre 14),.int .u8 (bv r pre 15),.int .u8 (bv r pre 16),.int .u8 (bv r pre 17),.int .u8 0,.int .u8 0,.int .u8 0,.int .u8 0,.int .u8 0,.int .u8 0,.int .u8 0,.int .u8 0,.int .u8 0,.int .u8 0,.int .u8 0,.int .u8 0,.int .u8 0,.int .u8 0,.int .u8 0,.int .u8 0,.int .u8 0,.int .u8 0,.int .u8 0,.int .u8 0,.int .u8 0,.int .u8 0,.int .u8 0,.int .u8 0,.int .u8 0,.int .u8 0,.int .u8 0,.int .u8 0,.int .u8 0,.int .u8 0,.int .u8 0,.int .u8 0,.int .u8 0,.int .u8 0,.int .u8 0,.int .u8 0,.int .u8 0,.int .u8 0,.int .u8 0,.int .u8 0,.int .u8 0,.int .u8 0,.int .u8 0,.int .u8 0,.int .u8 0,.int .u8 0]⟩,⟨z10 + 1,3,true,[.int .i64 6]⟩,⟨z10 + 2,79,false,[.pointer (some ⟨w.heap.size,0,none⟩)]⟩]:=by
 have e:(pre ++ [x]).length = 1:=by rw [List.length_append,hl]; rfl
 unfold packBk
 rw [e,bv_at (k:=3) (by rw [hl]),bv_at (k:=4) (by rw [hl]),bv_at (k:=5) (by rw [hl]),bv_ne (k:=6) (by rw [hl]; decide),bv_ne (k:=7) (by rw [hl]; decide),bv_ne (k:=8) (by rw [hl]; decide),bv_ne (k:=9) (by rw [hl]; decide),bv_ne (k:=10) (by rw [hl]; decide),bv_ne (k:=11) (by rw [hl]; decide),bv_ne (k:=12) (by rw [hl]; decide),bv_ne (k:=13) (by rw [hl]; decide),bv_ne (k:=14) (by rw [hl]; decide),bv_ne (k:=15) (by rw [hl]; decide),bv_ne (k:=16) (by rw [hl]; decide),bv_ne (k:=17) (by rw [hl]; decide)]
 rfl
theorem packBk_1 (w:World) (z10:Nat) (st fl:Int) (r:RecM) (pre:List Nat) (x:Nat) (hl:pre.length = 1):packBk w z10 st fl r (pre ++ [x]) = [⟨w.heap.size,25,true,[.bool r.used,.int .i64 r.fence,.int .i64 r.de,.int .i64 r.ds,.string r.block,.bool r.op,.int .i64 r.ie,.int .i64 r.is,.int .i64 r.mask,.string r.staged]⟩,⟨z10,75,true,[.int .u8 83,.int .u8 st,.int .u8 fl,.int .u8 (bv r pre 3),.int .u8 (bv r pre 4),.int .u8 (bv r pre 5),.int .u8 (numV r x % 256),.int .u8 (numV r x / 256 % 256),.int .u8 (numV r x / 65536),.int .u8 (bv r pre 9),.int .u8 (bv r pre 10),.int .u8 (bv r pre 11),.int .u8 (bv r pre 12),.int .u8 (bv r pre 13),.int .u8 (bv r pre 14),.int .u8 (bv r pre 15),.int .u8 (bv r pre 16),.int .u8 (bv r pre 17),.int .u8 0,.int .u8 0,.int .u8 0,.int .u8 0,.int .u8 0,.int .u8 0,.int .u8 0,.int .u8 0,.int .u8 0,.int .u8 0,.int .u8 0,.int .u8 0,.int .u8 0,.int .u8 0,.int .u8 0,.int .u8 0,.int .u8 0,.int .u8 0,.int .u8 0,.int .u8 0,.int .u8 0,.int .u8 0,.int .u8 0,.int .u8 0,.int .u8 0,.int .u8 0,.int .u8 0,.int .u8 0,.int .u8 0,.int .u8 0,.int .u8 0,.int .u8 0,.int .u8 0,.int .u8 0,.int .u8 0,.int .u8 0,.int .u8 0,.int .u8 0,.int .u8 0,.int .u8 0,.int .u8 0,.int .u8 0,.int .u8 0,.int .u8 0,.int .u8 0,.int .u8 0]⟩,⟨z10 + 1,3,true,[.int .i64 9]⟩,⟨z10 + 2,79,false,[.pointer (some ⟨w.heap.size,0,none⟩)]⟩]:=by
 have e:(pre ++ [x]).length = 2:=by rw [List.length_append,hl]; rfl
 unfold packBk
 rw [e,bv_ne (k:=3) (by rw [hl]; decide),bv_ne (k:=4) (by rw [hl]; decide),bv_ne (k:=5) (by rw [hl]; decide),bv_at (k:=6) (by rw [hl]),bv_at (k:=7) (by rw [hl]),bv_at (k:=8) (by rw [hl]),bv_ne (k:=9) (by rw [hl]; decide),bv_ne (k:=10) (by rw [hl]; decide),bv_ne (k:=11) (by rw [hl]; decide),bv_ne (k:=12) (by rw [hl]; decide),bv_ne (k:=13) (by rw [hl]; decide),bv_ne (k:=14) (by rw [hl]; decide),bv_ne (k:=15) (by rw [hl]; decide),bv_ne (k:=16) (by rw [hl]; decide),bv_ne (k:=17) (by rw [hl]; decide)]
 rfl
theorem packBk_2 (w:World) (z10:Nat) (st fl:Int) (r:RecM) (pre:List Nat) (x:Nat) (hl:pre.length = 2):packBk w z10 st fl r (pre ++ [x]) = [⟨w.heap.size,25,true,[.bool r.used,.int .i64 r.fence,.int .i64 r.de,.int .i64 r.ds,.string r.block,.bool r.op,.int .i64 r.ie,.int .i64 r.is,.int .i64 r.mask,.string r.staged]⟩,⟨z10,75,true,[.int .u8 83,.int .u8 st,.int .u8 fl,.int .u8 (bv r pre 3),.int .u8 (bv r pre 4),.int .u8 (bv r pre 5),.int .u8 (bv r pre 6),.int .u8 (bv r pre 7),.int .u8 (bv r pre 8),.int .u8 (numV r x % 256),.int .u8 (numV r x / 256 % 256),.int .u8 (numV r x / 65536),.int .u8 (bv r pre 12),.int .u8 (bv r pre 13),.int .u8 (bv r pre 14),.int .u8 (bv r pre 15),.int .u8 (bv r pre 16),.int .u8 (bv r pre 17),.int .u8 0,.int .u8 0,.int .u8 0,.int .u8 0,.int .u8 0,.int .u8 0,.int .u8 0,.int .u8 0,.int .u8 0,.int .u8 0,.int .u8 0,.int .u8 0,.int .u8 0,.int .u8 0,.int .u8 0,.int .u8 0,.int .u8 0,.int .u8 0,.int .u8 0,.int .u8 0,.int .u8 0,.int .u8 0,.int .u8 0,.int .u8 0,.int .u8 0,.int .u8 0,.int .u8 0,.int .u8 0,.int .u8 0,.int .u8 0,.int .u8 0,.int .u8 0,.int .u8 0,.int .u8 0,.int .u8 0,.int .u8 0,.int .u8 0,.int .u8 0,.int .u8 0,.int .u8 0,.int .u8 0,.int .u8 0,.int .u8 0,.int .u8 0,.int .u8 0,.int .u8 0]⟩,⟨z10 + 1,3,true,[.int .i64 12]⟩,⟨z10 + 2,79,false,[.pointer (some ⟨w.heap.size,0,none⟩)]⟩]:=by
 have e:(pre ++ [x]).length = 3:=by rw [List.length_append,hl]; rfl
 unfold packBk
 rw [e,bv_ne (k:=3) (by rw [hl]; decide),bv_ne (k:=4) (by rw [hl]; decide),bv_ne (k:=5) (by rw [hl]; decide),bv_ne (k:=6) (by rw [hl]; decide),bv_ne (k:=7) (by rw [hl]; decide),bv_ne (k:=8) (by rw [hl]; decide),bv_at (k:=9) (by rw [hl]),bv_at (k:=10) (by rw [hl]),bv_at (k:=11) (by rw [hl]),bv_ne (k:=12) (by rw [hl]; decide),bv_ne (k:=13) (by rw [hl]; decide),bv_ne (k:=14) (by rw [hl]; decide),bv_ne (k:=15) (by rw [hl]; decide),bv_ne (k:=16) (by rw [hl]; decide),bv_ne (k:=17) (by rw [hl]; decide)]
 rfl
theorem packBk_3 (w:World) (z10:Nat) (st fl:Int) (r:RecM) (pre:List Nat) (x:Nat) (hl:pre.length = 3):packBk w z10 st fl r (pre ++ [x]) = [⟨w.heap.size,25,true,[.bool r.used,.int .i64 r.fence,.int .i64 r.de,.int .i64 r.ds,.string r.block,.bool r.op,.int .i64 r.ie,.int .i64 r.is,.int .i64 r.mask,.string r.staged]⟩,⟨z10,75,true,[.int .u8 83,.int .u8 st,.int .u8 fl,.int .u8 (bv r pre 3),.int .u8 (bv r pre 4),.int .u8 (bv r pre 5),.int .u8 (bv r pre 6),.int .u8 (bv r pre 7),.int .u8 (bv r pre 8),.int .u8 (bv r pre 9),.int .u8 (bv r pre 10),.int .u8 (bv r pre 11),.int .u8 (numV r x % 256),.int .u8 (numV r x / 256 % 256),.int .u8 (numV r x / 65536),.int .u8 (bv r pre 15),.int .u8 (bv r pre 16),.int .u8 (bv r pre 17),.int .u8 0,.int .u8 0,.int .u8 0,.int .u8 0,.int .u8 0,.int .u8 0,.int .u8 0,.int .u8 0,.int .u8 0,.int .u8 0,.int .u8 0,.int .u8 0,.int .u8 0,.int .u8 0,.int .u8 0,.int .u8 0,.int .u8 0,.int .u8 0,.int .u8 0,.int .u8 0,.int .u8 0,.int .u8 0,.int .u8 0,.int .u8 0,.int .u8 0,.int .u8 0,.int .u8 0,.int .u8 0,.int .u8 0,.int .u8 0,.int .u8 0,.int .u8 0,.int .u8 0,.int .u8 0,.int .u8 0,.int .u8 0,.int .u8 0,.int .u8 0,.int .u8 0,.int .u8 0,.int .u8 0,.int .u8 0,.int .u8 0,.int .u8 0,.int .u8 0,.int .u8 0]⟩,⟨z10 + 1,3,true,[.int .i64 15]⟩,⟨z10 + 2,79,false,[.pointer (some ⟨w.heap.size,0,none⟩)]⟩]:=by
 have e:(pre ++ [x]).length = 4:=by rw [List.length_append,hl]; rfl
 unfold packBk
 rw [e,bv_ne (k:=3) (by rw [hl]; decide),bv_ne (k:=4) (by rw [hl]; decide),bv_ne (k:=5) (by rw [hl]; decide),bv_ne (k:=6) (by rw [hl]; decide),bv_ne (k:=7) (by rw [hl]; decide),bv_ne (k:=8) (by rw [hl]; decide),bv_ne (k:=9) (by rw [hl]; decide),bv_ne (k:=10) (by rw [hl]; decide),bv_ne (k:=11) (by rw [hl]; decide),bv_at (k:=12) (by rw [hl]),bv_at (k:=13) (by rw [hl]),bv_at (k:=14) (by rw [hl]),bv_ne (k:=15) (by rw [hl]; decide),bv_ne (k:=16) (by rw [hl]; decide),bv_ne (k:=17) (by rw [hl]; decide)]
 rfl
theorem packBk_4 (w:World) (z10:Nat) (st fl:Int) (r:RecM) (pre:List Nat) (x:Nat) (hl:pre.length = 4):packBk w z10 st fl r (pre ++ [x]) = [⟨w.heap.size,25,true,[.bool r.used,.int .i64 r.fence,.int .i64 r.de,.int .i64 r.ds,.string r.block,.bool r.op,.int .i64 r.ie,.int .i64 r.is,.int .i64 r.mask,.string r.staged]⟩,⟨z10,75,true,[.int .u8 83,.int .u8 st,.int .u8 fl,.int .u8 (bv r pre 3),.int .u8 (bv r pre 4),.int .u8 (bv r pre 5),.int .u8 (bv r pre 6),.int .u8 (bv r pre 7),.int .u8 (bv r pre 8),.int .u8 (bv r pre 9),.int .u8 (bv r pre 10),.int .u8 (bv r pre 11),.int .u8 (bv r pre 12),.int .u8 (bv r pre 13),.int .u8 (bv r pre 14),.int .u8 (numV r x % 256),.int .u8 (numV r x / 256 % 256),.int .u8 (numV r x / 65536),.int .u8 0,.int .u8 0,.int .u8 0,.int .u8 0,.int .u8 0,.int .u8 0,.int .u8 0,.int .u8 0,.int .u8 0,.int .u8 0,.int .u8 0,.int .u8 0,.int .u8 0,.int .u8 0,.int .u8 0,.int .u8 0,.int .u8 0,.int .u8 0,.int .u8 0,.int .u8 0,.int .u8 0,.int .u8 0,.int .u8 0,.int .u8 0,.int .u8 0,.int .u8 0,.int .u8 0,.int .u8 0,.int .u8 0,.int .u8 0,.int .u8 0,.int .u8 0,.int .u8 0,.int .u8 0,.int .u8 0,.int .u8 0,.int .u8 0,.int .u8 0,.int .u8 0,.int .u8 0,.int .u8 0,.int .u8 0,.int .u8 0,.int .u8 0,.int .u8 0,.int .u8 0]⟩,⟨z10 + 1,3,true,[.int .i64 18]⟩,⟨z10 + 2,79,false,[.pointer (some ⟨w.heap.size,0,none⟩)]⟩]:=by
 have e:(pre ++ [x]).length = 5:=by rw [List.length_append,hl]; rfl
 unfold packBk
 rw [e,bv_ne (k:=3) (by rw [hl]; decide),bv_ne (k:=4) (by rw [hl]; decide),bv_ne (k:=5) (by rw [hl]; decide),bv_ne (k:=6) (by rw [hl]; decide),bv_ne (k:=7) (by rw [hl]; decide),bv_ne (k:=8) (by rw [hl]; decide),bv_ne (k:=9) (by rw [hl]; decide),bv_ne (k:=10) (by rw [hl]; decide),bv_ne (k:=11) (by rw [hl]; decide),bv_ne (k:=12) (by rw [hl]; decide),bv_ne (k:=13) (by rw [hl]; decide),bv_ne (k:=14) (by rw [hl]; decide),bv_at (k:=15) (by rw [hl]),bv_at (k:=16) (by rw [hl]),bv_at (k:=17) (by rw [hl])]
 rfl
theorem rec_1 {r:RecM} {x:Nat} (hv:numV r x = r.fence):([.bool r.used,.int .i64 r.fence,.int .i64 r.de,.int .i64 r.ds,.string r.block,.bool r.op,.int .i64 r.ie,.int .i64 r.is,.int .i64 r.mask,.string r.staged]:List Value) = [.bool r.used,.int .i64 (numV r x),.int .i64 r.de,.int .i64 r.ds,.string r.block,.bool r.op,.int .i64 r.ie,.int .i64 r.is,.int .i64 r.mask,.string r.staged]:=by rw [hv]
theorem rec_2 {r:RecM} {x:Nat} (hv:numV r x = r.de):([.bool r.used,.int .i64 r.fence,.int .i64 r.de,.int .i64 r.ds,.string r.block,.bool r.op,.int .i64 r.ie,.int .i64 r.is,.int .i64 r.mask,.string r.staged]:List Value) = [.bool r.used,.int .i64 r.fence,.int .i64 (numV r x),.int .i64 r.ds,.string r.block,.bool r.op,.int .i64 r.ie,.int .i64 r.is,.int .i64 r.mask,.string r.staged]:=by rw [hv]
theorem rec_3 {r:RecM} {x:Nat} (hv:numV r x = r.ds):([.bool r.used,.int .i64 r.fence,.int .i64 r.de,.int .i64 r.ds,.string r.block,.bool r.op,.int .i64 r.ie,.int .i64 r.is,.int .i64 r.mask,.string r.staged]:List Value) = [.bool r.used,.int .i64 r.fence,.int .i64 r.de,.int .i64 (numV r x),.string r.block,.bool r.op,.int .i64 r.ie,.int .i64 r.is,.int .i64 r.mask,.string r.staged]:=by rw [hv]
theorem rec_6 {r:RecM} {x:Nat} (hv:numV r x = r.ie):([.bool r.used,.int .i64 r.fence,.int .i64 r.de,.int .i64 r.ds,.string r.block,.bool r.op,.int .i64 r.ie,.int .i64 r.is,.int .i64 r.mask,.string r.staged]:List Value) = [.bool r.used,.int .i64 r.fence,.int .i64 r.de,.int .i64 r.ds,.string r.block,.bool r.op,.int .i64 (numV r x),.int .i64 r.is,.int .i64 r.mask,.string r.staged]:=by rw [hv]
theorem rec_7 {r:RecM} {x:Nat} (hv:numV r x = r.is):([.bool r.used,.int .i64 r.fence,.int .i64 r.de,.int .i64 r.ds,.string r.block,.bool r.op,.int .i64 r.ie,.int .i64 r.is,.int .i64 r.mask,.string r.staged]:List Value) = [.bool r.used,.int .i64 r.fence,.int .i64 r.de,.int .i64 r.ds,.string r.block,.bool r.op,.int .i64 r.ie,.int .i64 (numV r x),.int .i64 r.mask,.string r.staged]:=by rw [hv]
def pk_v1 (r:RecM) (w:World) (x:Nat) (z10:Nat):List Value:=[i6 3,i6 3,i6 4,i6 3,i6 5,(pt w.heap.size 1),(pt w.heap.size 1),i6 (numV r x),u6 ((numV r x) % 256),(pt w.heap.size 1),(pt w.heap.size 1),i6 (numV r x),i6 ((numV r x) / 256),u6 (((numV r x) / 256) % 256),(pt w.heap.size 1),(pt w.heap.size 1),i6 (numV r x),i6 ((numV r x) / 65536),u6 ((numV r x) / 65536),(pt z10 3),.tuple #[],(pt z10 4),.tuple #[],(pt z10 5),.tuple #[]]
def pk_v2 (r:RecM) (x:Nat):List Value:=[.bool r.used,i6 (numV r x),i6 r.de,i6 r.ds,sT r.block,.bool r.op,i6 r.ie,i6 r.is,i6 r.mask,sT r.staged]
def pk_v3 (st:Int) (r:RecM) (fl:Int) (pre:List Nat):List Value:=[u6 83,u6 st,u6 fl,u6 (bv r pre 3),u6 (bv r pre 4),u6 (bv r pre 5),u6 (bv r pre 6),u6 (bv r pre 7),u6 (bv r pre 8),u6 (bv r pre 9),u6 (bv r pre 10),u6 (bv r pre 11),u6 (bv r pre 12),u6 (bv r pre 13),u6 (bv r pre 14),u6 (bv r pre 15),u6 (bv r pre 16),u6 (bv r pre 17)] ++ rp 46 (u6 0)
def pk_v4 (st:Int) (r:RecM) (fl:Int) (pre:List Nat) (x:Nat):List Value:=((pk_v3 st r fl pre).set 3 (u6 ((numV r x) % 256)))
def pk_v5 (st:Int) (r:RecM) (fl:Int) (pre:List Nat) (x:Nat):List Value:=((pk_v4 st r fl pre x).set 4 (u6 (((numV r x) / 256) % 256)))
def pk_v6 (st:Int) (r:RecM) (fl:Int) (pre:List Nat) (x:Nat):List Value:=((pk_v5 st r fl pre x).set 5 (u6 ((numV r x) / 65536)))
def pk_v7 (r:RecM) (w:World) (x:Nat) (z10:Nat):List Value:=(((((((pk_v1 r w x z10).set 5 ((pt w.heap.size 2))).set 6 ((pt w.heap.size 2))).set 9 ((pt w.heap.size 2))).set 10 ((pt w.heap.size 2))).set 14 ((pt w.heap.size 2))).set 15 ((pt w.heap.size 2)))
def pk_v8 (r:RecM) (x:Nat):List Value:=(((pk_v2 r x).set 1 (i6 r.fence)).set 2 (i6 (numV r x)))
def pk_v9 (r:RecM) (w:World) (x:Nat) (z10:Nat):List Value:=(((((((pk_v1 r w x z10).set 5 ((pt w.heap.size 3))).set 6 ((pt w.heap.size 3))).set 9 ((pt w.heap.size 3))).set 10 ((pt w.heap.size 3))).set 14 ((pt w.heap.size 3))).set 15 ((pt w.heap.size 3)))
def pk_v10 (r:RecM) (x:Nat):List Value:=(((pk_v8 r x).set 2 (i6 r.de)).set 3 (i6 (numV r x)))
def pk_v11 (r:RecM) (w:World) (x:Nat) (z10:Nat):List Value:=(((((((pk_v1 r w x z10).set 5 ((pt w.heap.size 6))).set 6 ((pt w.heap.size 6))).set 9 ((pt w.heap.size 6))).set 10 ((pt w.heap.size 6))).set 14 ((pt w.heap.size 6))).set 15 ((pt w.heap.size 6)))
def pk_v12 (r:RecM) (x:Nat):List Value:=(((pk_v8 r x).set 2 (i6 r.de)).set 6 (i6 (numV r x)))
def pk_v13 (r:RecM) (w:World) (x:Nat) (z10:Nat):List Value:=(((((((pk_v1 r w x z10).set 5 ((pt w.heap.size 7))).set 6 ((pt w.heap.size 7))).set 9 ((pt w.heap.size 7))).set 10 ((pt w.heap.size 7))).set 14 ((pt w.heap.size 7))).set 15 ((pt w.heap.size 7)))
def pk_v14 (r:RecM) (x:Nat):List Value:=(((pk_v8 r x).set 2 (i6 r.de)).set 7 (i6 (numV r x)))
def pk_v15 (r:RecM) (w:World) (x:Nat) (z10:Nat):List Value:=(((((((((pk_v1 r w x z10).set 0 (i6 6)).set 1 (i6 6)).set 2 (i6 7)).set 3 (i6 6)).set 4 (i6 8)).set 19 ((pt z10 6))).set 21 ((pt z10 7))).set 23 ((pt z10 8)))
def pk_v16 (st:Int) (r:RecM) (fl:Int) (pre:List Nat) (x:Nat):List Value:=((pk_v3 st r fl pre).set 6 (u6 ((numV r x) % 256)))
def pk_v17 (st:Int) (r:RecM) (fl:Int) (pre:List Nat) (x:Nat):List Value:=((pk_v16 st r fl pre x).set 7 (u6 (((numV r x) / 256) % 256)))
def pk_v18 (st:Int) (r:RecM) (fl:Int) (pre:List Nat) (x:Nat):List Value:=((pk_v17 st r fl pre x).set 8 (u6 ((numV r x) / 65536)))
def pk_v19 (r:RecM) (w:World) (x:Nat) (z10:Nat):List Value:=(((((((((pk_v7 r w x z10).set 0 (i6 6)).set 1 (i6 6)).set 2 (i6 7)).set 3 (i6 6)).set 4 (i6 8)).set 19 ((pt z10 6))).set 21 ((pt z10 7))).set 23 ((pt z10 8)))
def pk_v20 (r:RecM) (w:World) (x:Nat) (z10:Nat):List Value:=(((((((((pk_v9 r w x z10).set 0 (i6 6)).set 1 (i6 6)).set 2 (i6 7)).set 3 (i6 6)).set 4 (i6 8)).set 19 ((pt z10 6))).set 21 ((pt z10 7))).set 23 ((pt z10 8)))
def pk_v21 (r:RecM) (w:World) (x:Nat) (z10:Nat):List Value:=(((((((((pk_v11 r w x z10).set 0 (i6 6)).set 1 (i6 6)).set 2 (i6 7)).set 3 (i6 6)).set 4 (i6 8)).set 19 ((pt z10 6))).set 21 ((pt z10 7))).set 23 ((pt z10 8)))
def pk_v22 (r:RecM) (w:World) (x:Nat) (z10:Nat):List Value:=(((((((((pk_v13 r w x z10).set 0 (i6 6)).set 1 (i6 6)).set 2 (i6 7)).set 3 (i6 6)).set 4 (i6 8)).set 19 ((pt z10 6))).set 21 ((pt z10 7))).set 23 ((pt z10 8)))
def pk_v23 (r:RecM) (w:World) (x:Nat) (z10:Nat):List Value:=(((((((((pk_v1 r w x z10).set 0 (i6 9)).set 1 (i6 9)).set 2 (i6 10)).set 3 (i6 9)).set 4 (i6 11)).set 19 ((pt z10 9))).set 21 ((pt z10 10))).set 23 ((pt z10 11)))
def pk_v24 (st:Int) (r:RecM) (fl:Int) (pre:List Nat) (x:Nat):List Value:=((pk_v3 st r fl pre).set 9 (u6 ((numV r x) % 256)))
def pk_v25 (st:Int) (r:RecM) (fl:Int) (pre:List Nat) (x:Nat):List Value:=((pk_v24 st r fl pre x).set 10 (u6 (((numV r x) / 256) % 256)))
def pk_v26 (st:Int) (r:RecM) (fl:Int) (pre:List Nat) (x:Nat):List Value:=((pk_v25 st r fl pre x).set 11 (u6 ((numV r x) / 65536)))
def pk_v27 (r:RecM) (w:World) (x:Nat) (z10:Nat):List Value:=(((((((((pk_v7 r w x z10).set 0 (i6 9)).set 1 (i6 9)).set 2 (i6 10)).set 3 (i6 9)).set 4 (i6 11)).set 19 ((pt z10 9))).set 21 ((pt z10 10))).set 23 ((pt z10 11)))
def pk_v28 (r:RecM) (w:World) (x:Nat) (z10:Nat):List Value:=(((((((((pk_v9 r w x z10).set 0 (i6 9)).set 1 (i6 9)).set 2 (i6 10)).set 3 (i6 9)).set 4 (i6 11)).set 19 ((pt z10 9))).set 21 ((pt z10 10))).set 23 ((pt z10 11)))
def pk_v29 (r:RecM) (w:World) (x:Nat) (z10:Nat):List Value:=(((((((((pk_v11 r w x z10).set 0 (i6 9)).set 1 (i6 9)).set 2 (i6 10)).set 3 (i6 9)).set 4 (i6 11)).set 19 ((pt z10 9))).set 21 ((pt z10 10))).set 23 ((pt z10 11)))
def pk_v30 (r:RecM) (w:World) (x:Nat) (z10:Nat):List Value:=(((((((((pk_v13 r w x z10).set 0 (i6 9)).set 1 (i6 9)).set 2 (i6 10)).set 3 (i6 9)).set 4 (i6 11)).set 19 ((pt z10 9))).set 21 ((pt z10 10))).set 23 ((pt z10 11)))
def pk_v31 (r:RecM) (w:World) (x:Nat) (z10:Nat):List Value:=(((((((((pk_v1 r w x z10).set 0 (i6 12)).set 1 (i6 12)).set 2 (i6 13)).set 3 (i6 12)).set 4 (i6 14)).set 19 ((pt z10 12))).set 21 ((pt z10 13))).set 23 ((pt z10 14)))
def pk_v32 (st:Int) (r:RecM) (fl:Int) (pre:List Nat) (x:Nat):List Value:=((pk_v3 st r fl pre).set 12 (u6 ((numV r x) % 256)))
def pk_v33 (st:Int) (r:RecM) (fl:Int) (pre:List Nat) (x:Nat):List Value:=((pk_v32 st r fl pre x).set 13 (u6 (((numV r x) / 256) % 256)))
def pk_v34 (st:Int) (r:RecM) (fl:Int) (pre:List Nat) (x:Nat):List Value:=((pk_v33 st r fl pre x).set 14 (u6 ((numV r x) / 65536)))
def pk_v35 (r:RecM) (w:World) (x:Nat) (z10:Nat):List Value:=(((((((((pk_v7 r w x z10).set 0 (i6 12)).set 1 (i6 12)).set 2 (i6 13)).set 3 (i6 12)).set 4 (i6 14)).set 19 ((pt z10 12))).set 21 ((pt z10 13))).set 23 ((pt z10 14)))
def pk_v36 (r:RecM) (w:World) (x:Nat) (z10:Nat):List Value:=(((((((((pk_v9 r w x z10).set 0 (i6 12)).set 1 (i6 12)).set 2 (i6 13)).set 3 (i6 12)).set 4 (i6 14)).set 19 ((pt z10 12))).set 21 ((pt z10 13))).set 23 ((pt z10 14)))
def pk_v37 (r:RecM) (w:World) (x:Nat) (z10:Nat):List Value:=(((((((((pk_v11 r w x z10).set 0 (i6 12)).set 1 (i6 12)).set 2 (i6 13)).set 3 (i6 12)).set 4 (i6 14)).set 19 ((pt z10 12))).set 21 ((pt z10 13))).set 23 ((pt z10 14)))
def pk_v38 (r:RecM) (w:World) (x:Nat) (z10:Nat):List Value:=(((((((((pk_v13 r w x z10).set 0 (i6 12)).set 1 (i6 12)).set 2 (i6 13)).set 3 (i6 12)).set 4 (i6 14)).set 19 ((pt z10 12))).set 21 ((pt z10 13))).set 23 ((pt z10 14)))
def pk_v39 (r:RecM) (w:World) (x:Nat) (z10:Nat):List Value:=(((((((((pk_v1 r w x z10).set 0 (i6 15)).set 1 (i6 15)).set 2 (i6 16)).set 3 (i6 15)).set 4 (i6 17)).set 19 ((pt z10 15))).set 21 ((pt z10 16))).set 23 ((pt z10 17)))
def pk_v40 (st:Int) (r:RecM) (fl:Int) (pre:List Nat) (x:Nat):List Value:=((pk_v3 st r fl pre).set 15 (u6 ((numV r x) % 256)))
def pk_v41 (st:Int) (r:RecM) (fl:Int) (pre:List Nat) (x:Nat):List Value:=((pk_v40 st r fl pre x).set 16 (u6 (((numV r x) / 256) % 256)))
def pk_v42 (st:Int) (r:RecM) (fl:Int) (pre:List Nat) (x:Nat):List Value:=((pk_v41 st r fl pre x).set 17 (u6 ((numV r x) / 65536)))
def pk_v43 (r:RecM) (w:World) (x:Nat) (z10:Nat):List Value:=(((((((((pk_v7 r w x z10).set 0 (i6 15)).set 1 (i6 15)).set 2 (i6 16)).set 3 (i6 15)).set 4 (i6 17)).set 19 ((pt z10 15))).set 21 ((pt z10 16))).set 23 ((pt z10 17)))
def pk_v44 (r:RecM) (w:World) (x:Nat) (z10:Nat):List Value:=(((((((((pk_v9 r w x z10).set 0 (i6 15)).set 1 (i6 15)).set 2 (i6 16)).set 3 (i6 15)).set 4 (i6 17)).set 19 ((pt z10 15))).set 21 ((pt z10 16))).set 23 ((pt z10 17)))
def pk_v45 (r:RecM) (w:World) (x:Nat) (z10:Nat):List Value:=(((((((((pk_v11 r w x z10).set 0 (i6 15)).set 1 (i6 15)).set 2 (i6 16)).set 3 (i6 15)).set 4 (i6 17)).set 19 ((pt z10 15))).set 21 ((pt z10 16))).set 23 ((pt z10 17)))
def pk_v46 (r:RecM) (w:World) (x:Nat) (z10:Nat):List Value:=(((((((((pk_v13 r w x z10).set 0 (i6 15)).set 1 (i6 15)).set 2 (i6 16)).set 3 (i6 15)).set 4 (i6 17)).set 19 ((pt z10 15))).set 21 ((pt z10 16))).set 23 ((pt z10 17)))
def pk_v47 (r:RecM):List Value:=[.bool r.used,i6 r.fence,i6 r.de,i6 r.ds,sT r.block,.bool r.op,i6 r.ie,i6 r.is,i6 r.mask,sT r.staged]
def pk_v48 (st:Int) (r:RecM):List Value:=[u6 83,u6 st,u6 (flagsI r),u6 (r.fence % 256),u6 (r.fence / 256 % 256),u6 (r.fence / 65536),u6 (r.de % 256),u6 (r.de / 256 % 256),u6 (r.de / 65536),u6 (r.ds % 256),u6 (r.ds / 256 % 256),u6 (r.ds / 65536),u6 (r.ie % 256),u6 (r.ie / 256 % 256),u6 (r.ie / 65536),u6 (r.is % 256),u6 (r.is / 256 % 256),u6 (r.is / 65536),u6 r.mask] ++ rp 45 (u6 0)
def pk_v49 (st:Int) (r:RecM):List Value:=[u6 83,u6 st,u6 (flagsI r),u6 (r.fence % 256),u6 (r.fence / 256 % 256),u6 (r.fence / 65536),u6 (r.de % 256),u6 (r.de / 256 % 256),u6 (r.de / 65536),u6 (r.ds % 256),u6 (r.ds / 256 % 256),u6 (r.ds / 65536),u6 (r.ie % 256),u6 (r.ie / 256 % 256),u6 (r.ie / 65536),u6 (r.is % 256),u6 (r.is / 256 % 256),u6 (r.is / 65536),u6 r.mask,u6 (byteAt r.block 0),u6 (byteAt r.block 1),u6 (byteAt r.block 2),u6 (byteAt r.block 3),u6 (byteAt r.block 4),u6 (byteAt r.block 5),u6 (byteAt r.block 6),u6 (byteAt r.block 7),u6 (byteAt r.block 8),u6 (byteAt r.block 9),u6 (byteAt r.block 10),u6 (byteAt r.block 11),u6 (byteAt r.block 12),u6 (byteAt r.block 13),u6 (byteAt r.block 14),u6 (byteAt r.block 15)] ++ rp 29 (u6 0)
def pk_v50 (st:Int) (r:RecM):List Value:=((pk_v48 st r).set 18 (u6 0))
def pk_v51 (st:Int) (r:RecM):List Value:=[u6 83,u6 st,u6 (flagsI r),u6 (r.fence % 256),u6 (r.fence / 256 % 256),u6 (r.fence / 65536),u6 (r.de % 256),u6 (r.de / 256 % 256),u6 (r.de / 65536),u6 (r.ds % 256),u6 (r.ds / 256 % 256),u6 (r.ds / 65536),u6 (r.ie % 256),u6 (r.ie / 256 % 256),u6 (r.ie / 65536),u6 (r.is % 256),u6 (r.is / 256 % 256),u6 (r.is / 65536),u6 r.mask,u6 (byteAt r.block 0),u6 (byteAt r.block 1),u6 (byteAt r.block 2),u6 (byteAt r.block 3),u6 (byteAt r.block 4),u6 (byteAt r.block 5),u6 (byteAt r.block 6),u6 (byteAt r.block 7),u6 (byteAt r.block 8),u6 (byteAt r.block 9),u6 (byteAt r.block 10),u6 (byteAt r.block 11),u6 (byteAt r.block 12),u6 (byteAt r.block 13),u6 (byteAt r.block 14),u6 (byteAt r.block 15),u6 (byteAt r.staged 0),u6 (byteAt r.staged 1),u6 (byteAt r.staged 2),u6 (byteAt r.staged 3),u6 (byteAt r.staged 4),u6 (byteAt r.staged 5),u6 (byteAt r.staged 6),u6 (byteAt r.staged 7),u6 (byteAt r.staged 8),u6 (byteAt r.staged 9),u6 (byteAt r.staged 10),u6 (byteAt r.staged 11),u6 (byteAt r.staged 12),u6 (byteAt r.staged 13),u6 (byteAt r.staged 14),u6 (byteAt r.staged 15)] ++ rp 13 (u6 0)
def pk_v52 (st:Int) (r:RecM):List Value:=((((pk_v51 st r).set 61 (u6 ((sumI (packH st r)) / 65536))).set 62 (u6 (((sumI (packH st r)) / 256) % 256))).set 63 (u6 ((sumI (packH st r)) % 256)))
def pk_v53 (st:Int):List Value:=[u6 83,u6 st] ++ rp 62 (u6 0)
def pk_v54 (st:Int) (fl:Int):List Value:=((pk_v53 st).set 2 (u6 fl))
def pk_v55 (st:Int):List Value:=((pk_v53 st).set 2 (u6 1))
def pk_v56 (st:Int) (r:RecM):List Value:=[u6 83,u6 st,u6 (flagsI r),u6 (r.fence % 256),u6 (r.fence / 256 % 256),u6 (r.fence / 65536),u6 (r.de % 256),u6 (r.de / 256 % 256),u6 (r.de / 65536),u6 (r.ds % 256),u6 (r.ds / 256 % 256),u6 (r.ds / 65536),u6 (r.ie % 256),u6 (r.ie / 256 % 256),u6 (r.ie / 65536),u6 (r.is % 256),u6 (r.is / 256 % 256),u6 (r.is / 65536),u6 r.mask]
def pk_v57:List Value:=rp 29 (.int .u8 0)
def pk_v58 (st:Int) (r:RecM):List Value:=[u6 83,u6 st,u6 (flagsI r),u6 (r.fence % 256),u6 (r.fence / 256 % 256),u6 (r.fence / 65536),u6 (r.de % 256),u6 (r.de / 256 % 256),u6 (r.de / 65536),u6 (r.ds % 256),u6 (r.ds / 256 % 256),u6 (r.ds / 65536),u6 (r.ie % 256),u6 (r.ie / 256 % 256),u6 (r.ie / 65536),u6 (r.is % 256),u6 (r.is / 256 % 256),u6 (r.is / 65536),u6 r.mask,u6 (byteAt r.block 0),u6 (byteAt r.block 1),u6 (byteAt r.block 2),u6 (byteAt r.block 3),u6 (byteAt r.block 4),u6 (byteAt r.block 5),u6 (byteAt r.block 6),u6 (byteAt r.block 7),u6 (byteAt r.block 8),u6 (byteAt r.block 9),u6 (byteAt r.block 10),u6 (byteAt r.block 11),u6 (byteAt r.block 12),u6 (byteAt r.block 13),u6 (byteAt r.block 14),u6 (byteAt r.block 15)]
def pk_v59:List Value:=rp 13 (.int .u8 0)
def pk_n1:List Nat:=[1,1,1,1,1,1,1,0,1,0,1,0,0]
def pk_n2:List Nat:=[1,1,1,1,1,1,1,0,1,0,1,0,1]
def pk_n3:List Nat:=[1,1,1,1,1,1,1,1,1,0]
def pk_n4:List Nat:=[1,1,1,1,1,1,1,1,1,1,0]
def pk_n5:List (Option Nat):=[none,none,none,none,none,none,none,none,none,none,none,none,none,none,none,none,none,none,none,none,some 0,none,some 1,none,some 2]
def pk_n6:List OH:=[oh0,oh0,oh0,oh0,oh0,oh0,oh0,oh0,⟨false,3,[]⟩,oh0,⟨false,0,[⟨false,0,0,10⟩]⟩]
def pk_n7:List OH:=[oh1,oh0,⟨false,0,[⟨false,1,2,1⟩]⟩,oh0,oh0,⟨false,0,[⟨false,1,2,1⟩]⟩]
def pk_n8:List OH:=[⟨false,0,[⟨false,2,0,1⟩]⟩,oh0,⟨false,0,[⟨false,2,0,1⟩]⟩]
@[simp] def pk_b1 (st:Int) (r:RecM) (w:World) (fl:Int) (pre:List Nat) (x:Nat) (z10:Nat):List Bk:=[⟨w.heap.size,25,true,(pk_v2 r x)⟩,⟨z10,75,true,(pk_v3 st r fl pre)⟩,⟨z10 + 1,3,true,[i6 3]⟩,⟨z10 + 2,79,false,[(pt w.heap.size 0)]⟩]
@[simp] def pk_b2 (st:Int) (r:RecM) (w:World) (fl:Int) (pre:List Nat) (x:Nat) (z10:Nat):List Bk:=[⟨w.heap.size,25,true,(pk_v8 r x)⟩,⟨z10,75,true,(pk_v3 st r fl pre)⟩,⟨z10 + 1,3,true,[i6 3]⟩,⟨z10 + 2,79,false,[(pt w.heap.size 0)]⟩]
@[simp] def pk_b3 (st:Int) (r:RecM) (w:World) (fl:Int) (pre:List Nat) (x:Nat) (z10:Nat):List Bk:=[⟨w.heap.size,25,true,(pk_v10 r x)⟩,⟨z10,75,true,(pk_v3 st r fl pre)⟩,⟨z10 + 1,3,true,[i6 3]⟩,⟨z10 + 2,79,false,[(pt w.heap.size 0)]⟩]
@[simp] def pk_b4 (st:Int) (r:RecM) (w:World) (fl:Int) (pre:List Nat) (x:Nat) (z10:Nat):List Bk:=[⟨w.heap.size,25,true,(pk_v12 r x)⟩,⟨z10,75,true,(pk_v3 st r fl pre)⟩,⟨z10 + 1,3,true,[i6 3]⟩,⟨z10 + 2,79,false,[(pt w.heap.size 0)]⟩]
@[simp] def pk_b5 (st:Int) (r:RecM) (w:World) (fl:Int) (pre:List Nat) (x:Nat) (z10:Nat):List Bk:=[⟨w.heap.size,25,true,(pk_v14 r x)⟩,⟨z10,75,true,(pk_v3 st r fl pre)⟩,⟨z10 + 1,3,true,[i6 3]⟩,⟨z10 + 2,79,false,[(pt w.heap.size 0)]⟩]
@[simp] def pk_b6 (st:Int) (r:RecM) (w:World) (fl:Int) (pre:List Nat) (x:Nat) (z10:Nat):List Bk:=[⟨w.heap.size,25,true,(pk_v2 r x)⟩,⟨z10,75,true,(pk_v3 st r fl pre)⟩,⟨z10 + 1,3,true,[i6 6]⟩,⟨z10 + 2,79,false,[(pt w.heap.size 0)]⟩]
@[simp] def pk_b7 (st:Int) (r:RecM) (w:World) (fl:Int) (pre:List Nat) (x:Nat) (z10:Nat):List Bk:=[⟨w.heap.size,25,true,(pk_v8 r x)⟩,⟨z10,75,true,(pk_v3 st r fl pre)⟩,⟨z10 + 1,3,true,[i6 6]⟩,⟨z10 + 2,79,false,[(pt w.heap.size 0)]⟩]
@[simp] def pk_b8 (st:Int) (r:RecM) (w:World) (fl:Int) (pre:List Nat) (x:Nat) (z10:Nat):List Bk:=[⟨w.heap.size,25,true,(pk_v10 r x)⟩,⟨z10,75,true,(pk_v3 st r fl pre)⟩,⟨z10 + 1,3,true,[i6 6]⟩,⟨z10 + 2,79,false,[(pt w.heap.size 0)]⟩]
@[simp] def pk_b9 (st:Int) (r:RecM) (w:World) (fl:Int) (pre:List Nat) (x:Nat) (z10:Nat):List Bk:=[⟨w.heap.size,25,true,(pk_v12 r x)⟩,⟨z10,75,true,(pk_v3 st r fl pre)⟩,⟨z10 + 1,3,true,[i6 6]⟩,⟨z10 + 2,79,false,[(pt w.heap.size 0)]⟩]
@[simp] def pk_b10 (st:Int) (r:RecM) (w:World) (fl:Int) (pre:List Nat) (x:Nat) (z10:Nat):List Bk:=[⟨w.heap.size,25,true,(pk_v14 r x)⟩,⟨z10,75,true,(pk_v3 st r fl pre)⟩,⟨z10 + 1,3,true,[i6 6]⟩,⟨z10 + 2,79,false,[(pt w.heap.size 0)]⟩]
@[simp] def pk_b11 (st:Int) (r:RecM) (w:World) (fl:Int) (pre:List Nat) (x:Nat) (z10:Nat):List Bk:=[⟨w.heap.size,25,true,(pk_v2 r x)⟩,⟨z10,75,true,(pk_v3 st r fl pre)⟩,⟨z10 + 1,3,true,[i6 9]⟩,⟨z10 + 2,79,false,[(pt w.heap.size 0)]⟩]
@[simp] def pk_b12 (st:Int) (r:RecM) (w:World) (fl:Int) (pre:List Nat) (x:Nat) (z10:Nat):List Bk:=[⟨w.heap.size,25,true,(pk_v8 r x)⟩,⟨z10,75,true,(pk_v3 st r fl pre)⟩,⟨z10 + 1,3,true,[i6 9]⟩,⟨z10 + 2,79,false,[(pt w.heap.size 0)]⟩]
@[simp] def pk_b13 (st:Int) (r:RecM) (w:World) (fl:Int) (pre:List Nat) (x:Nat) (z10:Nat):List Bk:=[⟨w.heap.size,25,true,(pk_v10 r x)⟩,⟨z10,75,true,(pk_v3 st r fl pre)⟩,⟨z10 + 1,3,true,[i6 9]⟩,⟨z10 + 2,79,false,[(pt w.heap.size 0)]⟩]
@[simp] def pk_b14 (st:Int) (r:RecM) (w:World) (fl:Int) (pre:List Nat) (x:Nat) (z10:Nat):List Bk:=[⟨w.heap.size,25,true,(pk_v12 r x)⟩,⟨z10,75,true,(pk_v3 st r fl pre)⟩,⟨z10 + 1,3,true,[i6 9]⟩,⟨z10 + 2,79,false,[(pt w.heap.size 0)]⟩]
@[simp] def pk_b15 (st:Int) (r:RecM) (w:World) (fl:Int) (pre:List Nat) (x:Nat) (z10:Nat):List Bk:=[⟨w.heap.size,25,true,(pk_v14 r x)⟩,⟨z10,75,true,(pk_v3 st r fl pre)⟩,⟨z10 + 1,3,true,[i6 9]⟩,⟨z10 + 2,79,false,[(pt w.heap.size 0)]⟩]
@[simp] def pk_b16 (st:Int) (r:RecM) (w:World) (fl:Int) (pre:List Nat) (x:Nat) (z10:Nat):List Bk:=[⟨w.heap.size,25,true,(pk_v2 r x)⟩,⟨z10,75,true,(pk_v3 st r fl pre)⟩,⟨z10 + 1,3,true,[i6 12]⟩,⟨z10 + 2,79,false,[(pt w.heap.size 0)]⟩]
@[simp] def pk_b17 (st:Int) (r:RecM) (w:World) (fl:Int) (pre:List Nat) (x:Nat) (z10:Nat):List Bk:=[⟨w.heap.size,25,true,(pk_v8 r x)⟩,⟨z10,75,true,(pk_v3 st r fl pre)⟩,⟨z10 + 1,3,true,[i6 12]⟩,⟨z10 + 2,79,false,[(pt w.heap.size 0)]⟩]
@[simp] def pk_b18 (st:Int) (r:RecM) (w:World) (fl:Int) (pre:List Nat) (x:Nat) (z10:Nat):List Bk:=[⟨w.heap.size,25,true,(pk_v10 r x)⟩,⟨z10,75,true,(pk_v3 st r fl pre)⟩,⟨z10 + 1,3,true,[i6 12]⟩,⟨z10 + 2,79,false,[(pt w.heap.size 0)]⟩]
@[simp] def pk_b19 (st:Int) (r:RecM) (w:World) (fl:Int) (pre:List Nat) (x:Nat) (z10:Nat):List Bk:=[⟨w.heap.size,25,true,(pk_v12 r x)⟩,⟨z10,75,true,(pk_v3 st r fl pre)⟩,⟨z10 + 1,3,true,[i6 12]⟩,⟨z10 + 2,79,false,[(pt w.heap.size 0)]⟩]
@[simp] def pk_b20 (st:Int) (r:RecM) (w:World) (fl:Int) (pre:List Nat) (x:Nat) (z10:Nat):List Bk:=[⟨w.heap.size,25,true,(pk_v14 r x)⟩,⟨z10,75,true,(pk_v3 st r fl pre)⟩,⟨z10 + 1,3,true,[i6 12]⟩,⟨z10 + 2,79,false,[(pt w.heap.size 0)]⟩]
@[simp] def pk_b21 (st:Int) (r:RecM) (w:World) (fl:Int) (pre:List Nat) (x:Nat) (z10:Nat):List Bk:=[⟨w.heap.size,25,true,(pk_v2 r x)⟩,⟨z10,75,true,(pk_v3 st r fl pre)⟩,⟨z10 + 1,3,true,[i6 15]⟩,⟨z10 + 2,79,false,[(pt w.heap.size 0)]⟩]
@[simp] def pk_b22 (st:Int) (r:RecM) (w:World) (fl:Int) (pre:List Nat) (x:Nat) (z10:Nat):List Bk:=[⟨w.heap.size,25,true,(pk_v8 r x)⟩,⟨z10,75,true,(pk_v3 st r fl pre)⟩,⟨z10 + 1,3,true,[i6 15]⟩,⟨z10 + 2,79,false,[(pt w.heap.size 0)]⟩]
@[simp] def pk_b23 (st:Int) (r:RecM) (w:World) (fl:Int) (pre:List Nat) (x:Nat) (z10:Nat):List Bk:=[⟨w.heap.size,25,true,(pk_v10 r x)⟩,⟨z10,75,true,(pk_v3 st r fl pre)⟩,⟨z10 + 1,3,true,[i6 15]⟩,⟨z10 + 2,79,false,[(pt w.heap.size 0)]⟩]
@[simp] def pk_b24 (st:Int) (r:RecM) (w:World) (fl:Int) (pre:List Nat) (x:Nat) (z10:Nat):List Bk:=[⟨w.heap.size,25,true,(pk_v12 r x)⟩,⟨z10,75,true,(pk_v3 st r fl pre)⟩,⟨z10 + 1,3,true,[i6 15]⟩,⟨z10 + 2,79,false,[(pt w.heap.size 0)]⟩]
@[simp] def pk_b25 (st:Int) (r:RecM) (w:World) (fl:Int) (pre:List Nat) (x:Nat) (z10:Nat):List Bk:=[⟨w.heap.size,25,true,(pk_v14 r x)⟩,⟨z10,75,true,(pk_v3 st r fl pre)⟩,⟨z10 + 1,3,true,[i6 15]⟩,⟨z10 + 2,79,false,[(pt w.heap.size 0)]⟩]
@[simp] def pk_b26 (st:Int) (r:RecM) (w:World) (z10:Nat):List Bk:=[⟨w.heap.size,25,true,(pk_v47 r)⟩,⟨z10,75,true,(pk_v48 st r)⟩,⟨z10 + 1,3,true,[i6 18]⟩,⟨z10 + 2,79,false,[(pt w.heap.size 0)]⟩]
@[simp] def pk_b27 (st:Int) (r:RecM) (w:World) (z10:Nat):List Bk:=[⟨w.heap.size,25,true,(pk_v47 r)⟩,⟨z10,75,true,(pk_v49 st r)⟩,⟨z10 + 1,3,true,[i6 18]⟩,⟨z10 + 2,79,false,[(pt w.heap.size 0)]⟩]
@[simp] def pk_b28 (st:Int) (r:RecM) (w:World) (z10:Nat):List Bk:=[⟨w.heap.size,25,true,(pk_v47 r)⟩,⟨z10,75,true,(pk_v50 st r)⟩,⟨z10 + 1,3,true,[i6 18]⟩,⟨z10 + 2,79,false,[(pt w.heap.size 0)]⟩]
@[simp] def pk_b29 (st:Int) (r:RecM) (w:World) (z10:Nat):List Bk:=[⟨w.heap.size,25,true,(pk_v47 r)⟩,⟨z10,75,true,(pk_v51 st r)⟩,⟨z10 + 1,3,true,[i6 18]⟩,⟨z10 + 2,79,false,[(pt w.heap.size 0)]⟩]
@[simp] def pk_b30 (st:Int) (r:RecM) (w:World) (z10:Nat):List Bk:=[⟨w.heap.size,25,true,(pk_v47 r)⟩,⟨z10,75,true,(pk_v52 st r)⟩,⟨z10 + 1,3,true,[i6 18]⟩,⟨z10 + 2,79,false,[(pt w.heap.size 0)]⟩]
@[simp] def pk_b31 (st:Int) (r:RecM) (w:World) (z10:Nat):List Bk:=[⟨w.heap.size,25,true,(pk_v47 r)⟩,⟨z10,75,true,(pk_v53 st)⟩]
@[simp] def pk_b32 (st:Int) (r:RecM) (w:World) (fl:Int) (z10:Nat):List Bk:=[⟨w.heap.size,25,true,(pk_v47 r)⟩,⟨z10,75,true,(pk_v54 st fl)⟩,⟨z10 + 1,3,true,[i6 3]⟩,⟨z10 + 2,79,false,[(pt w.heap.size 0)]⟩]
theorem pk_m24 (st:Int) (r:RecM) (w:World) (fl:Int) (Z:Nat) (pre:List Nat) (x:Nat) (z10:Nat):MixOk Try.prog (opsOf (getCode (bodyOf Try.f12) pk_n1)) [(4,sT ⟨#[]⟩),(5,i6 0),(6,(pt z10 0)),(7,(pt (z10 + 1) 0)),(8,(pt w.heap.size 1))] (pk_v1 r w x z10) [(pk_b1 st r w fl pre x z10),[⟨w.heap.size,25,true,(pk_v2 r x)⟩,⟨z10,75,true,(pk_v4 st r fl pre x)⟩,⟨z10 + 1,3,true,[i6 3]⟩,⟨z10 + 2,79,false,[(pt w.heap.size 0)]⟩],[⟨w.heap.size,25,true,(pk_v2 r x)⟩,⟨z10,75,true,(pk_v5 st r fl pre x)⟩,⟨z10 + 1,3,true,[i6 3]⟩,⟨z10 + 2,79,false,[(pt w.heap.size 0)]⟩],[⟨w.heap.size,25,true,(pk_v2 r x)⟩,⟨z10,75,true,(pk_v6 st r fl pre x)⟩,⟨z10 + 1,3,true,[i6 3]⟩,⟨z10 + 2,79,false,[(pt w.heap.size 0)]⟩]] [] Z pk_n5 [(oA 2 0 1),(oA 2 0 1),oh0,(oA 2 0 1),oh0,oh0,oh0,(oA 0 1 1),oh3,oh0,oh0,(oA 0 1 1),oh2,oh3,oh0,oh0,(oA 0 1 1),oh2,oh2,oh0,(oA 1 3 1),oh0,(oA 1 4 1),oh0,(oA 1 5 1)] [[],[],[],[],[],[],[],[],[True],[],[],[],[(0:Int) ≤ 8 ∧ (8:Int) ≤ (IntKind.bits .i64:Nat)],[True],[],[],[],[(0:Int) ≤ 16 ∧ (16:Int) ≤ (IntKind.bits .i64:Nat)],[inR .u8 (((numV r x) / 65536))],[],[],[],[],[],[]] [[(z10 + 1,0,1)],[(z10 + 1,0,1)],[],[(z10 + 1,0,1)],[],[],[],[(w.heap.size,1,1)],[],[],[],[(w.heap.size,1,1)],[],[],[],[],[(w.heap.size,1,1)],[],[],[],[(z10,3,1)],[],[(z10,4,1)],[],[(z10,5,1)]] 3:=by unfold MixOk; kernel_rfl
theorem pk_m27 (st:Int) (r:RecM) (w:World) (fl:Int) (Z:Nat) (pre:List Nat) (x:Nat) (z10:Nat):MixOk Try.prog (opsOf (getCode (bodyOf Try.f12) pk_n1)) [(4,sT ⟨#[]⟩),(5,i6 0),(6,(pt z10 0)),(7,(pt (z10 + 1) 0)),(8,(pt w.heap.size 2))] (pk_v7 r w x z10) [(pk_b2 st r w fl pre x z10),[⟨w.heap.size,25,true,(pk_v8 r x)⟩,⟨z10,75,true,(pk_v4 st r fl pre x)⟩,⟨z10 + 1,3,true,[i6 3]⟩,⟨z10 + 2,79,false,[(pt w.heap.size 0)]⟩],[⟨w.heap.size,25,true,(pk_v8 r x)⟩,⟨z10,75,true,(pk_v5 st r fl pre x)⟩,⟨z10 + 1,3,true,[i6 3]⟩,⟨z10 + 2,79,false,[(pt w.heap.size 0)]⟩],[⟨w.heap.size,25,true,(pk_v8 r x)⟩,⟨z10,75,true,(pk_v6 st r fl pre x)⟩,⟨z10 + 1,3,true,[i6 3]⟩,⟨z10 + 2,79,false,[(pt w.heap.size 0)]⟩]] [] Z pk_n5 [(oA 2 0 1),(oA 2 0 1),oh0,(oA 2 0 1),oh0,oh0,oh0,(oA 0 2 1),oh3,oh0,oh0,(oA 0 2 1),oh2,oh3,oh0,oh0,(oA 0 2 1),oh2,oh2,oh0,(oA 1 3 1),oh0,(oA 1 4 1),oh0,(oA 1 5 1)] [[],[],[],[],[],[],[],[],[True],[],[],[],[(0:Int) ≤ 8 ∧ (8:Int) ≤ (IntKind.bits .i64:Nat)],[True],[],[],[],[(0:Int) ≤ 16 ∧ (16:Int) ≤ (IntKind.bits .i64:Nat)],[inR .u8 (((numV r x) / 65536))],[],[],[],[],[],[]] [[(z10 + 1,0,1)],[(z10 + 1,0,1)],[],[(z10 + 1,0,1)],[],[],[],[(w.heap.size,2,1)],[],[],[],[(w.heap.size,2,1)],[],[],[],[],[(w.heap.size,2,1)],[],[],[],[(z10,3,1)],[],[(z10,4,1)],[],[(z10,5,1)]] 3:=by unfold MixOk; kernel_rfl
theorem pk_m30 (st:Int) (r:RecM) (w:World) (fl:Int) (Z:Nat) (pre:List Nat) (x:Nat) (z10:Nat):MixOk Try.prog (opsOf (getCode (bodyOf Try.f12) pk_n1)) [(4,sT ⟨#[]⟩),(5,i6 0),(6,(pt z10 0)),(7,(pt (z10 + 1) 0)),(8,(pt w.heap.size 3))] (pk_v9 r w x z10) [(pk_b3 st r w fl pre x z10),[⟨w.heap.size,25,true,(pk_v10 r x)⟩,⟨z10,75,true,(pk_v4 st r fl pre x)⟩,⟨z10 + 1,3,true,[i6 3]⟩,⟨z10 + 2,79,false,[(pt w.heap.size 0)]⟩],[⟨w.heap.size,25,true,(pk_v10 r x)⟩,⟨z10,75,true,(pk_v5 st r fl pre x)⟩,⟨z10 + 1,3,true,[i6 3]⟩,⟨z10 + 2,79,false,[(pt w.heap.size 0)]⟩],[⟨w.heap.size,25,true,(pk_v10 r x)⟩,⟨z10,75,true,(pk_v6 st r fl pre x)⟩,⟨z10 + 1,3,true,[i6 3]⟩,⟨z10 + 2,79,false,[(pt w.heap.size 0)]⟩]] [] Z pk_n5 [(oA 2 0 1),(oA 2 0 1),oh0,(oA 2 0 1),oh0,oh0,oh0,(oA 0 3 1),oh3,oh0,oh0,(oA 0 3 1),oh2,oh3,oh0,oh0,(oA 0 3 1),oh2,oh2,oh0,(oA 1 3 1),oh0,(oA 1 4 1),oh0,(oA 1 5 1)] [[],[],[],[],[],[],[],[],[True],[],[],[],[(0:Int) ≤ 8 ∧ (8:Int) ≤ (IntKind.bits .i64:Nat)],[True],[],[],[],[(0:Int) ≤ 16 ∧ (16:Int) ≤ (IntKind.bits .i64:Nat)],[inR .u8 (((numV r x) / 65536))],[],[],[],[],[],[]] [[(z10 + 1,0,1)],[(z10 + 1,0,1)],[],[(z10 + 1,0,1)],[],[],[],[(w.heap.size,3,1)],[],[],[],[(w.heap.size,3,1)],[],[],[],[],[(w.heap.size,3,1)],[],[],[],[(z10,3,1)],[],[(z10,4,1)],[],[(z10,5,1)]] 3:=by unfold MixOk; kernel_rfl
theorem pk_m33 (st:Int) (r:RecM) (w:World) (fl:Int) (Z:Nat) (pre:List Nat) (x:Nat) (z10:Nat):MixOk Try.prog (opsOf (getCode (bodyOf Try.f12) pk_n1)) [(4,sT ⟨#[]⟩),(5,i6 0),(6,(pt z10 0)),(7,(pt (z10 + 1) 0)),(8,(pt w.heap.size 6))] (pk_v11 r w x z10) [(pk_b4 st r w fl pre x z10),[⟨w.heap.size,25,true,(pk_v12 r x)⟩,⟨z10,75,true,(pk_v4 st r fl pre x)⟩,⟨z10 + 1,3,true,[i6 3]⟩,⟨z10 + 2,79,false,[(pt w.heap.size 0)]⟩],[⟨w.heap.size,25,true,(pk_v12 r x)⟩,⟨z10,75,true,(pk_v5 st r fl pre x)⟩,⟨z10 + 1,3,true,[i6 3]⟩,⟨z10 + 2,79,false,[(pt w.heap.size 0)]⟩],[⟨w.heap.size,25,true,(pk_v12 r x)⟩,⟨z10,75,true,(pk_v6 st r fl pre x)⟩,⟨z10 + 1,3,true,[i6 3]⟩,⟨z10 + 2,79,false,[(pt w.heap.size 0)]⟩]] [] Z pk_n5 [(oA 2 0 1),(oA 2 0 1),oh0,(oA 2 0 1),oh0,oh0,oh0,(oA 0 6 1),oh3,oh0,oh0,(oA 0 6 1),oh2,oh3,oh0,oh0,(oA 0 6 1),oh2,oh2,oh0,(oA 1 3 1),oh0,(oA 1 4 1),oh0,(oA 1 5 1)] [[],[],[],[],[],[],[],[],[True],[],[],[],[(0:Int) ≤ 8 ∧ (8:Int) ≤ (IntKind.bits .i64:Nat)],[True],[],[],[],[(0:Int) ≤ 16 ∧ (16:Int) ≤ (IntKind.bits .i64:Nat)],[inR .u8 (((numV r x) / 65536))],[],[],[],[],[],[]] [[(z10 + 1,0,1)],[(z10 + 1,0,1)],[],[(z10 + 1,0,1)],[],[],[],[(w.heap.size,6,1)],[],[],[],[(w.heap.size,6,1)],[],[],[],[],[(w.heap.size,6,1)],[],[],[],[(z10,3,1)],[],[(z10,4,1)],[],[(z10,5,1)]] 3:=by unfold MixOk; kernel_rfl
theorem pk_m36 (st:Int) (r:RecM) (w:World) (fl:Int) (Z:Nat) (pre:List Nat) (x:Nat) (z10:Nat):MixOk Try.prog (opsOf (getCode (bodyOf Try.f12) pk_n1)) [(4,sT ⟨#[]⟩),(5,i6 0),(6,(pt z10 0)),(7,(pt (z10 + 1) 0)),(8,(pt w.heap.size 7))] (pk_v13 r w x z10) [(pk_b5 st r w fl pre x z10),[⟨w.heap.size,25,true,(pk_v14 r x)⟩,⟨z10,75,true,(pk_v4 st r fl pre x)⟩,⟨z10 + 1,3,true,[i6 3]⟩,⟨z10 + 2,79,false,[(pt w.heap.size 0)]⟩],[⟨w.heap.size,25,true,(pk_v14 r x)⟩,⟨z10,75,true,(pk_v5 st r fl pre x)⟩,⟨z10 + 1,3,true,[i6 3]⟩,⟨z10 + 2,79,false,[(pt w.heap.size 0)]⟩],[⟨w.heap.size,25,true,(pk_v14 r x)⟩,⟨z10,75,true,(pk_v6 st r fl pre x)⟩,⟨z10 + 1,3,true,[i6 3]⟩,⟨z10 + 2,79,false,[(pt w.heap.size 0)]⟩]] [] Z pk_n5 [(oA 2 0 1),(oA 2 0 1),oh0,(oA 2 0 1),oh0,oh0,oh0,(oA 0 7 1),oh3,oh0,oh0,(oA 0 7 1),oh2,oh3,oh0,oh0,(oA 0 7 1),oh2,oh2,oh0,(oA 1 3 1),oh0,(oA 1 4 1),oh0,(oA 1 5 1)] [[],[],[],[],[],[],[],[],[True],[],[],[],[(0:Int) ≤ 8 ∧ (8:Int) ≤ (IntKind.bits .i64:Nat)],[True],[],[],[],[(0:Int) ≤ 16 ∧ (16:Int) ≤ (IntKind.bits .i64:Nat)],[inR .u8 (((numV r x) / 65536))],[],[],[],[],[],[]] [[(z10 + 1,0,1)],[(z10 + 1,0,1)],[],[(z10 + 1,0,1)],[],[],[],[(w.heap.size,7,1)],[],[],[],[(w.heap.size,7,1)],[],[],[],[],[(w.heap.size,7,1)],[],[],[],[(z10,3,1)],[],[(z10,4,1)],[],[(z10,5,1)]] 3:=by unfold MixOk; kernel_rfl
theorem pk_m39 (st:Int) (r:RecM) (w:World) (fl:Int) (Z:Nat) (pre:List Nat) (x:Nat) (z10:Nat):MixOk Try.prog (opsOf (getCode (bodyOf Try.f12) pk_n1)) [(4,sT ⟨#[]⟩),(5,i6 0),(6,(pt z10 0)),(7,(pt (z10 + 1) 0)),(8,(pt w.heap.size 1))] (pk_v15 r w x z10) [(pk_b6 st r w fl pre x z10),[⟨w.heap.size,25,true,(pk_v2 r x)⟩,⟨z10,75,true,(pk_v16 st r fl pre x)⟩,⟨z10 + 1,3,true,[i6 6]⟩,⟨z10 + 2,79,false,[(pt w.heap.size 0)]⟩],[⟨w.heap.size,25,true,(pk_v2 r x)⟩,⟨z10,75,true,(pk_v17 st r fl pre x)⟩,⟨z10 + 1,3,true,[i6 6]⟩,⟨z10 + 2,79,false,[(pt w.heap.size 0)]⟩],[⟨w.heap.size,25,true,(pk_v2 r x)⟩,⟨z10,75,true,(pk_v18 st r fl pre x)⟩,⟨z10 + 1,3,true,[i6 6]⟩,⟨z10 + 2,79,false,[(pt w.heap.size 0)]⟩]] [] Z pk_n5 [(oA 2 0 1),(oA 2 0 1),oh0,(oA 2 0 1),oh0,oh0,oh0,(oA 0 1 1),oh3,oh0,oh0,(oA 0 1 1),oh2,oh3,oh0,oh0,(oA 0 1 1),oh2,oh2,oh0,(oA 1 6 1),oh0,(oA 1 7 1),oh0,(oA 1 8 1)] [[],[],[],[],[],[],[],[],[True],[],[],[],[(0:Int) ≤ 8 ∧ (8:Int) ≤ (IntKind.bits .i64:Nat)],[True],[],[],[],[(0:Int) ≤ 16 ∧ (16:Int) ≤ (IntKind.bits .i64:Nat)],[inR .u8 (((numV r x) / 65536))],[],[],[],[],[],[]] [[(z10 + 1,0,1)],[(z10 + 1,0,1)],[],[(z10 + 1,0,1)],[],[],[],[(w.heap.size,1,1)],[],[],[],[(w.heap.size,1,1)],[],[],[],[],[(w.heap.size,1,1)],[],[],[],[(z10,6,1)],[],[(z10,7,1)],[],[(z10,8,1)]] 3:=by unfold MixOk; kernel_rfl
theorem pk_m42 (st:Int) (r:RecM) (w:World) (fl:Int) (Z:Nat) (pre:List Nat) (x:Nat) (z10:Nat):MixOk Try.prog (opsOf (getCode (bodyOf Try.f12) pk_n1)) [(4,sT ⟨#[]⟩),(5,i6 0),(6,(pt z10 0)),(7,(pt (z10 + 1) 0)),(8,(pt w.heap.size 2))] (pk_v19 r w x z10) [(pk_b7 st r w fl pre x z10),[⟨w.heap.size,25,true,(pk_v8 r x)⟩,⟨z10,75,true,(pk_v16 st r fl pre x)⟩,⟨z10 + 1,3,true,[i6 6]⟩,⟨z10 + 2,79,false,[(pt w.heap.size 0)]⟩],[⟨w.heap.size,25,true,(pk_v8 r x)⟩,⟨z10,75,true,(pk_v17 st r fl pre x)⟩,⟨z10 + 1,3,true,[i6 6]⟩,⟨z10 + 2,79,false,[(pt w.heap.size 0)]⟩],[⟨w.heap.size,25,true,(pk_v8 r x)⟩,⟨z10,75,true,(pk_v18 st r fl pre x)⟩,⟨z10 + 1,3,true,[i6 6]⟩,⟨z10 + 2,79,false,[(pt w.heap.size 0)]⟩]] [] Z pk_n5 [(oA 2 0 1),(oA 2 0 1),oh0,(oA 2 0 1),oh0,oh0,oh0,(oA 0 2 1),oh3,oh0,oh0,(oA 0 2 1),oh2,oh3,oh0,oh0,(oA 0 2 1),oh2,oh2,oh0,(oA 1 6 1),oh0,(oA 1 7 1),oh0,(oA 1 8 1)] [[],[],[],[],[],[],[],[],[True],[],[],[],[(0:Int) ≤ 8 ∧ (8:Int) ≤ (IntKind.bits .i64:Nat)],[True],[],[],[],[(0:Int) ≤ 16 ∧ (16:Int) ≤ (IntKind.bits .i64:Nat)],[inR .u8 (((numV r x) / 65536))],[],[],[],[],[],[]] [[(z10 + 1,0,1)],[(z10 + 1,0,1)],[],[(z10 + 1,0,1)],[],[],[],[(w.heap.size,2,1)],[],[],[],[(w.heap.size,2,1)],[],[],[],[],[(w.heap.size,2,1)],[],[],[],[(z10,6,1)],[],[(z10,7,1)],[],[(z10,8,1)]] 3:=by unfold MixOk; kernel_rfl
theorem pk_m45 (st:Int) (r:RecM) (w:World) (fl:Int) (Z:Nat) (pre:List Nat) (x:Nat) (z10:Nat):MixOk Try.prog (opsOf (getCode (bodyOf Try.f12) pk_n1)) [(4,sT ⟨#[]⟩),(5,i6 0),(6,(pt z10 0)),(7,(pt (z10 + 1) 0)),(8,(pt w.heap.size 3))] (pk_v20 r w x z10) [(pk_b8 st r w fl pre x z10),[⟨w.heap.size,25,true,(pk_v10 r x)⟩,⟨z10,75,true,(pk_v16 st r fl pre x)⟩,⟨z10 + 1,3,true,[i6 6]⟩,⟨z10 + 2,79,false,[(pt w.heap.size 0)]⟩],[⟨w.heap.size,25,true,(pk_v10 r x)⟩,⟨z10,75,true,(pk_v17 st r fl pre x)⟩,⟨z10 + 1,3,true,[i6 6]⟩,⟨z10 + 2,79,false,[(pt w.heap.size 0)]⟩],[⟨w.heap.size,25,true,(pk_v10 r x)⟩,⟨z10,75,true,(pk_v18 st r fl pre x)⟩,⟨z10 + 1,3,true,[i6 6]⟩,⟨z10 + 2,79,false,[(pt w.heap.size 0)]⟩]] [] Z pk_n5 [(oA 2 0 1),(oA 2 0 1),oh0,(oA 2 0 1),oh0,oh0,oh0,(oA 0 3 1),oh3,oh0,oh0,(oA 0 3 1),oh2,oh3,oh0,oh0,(oA 0 3 1),oh2,oh2,oh0,(oA 1 6 1),oh0,(oA 1 7 1),oh0,(oA 1 8 1)] [[],[],[],[],[],[],[],[],[True],[],[],[],[(0:Int) ≤ 8 ∧ (8:Int) ≤ (IntKind.bits .i64:Nat)],[True],[],[],[],[(0:Int) ≤ 16 ∧ (16:Int) ≤ (IntKind.bits .i64:Nat)],[inR .u8 (((numV r x) / 65536))],[],[],[],[],[],[]] [[(z10 + 1,0,1)],[(z10 + 1,0,1)],[],[(z10 + 1,0,1)],[],[],[],[(w.heap.size,3,1)],[],[],[],[(w.heap.size,3,1)],[],[],[],[],[(w.heap.size,3,1)],[],[],[],[(z10,6,1)],[],[(z10,7,1)],[],[(z10,8,1)]] 3:=by unfold MixOk; kernel_rfl
theorem pk_m48 (st:Int) (r:RecM) (w:World) (fl:Int) (Z:Nat) (pre:List Nat) (x:Nat) (z10:Nat):MixOk Try.prog (opsOf (getCode (bodyOf Try.f12) pk_n1)) [(4,sT ⟨#[]⟩),(5,i6 0),(6,(pt z10 0)),(7,(pt (z10 + 1) 0)),(8,(pt w.heap.size 6))] (pk_v21 r w x z10) [(pk_b9 st r w fl pre x z10),[⟨w.heap.size,25,true,(pk_v12 r x)⟩,⟨z10,75,true,(pk_v16 st r fl pre x)⟩,⟨z10 + 1,3,true,[i6 6]⟩,⟨z10 + 2,79,false,[(pt w.heap.size 0)]⟩],[⟨w.heap.size,25,true,(pk_v12 r x)⟩,⟨z10,75,true,(pk_v17 st r fl pre x)⟩,⟨z10 + 1,3,true,[i6 6]⟩,⟨z10 + 2,79,false,[(pt w.heap.size 0)]⟩],[⟨w.heap.size,25,true,(pk_v12 r x)⟩,⟨z10,75,true,(pk_v18 st r fl pre x)⟩,⟨z10 + 1,3,true,[i6 6]⟩,⟨z10 + 2,79,false,[(pt w.heap.size 0)]⟩]] [] Z pk_n5 [(oA 2 0 1),(oA 2 0 1),oh0,(oA 2 0 1),oh0,oh0,oh0,(oA 0 6 1),oh3,oh0,oh0,(oA 0 6 1),oh2,oh3,oh0,oh0,(oA 0 6 1),oh2,oh2,oh0,(oA 1 6 1),oh0,(oA 1 7 1),oh0,(oA 1 8 1)] [[],[],[],[],[],[],[],[],[True],[],[],[],[(0:Int) ≤ 8 ∧ (8:Int) ≤ (IntKind.bits .i64:Nat)],[True],[],[],[],[(0:Int) ≤ 16 ∧ (16:Int) ≤ (IntKind.bits .i64:Nat)],[inR .u8 (((numV r x) / 65536))],[],[],[],[],[],[]] [[(z10 + 1,0,1)],[(z10 + 1,0,1)],[],[(z10 + 1,0,1)],[],[],[],[(w.heap.size,6,1)],[],[],[],[(w.heap.size,6,1)],[],[],[],[],[(w.heap.size,6,1)],[],[],[],[(z10,6,1)],[],[(z10,7,1)],[],[(z10,8,1)]] 3:=by unfold MixOk; kernel_rfl
theorem pk_m51 (st:Int) (r:RecM) (w:World) (fl:Int) (Z:Nat) (pre:List Nat) (x:Nat) (z10:Nat):MixOk Try.prog (opsOf (getCode (bodyOf Try.f12) pk_n1)) [(4,sT ⟨#[]⟩),(5,i6 0),(6,(pt z10 0)),(7,(pt (z10 + 1) 0)),(8,(pt w.heap.size 7))] (pk_v22 r w x z10) [(pk_b10 st r w fl pre x z10),[⟨w.heap.size,25,true,(pk_v14 r x)⟩,⟨z10,75,true,(pk_v16 st r fl pre x)⟩,⟨z10 + 1,3,true,[i6 6]⟩,⟨z10 + 2,79,false,[(pt w.heap.size 0)]⟩],[⟨w.heap.size,25,true,(pk_v14 r x)⟩,⟨z10,75,true,(pk_v17 st r fl pre x)⟩,⟨z10 + 1,3,true,[i6 6]⟩,⟨z10 + 2,79,false,[(pt w.heap.size 0)]⟩],[⟨w.heap.size,25,true,(pk_v14 r x)⟩,⟨z10,75,true,(pk_v18 st r fl pre x)⟩,⟨z10 + 1,3,true,[i6 6]⟩,⟨z10 + 2,79,false,[(pt w.heap.size 0)]⟩]] [] Z pk_n5 [(oA 2 0 1),(oA 2 0 1),oh0,(oA 2 0 1),oh0,oh0,oh0,(oA 0 7 1),oh3,oh0,oh0,(oA 0 7 1),oh2,oh3,oh0,oh0,(oA 0 7 1),oh2,oh2,oh0,(oA 1 6 1),oh0,(oA 1 7 1),oh0,(oA 1 8 1)] [[],[],[],[],[],[],[],[],[True],[],[],[],[(0:Int) ≤ 8 ∧ (8:Int) ≤ (IntKind.bits .i64:Nat)],[True],[],[],[],[(0:Int) ≤ 16 ∧ (16:Int) ≤ (IntKind.bits .i64:Nat)],[inR .u8 (((numV r x) / 65536))],[],[],[],[],[],[]] [[(z10 + 1,0,1)],[(z10 + 1,0,1)],[],[(z10 + 1,0,1)],[],[],[],[(w.heap.size,7,1)],[],[],[],[(w.heap.size,7,1)],[],[],[],[],[(w.heap.size,7,1)],[],[],[],[(z10,6,1)],[],[(z10,7,1)],[],[(z10,8,1)]] 3:=by unfold MixOk; kernel_rfl
theorem pk_m54 (st:Int) (r:RecM) (w:World) (fl:Int) (Z:Nat) (pre:List Nat) (x:Nat) (z10:Nat):MixOk Try.prog (opsOf (getCode (bodyOf Try.f12) pk_n1)) [(4,sT ⟨#[]⟩),(5,i6 0),(6,(pt z10 0)),(7,(pt (z10 + 1) 0)),(8,(pt w.heap.size 1))] (pk_v23 r w x z10) [(pk_b11 st r w fl pre x z10),[⟨w.heap.size,25,true,(pk_v2 r x)⟩,⟨z10,75,true,(pk_v24 st r fl pre x)⟩,⟨z10 + 1,3,true,[i6 9]⟩,⟨z10 + 2,79,false,[(pt w.heap.size 0)]⟩],[⟨w.heap.size,25,true,(pk_v2 r x)⟩,⟨z10,75,true,(pk_v25 st r fl pre x)⟩,⟨z10 + 1,3,true,[i6 9]⟩,⟨z10 + 2,79,false,[(pt w.heap.size 0)]⟩],[⟨w.heap.size,25,true,(pk_v2 r x)⟩,⟨z10,75,true,(pk_v26 st r fl pre x)⟩,⟨z10 + 1,3,true,[i6 9]⟩,⟨z10 + 2,79,false,[(pt w.heap.size 0)]⟩]] [] Z pk_n5 [(oA 2 0 1),(oA 2 0 1),oh0,(oA 2 0 1),oh0,oh0,oh0,(oA 0 1 1),oh3,oh0,oh0,(oA 0 1 1),oh2,oh3,oh0,oh0,(oA 0 1 1),oh2,oh2,oh0,(oA 1 9 1),oh0,(oA 1 10 1),oh0,(oA 1 11 1)] [[],[],[],[],[],[],[],[],[True],[],[],[],[(0:Int) ≤ 8 ∧ (8:Int) ≤ (IntKind.bits .i64:Nat)],[True],[],[],[],[(0:Int) ≤ 16 ∧ (16:Int) ≤ (IntKind.bits .i64:Nat)],[inR .u8 (((numV r x) / 65536))],[],[],[],[],[],[]] [[(z10 + 1,0,1)],[(z10 + 1,0,1)],[],[(z10 + 1,0,1)],[],[],[],[(w.heap.size,1,1)],[],[],[],[(w.heap.size,1,1)],[],[],[],[],[(w.heap.size,1,1)],[],[],[],[(z10,9,1)],[],[(z10,10,1)],[],[(z10,11,1)]] 3:=by unfold MixOk; kernel_rfl
theorem pk_m57 (st:Int) (r:RecM) (w:World) (fl:Int) (Z:Nat) (pre:List Nat) (x:Nat) (z10:Nat):MixOk Try.prog (opsOf (getCode (bodyOf Try.f12) pk_n1)) [(4,sT ⟨#[]⟩),(5,i6 0),(6,(pt z10 0)),(7,(pt (z10 + 1) 0)),(8,(pt w.heap.size 2))] (pk_v27 r w x z10) [(pk_b12 st r w fl pre x z10),[⟨w.heap.size,25,true,(pk_v8 r x)⟩,⟨z10,75,true,(pk_v24 st r fl pre x)⟩,⟨z10 + 1,3,true,[i6 9]⟩,⟨z10 + 2,79,false,[(pt w.heap.size 0)]⟩],[⟨w.heap.size,25,true,(pk_v8 r x)⟩,⟨z10,75,true,(pk_v25 st r fl pre x)⟩,⟨z10 + 1,3,true,[i6 9]⟩,⟨z10 + 2,79,false,[(pt w.heap.size 0)]⟩],[⟨w.heap.size,25,true,(pk_v8 r x)⟩,⟨z10,75,true,(pk_v26 st r fl pre x)⟩,⟨z10 + 1,3,true,[i6 9]⟩,⟨z10 + 2,79,false,[(pt w.heap.size 0)]⟩]] [] Z pk_n5 [(oA 2 0 1),(oA 2 0 1),oh0,(oA 2 0 1),oh0,oh0,oh0,(oA 0 2 1),oh3,oh0,oh0,(oA 0 2 1),oh2,oh3,oh0,oh0,(oA 0 2 1),oh2,oh2,oh0,(oA 1 9 1),oh0,(oA 1 10 1),oh0,(oA 1 11 1)] [[],[],[],[],[],[],[],[],[True],[],[],[],[(0:Int) ≤ 8 ∧ (8:Int) ≤ (IntKind.bits .i64:Nat)],[True],[],[],[],[(0:Int) ≤ 16 ∧ (16:Int) ≤ (IntKind.bits .i64:Nat)],[inR .u8 (((numV r x) / 65536))],[],[],[],[],[],[]] [[(z10 + 1,0,1)],[(z10 + 1,0,1)],[],[(z10 + 1,0,1)],[],[],[],[(w.heap.size,2,1)],[],[],[],[(w.heap.size,2,1)],[],[],[],[],[(w.heap.size,2,1)],[],[],[],[(z10,9,1)],[],[(z10,10,1)],[],[(z10,11,1)]] 3:=by unfold MixOk; kernel_rfl
theorem pk_m60 (st:Int) (r:RecM) (w:World) (fl:Int) (Z:Nat) (pre:List Nat) (x:Nat) (z10:Nat):MixOk Try.prog (opsOf (getCode (bodyOf Try.f12) pk_n1)) [(4,sT ⟨#[]⟩),(5,i6 0),(6,(pt z10 0)),(7,(pt (z10 + 1) 0)),(8,(pt w.heap.size 3))] (pk_v28 r w x z10) [(pk_b13 st r w fl pre x z10),[⟨w.heap.size,25,true,(pk_v10 r x)⟩,⟨z10,75,true,(pk_v24 st r fl pre x)⟩,⟨z10 + 1,3,true,[i6 9]⟩,⟨z10 + 2,79,false,[(pt w.heap.size 0)]⟩],[⟨w.heap.size,25,true,(pk_v10 r x)⟩,⟨z10,75,true,(pk_v25 st r fl pre x)⟩,⟨z10 + 1,3,true,[i6 9]⟩,⟨z10 + 2,79,false,[(pt w.heap.size 0)]⟩],[⟨w.heap.size,25,true,(pk_v10 r x)⟩,⟨z10,75,true,(pk_v26 st r fl pre x)⟩,⟨z10 + 1,3,true,[i6 9]⟩,⟨z10 + 2,79,false,[(pt w.heap.size 0)]⟩]] [] Z pk_n5 [(oA 2 0 1),(oA 2 0 1),oh0,(oA 2 0 1),oh0,oh0,oh0,(oA 0 3 1),oh3,oh0,oh0,(oA 0 3 1),oh2,oh3,oh0,oh0,(oA 0 3 1),oh2,oh2,oh0,(oA 1 9 1),oh0,(oA 1 10 1),oh0,(oA 1 11 1)] [[],[],[],[],[],[],[],[],[True],[],[],[],[(0:Int) ≤ 8 ∧ (8:Int) ≤ (IntKind.bits .i64:Nat)],[True],[],[],[],[(0:Int) ≤ 16 ∧ (16:Int) ≤ (IntKind.bits .i64:Nat)],[inR .u8 (((numV r x) / 65536))],[],[],[],[],[],[]] [[(z10 + 1,0,1)],[(z10 + 1,0,1)],[],[(z10 + 1,0,1)],[],[],[],[(w.heap.size,3,1)],[],[],[],[(w.heap.size,3,1)],[],[],[],[],[(w.heap.size,3,1)],[],[],[],[(z10,9,1)],[],[(z10,10,1)],[],[(z10,11,1)]] 3:=by unfold MixOk; kernel_rfl
theorem pk_m63 (st:Int) (r:RecM) (w:World) (fl:Int) (Z:Nat) (pre:List Nat) (x:Nat) (z10:Nat):MixOk Try.prog (opsOf (getCode (bodyOf Try.f12) pk_n1)) [(4,sT ⟨#[]⟩),(5,i6 0),(6,(pt z10 0)),(7,(pt (z10 + 1) 0)),(8,(pt w.heap.size 6))] (pk_v29 r w x z10) [(pk_b14 st r w fl pre x z10),[⟨w.heap.size,25,true,(pk_v12 r x)⟩,⟨z10,75,true,(pk_v24 st r fl pre x)⟩,⟨z10 + 1,3,true,[i6 9]⟩,⟨z10 + 2,79,false,[(pt w.heap.size 0)]⟩],[⟨w.heap.size,25,true,(pk_v12 r x)⟩,⟨z10,75,true,(pk_v25 st r fl pre x)⟩,⟨z10 + 1,3,true,[i6 9]⟩,⟨z10 + 2,79,false,[(pt w.heap.size 0)]⟩],[⟨w.heap.size,25,true,(pk_v12 r x)⟩,⟨z10,75,true,(pk_v26 st r fl pre x)⟩,⟨z10 + 1,3,true,[i6 9]⟩,⟨z10 + 2,79,false,[(pt w.heap.size 0)]⟩]] [] Z pk_n5 [(oA 2 0 1),(oA 2 0 1),oh0,(oA 2 0 1),oh0,oh0,oh0,(oA 0 6 1),oh3,oh0,oh0,(oA 0 6 1),oh2,oh3,oh0,oh0,(oA 0 6 1),oh2,oh2,oh0,(oA 1 9 1),oh0,(oA 1 10 1),oh0,(oA 1 11 1)] [[],[],[],[],[],[],[],[],[True],[],[],[],[(0:Int) ≤ 8 ∧ (8:Int) ≤ (IntKind.bits .i64:Nat)],[True],[],[],[],[(0:Int) ≤ 16 ∧ (16:Int) ≤ (IntKind.bits .i64:Nat)],[inR .u8 (((numV r x) / 65536))],[],[],[],[],[],[]] [[(z10 + 1,0,1)],[(z10 + 1,0,1)],[],[(z10 + 1,0,1)],[],[],[],[(w.heap.size,6,1)],[],[],[],[(w.heap.size,6,1)],[],[],[],[],[(w.heap.size,6,1)],[],[],[],[(z10,9,1)],[],[(z10,10,1)],[],[(z10,11,1)]] 3:=by unfold MixOk; kernel_rfl
theorem pk_m66 (st:Int) (r:RecM) (w:World) (fl:Int) (Z:Nat) (pre:List Nat) (x:Nat) (z10:Nat):MixOk Try.prog (opsOf (getCode (bodyOf Try.f12) pk_n1)) [(4,sT ⟨#[]⟩),(5,i6 0),(6,(pt z10 0)),(7,(pt (z10 + 1) 0)),(8,(pt w.heap.size 7))] (pk_v30 r w x z10) [(pk_b15 st r w fl pre x z10),[⟨w.heap.size,25,true,(pk_v14 r x)⟩,⟨z10,75,true,(pk_v24 st r fl pre x)⟩,⟨z10 + 1,3,true,[i6 9]⟩,⟨z10 + 2,79,false,[(pt w.heap.size 0)]⟩],[⟨w.heap.size,25,true,(pk_v14 r x)⟩,⟨z10,75,true,(pk_v25 st r fl pre x)⟩,⟨z10 + 1,3,true,[i6 9]⟩,⟨z10 + 2,79,false,[(pt w.heap.size 0)]⟩],[⟨w.heap.size,25,true,(pk_v14 r x)⟩,⟨z10,75,true,(pk_v26 st r fl pre x)⟩,⟨z10 + 1,3,true,[i6 9]⟩,⟨z10 + 2,79,false,[(pt w.heap.size 0)]⟩]] [] Z pk_n5 [(oA 2 0 1),(oA 2 0 1),oh0,(oA 2 0 1),oh0,oh0,oh0,(oA 0 7 1),oh3,oh0,oh0,(oA 0 7 1),oh2,oh3,oh0,oh0,(oA 0 7 1),oh2,oh2,oh0,(oA 1 9 1),oh0,(oA 1 10 1),oh0,(oA 1 11 1)] [[],[],[],[],[],[],[],[],[True],[],[],[],[(0:Int) ≤ 8 ∧ (8:Int) ≤ (IntKind.bits .i64:Nat)],[True],[],[],[],[(0:Int) ≤ 16 ∧ (16:Int) ≤ (IntKind.bits .i64:Nat)],[inR .u8 (((numV r x) / 65536))],[],[],[],[],[],[]] [[(z10 + 1,0,1)],[(z10 + 1,0,1)],[],[(z10 + 1,0,1)],[],[],[],[(w.heap.size,7,1)],[],[],[],[(w.heap.size,7,1)],[],[],[],[],[(w.heap.size,7,1)],[],[],[],[(z10,9,1)],[],[(z10,10,1)],[],[(z10,11,1)]] 3:=by unfold MixOk; kernel_rfl
theorem pk_m69 (st:Int) (r:RecM) (w:World) (fl:Int) (Z:Nat) (pre:List Nat) (x:Nat) (z10:Nat):MixOk Try.prog (opsOf (getCode (bodyOf Try.f12) pk_n1)) [(4,sT ⟨#[]⟩),(5,i6 0),(6,(pt z10 0)),(7,(pt (z10 + 1) 0)),(8,(pt w.heap.size 1))] (pk_v31 r w x z10) [(pk_b16 st r w fl pre x z10),[⟨w.heap.size,25,true,(pk_v2 r x)⟩,⟨z10,75,true,(pk_v32 st r fl pre x)⟩,⟨z10 + 1,3,true,[i6 12]⟩,⟨z10 + 2,79,false,[(pt w.heap.size 0)]⟩],[⟨w.heap.size,25,true,(pk_v2 r x)⟩,⟨z10,75,true,(pk_v33 st r fl pre x)⟩,⟨z10 + 1,3,true,[i6 12]⟩,⟨z10 + 2,79,false,[(pt w.heap.size 0)]⟩],[⟨w.heap.size,25,true,(pk_v2 r x)⟩,⟨z10,75,true,(pk_v34 st r fl pre x)⟩,⟨z10 + 1,3,true,[i6 12]⟩,⟨z10 + 2,79,false,[(pt w.heap.size 0)]⟩]] [] Z pk_n5 [(oA 2 0 1),(oA 2 0 1),oh0,(oA 2 0 1),oh0,oh0,oh0,(oA 0 1 1),oh3,oh0,oh0,(oA 0 1 1),oh2,oh3,oh0,oh0,(oA 0 1 1),oh2,oh2,oh0,(oA 1 12 1),oh0,(oA 1 13 1),oh0,(oA 1 14 1)] [[],[],[],[],[],[],[],[],[True],[],[],[],[(0:Int) ≤ 8 ∧ (8:Int) ≤ (IntKind.bits .i64:Nat)],[True],[],[],[],[(0:Int) ≤ 16 ∧ (16:Int) ≤ (IntKind.bits .i64:Nat)],[inR .u8 (((numV r x) / 65536))],[],[],[],[],[],[]] [[(z10 + 1,0,1)],[(z10 + 1,0,1)],[],[(z10 + 1,0,1)],[],[],[],[(w.heap.size,1,1)],[],[],[],[(w.heap.size,1,1)],[],[],[],[],[(w.heap.size,1,1)],[],[],[],[(z10,12,1)],[],[(z10,13,1)],[],[(z10,14,1)]] 3:=by unfold MixOk; kernel_rfl
theorem pk_m72 (st:Int) (r:RecM) (w:World) (fl:Int) (Z:Nat) (pre:List Nat) (x:Nat) (z10:Nat):MixOk Try.prog (opsOf (getCode (bodyOf Try.f12) pk_n1)) [(4,sT ⟨#[]⟩),(5,i6 0),(6,(pt z10 0)),(7,(pt (z10 + 1) 0)),(8,(pt w.heap.size 2))] (pk_v35 r w x z10) [(pk_b17 st r w fl pre x z10),[⟨w.heap.size,25,true,(pk_v8 r x)⟩,⟨z10,75,true,(pk_v32 st r fl pre x)⟩,⟨z10 + 1,3,true,[i6 12]⟩,⟨z10 + 2,79,false,[(pt w.heap.size 0)]⟩],[⟨w.heap.size,25,true,(pk_v8 r x)⟩,⟨z10,75,true,(pk_v33 st r fl pre x)⟩,⟨z10 + 1,3,true,[i6 12]⟩,⟨z10 + 2,79,false,[(pt w.heap.size 0)]⟩],[⟨w.heap.size,25,true,(pk_v8 r x)⟩,⟨z10,75,true,(pk_v34 st r fl pre x)⟩,⟨z10 + 1,3,true,[i6 12]⟩,⟨z10 + 2,79,false,[(pt w.heap.size 0)]⟩]] [] Z pk_n5 [(oA 2 0 1),(oA 2 0 1),oh0,(oA 2 0 1),oh0,oh0,oh0,(oA 0 2 1),oh3,oh0,oh0,(oA 0 2 1),oh2,oh3,oh0,oh0,(oA 0 2 1),oh2,oh2,oh0,(oA 1 12 1),oh0,(oA 1 13 1),oh0,(oA 1 14 1)] [[],[],[],[],[],[],[],[],[True],[],[],[],[(0:Int) ≤ 8 ∧ (8:Int) ≤ (IntKind.bits .i64:Nat)],[True],[],[],[],[(0:Int) ≤ 16 ∧ (16:Int) ≤ (IntKind.bits .i64:Nat)],[inR .u8 (((numV r x) / 65536))],[],[],[],[],[],[]] [[(z10 + 1,0,1)],[(z10 + 1,0,1)],[],[(z10 + 1,0,1)],[],[],[],[(w.heap.size,2,1)],[],[],[],[(w.heap.size,2,1)],[],[],[],[],[(w.heap.size,2,1)],[],[],[],[(z10,12,1)],[],[(z10,13,1)],[],[(z10,14,1)]] 3:=by unfold MixOk; kernel_rfl
theorem pk_m75 (st:Int) (r:RecM) (w:World) (fl:Int) (Z:Nat) (pre:List Nat) (x:Nat) (z10:Nat):MixOk Try.prog (opsOf (getCode (bodyOf Try.f12) pk_n1)) [(4,sT ⟨#[]⟩),(5,i6 0),(6,(pt z10 0)),(7,(pt (z10 + 1) 0)),(8,(pt w.heap.size 3))] (pk_v36 r w x z10) [(pk_b18 st r w fl pre x z10),[⟨w.heap.size,25,true,(pk_v10 r x)⟩,⟨z10,75,true,(pk_v32 st r fl pre x)⟩,⟨z10 + 1,3,true,[i6 12]⟩,⟨z10 + 2,79,false,[(pt w.heap.size 0)]⟩],[⟨w.heap.size,25,true,(pk_v10 r x)⟩,⟨z10,75,true,(pk_v33 st r fl pre x)⟩,⟨z10 + 1,3,true,[i6 12]⟩,⟨z10 + 2,79,false,[(pt w.heap.size 0)]⟩],[⟨w.heap.size,25,true,(pk_v10 r x)⟩,⟨z10,75,true,(pk_v34 st r fl pre x)⟩,⟨z10 + 1,3,true,[i6 12]⟩,⟨z10 + 2,79,false,[(pt w.heap.size 0)]⟩]] [] Z pk_n5 [(oA 2 0 1),(oA 2 0 1),oh0,(oA 2 0 1),oh0,oh0,oh0,(oA 0 3 1),oh3,oh0,oh0,(oA 0 3 1),oh2,oh3,oh0,oh0,(oA 0 3 1),oh2,oh2,oh0,(oA 1 12 1),oh0,(oA 1 13 1),oh0,(oA 1 14 1)] [[],[],[],[],[],[],[],[],[True],[],[],[],[(0:Int) ≤ 8 ∧ (8:Int) ≤ (IntKind.bits .i64:Nat)],[True],[],[],[],[(0:Int) ≤ 16 ∧ (16:Int) ≤ (IntKind.bits .i64:Nat)],[inR .u8 (((numV r x) / 65536))],[],[],[],[],[],[]] [[(z10 + 1,0,1)],[(z10 + 1,0,1)],[],[(z10 + 1,0,1)],[],[],[],[(w.heap.size,3,1)],[],[],[],[(w.heap.size,3,1)],[],[],[],[],[(w.heap.size,3,1)],[],[],[],[(z10,12,1)],[],[(z10,13,1)],[],[(z10,14,1)]] 3:=by unfold MixOk; kernel_rfl
theorem pk_m78 (st:Int) (r:RecM) (w:World) (fl:Int) (Z:Nat) (pre:List Nat) (x:Nat) (z10:Nat):MixOk Try.prog (opsOf (getCode (bodyOf Try.f12) pk_n1)) [(4,sT ⟨#[]⟩),(5,i6 0),(6,(pt z10 0)),(7,(pt (z10 + 1) 0)),(8,(pt w.heap.size 6))] (pk_v37 r w x z10) [(pk_b19 st r w fl pre x z10),[⟨w.heap.size,25,true,(pk_v12 r x)⟩,⟨z10,75,true,(pk_v32 st r fl pre x)⟩,⟨z10 + 1,3,true,[i6 12]⟩,⟨z10 + 2,79,false,[(pt w.heap.size 0)]⟩],[⟨w.heap.size,25,true,(pk_v12 r x)⟩,⟨z10,75,true,(pk_v33 st r fl pre x)⟩,⟨z10 + 1,3,true,[i6 12]⟩,⟨z10 + 2,79,false,[(pt w.heap.size 0)]⟩],[⟨w.heap.size,25,true,(pk_v12 r x)⟩,⟨z10,75,true,(pk_v34 st r fl pre x)⟩,⟨z10 + 1,3,true,[i6 12]⟩,⟨z10 + 2,79,false,[(pt w.heap.size 0)]⟩]] [] Z pk_n5 [(oA 2 0 1),(oA 2 0 1),oh0,(oA 2 0 1),oh0,oh0,oh0,(oA 0 6 1),oh3,oh0,oh0,(oA 0 6 1),oh2,oh3,oh0,oh0,(oA 0 6 1),oh2,oh2,oh0,(oA 1 12 1),oh0,(oA 1 13 1),oh0,(oA 1 14 1)] [[],[],[],[],[],[],[],[],[True],[],[],[],[(0:Int) ≤ 8 ∧ (8:Int) ≤ (IntKind.bits .i64:Nat)],[True],[],[],[],[(0:Int) ≤ 16 ∧ (16:Int) ≤ (IntKind.bits .i64:Nat)],[inR .u8 (((numV r x) / 65536))],[],[],[],[],[],[]] [[(z10 + 1,0,1)],[(z10 + 1,0,1)],[],[(z10 + 1,0,1)],[],[],[],[(w.heap.size,6,1)],[],[],[],[(w.heap.size,6,1)],[],[],[],[],[(w.heap.size,6,1)],[],[],[],[(z10,12,1)],[],[(z10,13,1)],[],[(z10,14,1)]] 3:=by unfold MixOk; kernel_rfl
theorem pk_m81 (st:Int) (r:RecM) (w:World) (fl:Int) (Z:Nat) (pre:List Nat) (x:Nat) (z10:Nat):MixOk Try.prog (opsOf (getCode (bodyOf Try.f12) pk_n1)) [(4,sT ⟨#[]⟩),(5,i6 0),(6,(pt z10 0)),(7,(pt (z10 + 1) 0)),(8,(pt w.heap.size 7))] (pk_v38 r w x z10) [(pk_b20 st r w fl pre x z10),[⟨w.heap.size,25,true,(pk_v14 r x)⟩,⟨z10,75,true,(pk_v32 st r fl pre x)⟩,⟨z10 + 1,3,true,[i6 12]⟩,⟨z10 + 2,79,false,[(pt w.heap.size 0)]⟩],[⟨w.heap.size,25,true,(pk_v14 r x)⟩,⟨z10,75,true,(pk_v33 st r fl pre x)⟩,⟨z10 + 1,3,true,[i6 12]⟩,⟨z10 + 2,79,false,[(pt w.heap.size 0)]⟩],[⟨w.heap.size,25,true,(pk_v14 r x)⟩,⟨z10,75,true,(pk_v34 st r fl pre x)⟩,⟨z10 + 1,3,true,[i6 12]⟩,⟨z10 + 2,79,false,[(pt w.heap.size 0)]⟩]] [] Z pk_n5 [(oA 2 0 1),(oA 2 0 1),oh0,(oA 2 0 1),oh0,oh0,oh0,(oA 0 7 1),oh3,oh0,oh0,(oA 0 7 1),oh2,oh3,oh0,oh0,(oA 0 7 1),oh2,oh2,oh0,(oA 1 12 1),oh0,(oA 1 13 1),oh0,(oA 1 14 1)] [[],[],[],[],[],[],[],[],[True],[],[],[],[(0:Int) ≤ 8 ∧ (8:Int) ≤ (IntKind.bits .i64:Nat)],[True],[],[],[],[(0:Int) ≤ 16 ∧ (16:Int) ≤ (IntKind.bits .i64:Nat)],[inR .u8 (((numV r x) / 65536))],[],[],[],[],[],[]] [[(z10 + 1,0,1)],[(z10 + 1,0,1)],[],[(z10 + 1,0,1)],[],[],[],[(w.heap.size,7,1)],[],[],[],[(w.heap.size,7,1)],[],[],[],[],[(w.heap.size,7,1)],[],[],[],[(z10,12,1)],[],[(z10,13,1)],[],[(z10,14,1)]] 3:=by unfold MixOk; kernel_rfl
theorem pk_m84 (st:Int) (r:RecM) (w:World) (fl:Int) (Z:Nat) (pre:List Nat) (x:Nat) (z10:Nat):MixOk Try.prog (opsOf (getCode (bodyOf Try.f12) pk_n1)) [(4,sT ⟨#[]⟩),(5,i6 0),(6,(pt z10 0)),(7,(pt (z10 + 1) 0)),(8,(pt w.heap.size 1))] (pk_v39 r w x z10) [(pk_b21 st r w fl pre x z10),[⟨w.heap.size,25,true,(pk_v2 r x)⟩,⟨z10,75,true,(pk_v40 st r fl pre x)⟩,⟨z10 + 1,3,true,[i6 15]⟩,⟨z10 + 2,79,false,[(pt w.heap.size 0)]⟩],[⟨w.heap.size,25,true,(pk_v2 r x)⟩,⟨z10,75,true,(pk_v41 st r fl pre x)⟩,⟨z10 + 1,3,true,[i6 15]⟩,⟨z10 + 2,79,false,[(pt w.heap.size 0)]⟩],[⟨w.heap.size,25,true,(pk_v2 r x)⟩,⟨z10,75,true,(pk_v42 st r fl pre x)⟩,⟨z10 + 1,3,true,[i6 15]⟩,⟨z10 + 2,79,false,[(pt w.heap.size 0)]⟩]] [] Z pk_n5 [(oA 2 0 1),(oA 2 0 1),oh0,(oA 2 0 1),oh0,oh0,oh0,(oA 0 1 1),oh3,oh0,oh0,(oA 0 1 1),oh2,oh3,oh0,oh0,(oA 0 1 1),oh2,oh2,oh0,(oA 1 15 1),oh0,(oA 1 16 1),oh0,(oA 1 17 1)] [[],[],[],[],[],[],[],[],[True],[],[],[],[(0:Int) ≤ 8 ∧ (8:Int) ≤ (IntKind.bits .i64:Nat)],[True],[],[],[],[(0:Int) ≤ 16 ∧ (16:Int) ≤ (IntKind.bits .i64:Nat)],[inR .u8 (((numV r x) / 65536))],[],[],[],[],[],[]] [[(z10 + 1,0,1)],[(z10 + 1,0,1)],[],[(z10 + 1,0,1)],[],[],[],[(w.heap.size,1,1)],[],[],[],[(w.heap.size,1,1)],[],[],[],[],[(w.heap.size,1,1)],[],[],[],[(z10,15,1)],[],[(z10,16,1)],[],[(z10,17,1)]] 3:=by unfold MixOk; kernel_rfl
theorem pk_m87 (st:Int) (r:RecM) (w:World) (fl:Int) (Z:Nat) (pre:List Nat) (x:Nat) (z10:Nat):MixOk Try.prog (opsOf (getCode (bodyOf Try.f12) pk_n1)) [(4,sT ⟨#[]⟩),(5,i6 0),(6,(pt z10 0)),(7,(pt (z10 + 1) 0)),(8,(pt w.heap.size 2))] (pk_v43 r w x z10) [(pk_b22 st r w fl pre x z10),[⟨w.heap.size,25,true,(pk_v8 r x)⟩,⟨z10,75,true,(pk_v40 st r fl pre x)⟩,⟨z10 + 1,3,true,[i6 15]⟩,⟨z10 + 2,79,false,[(pt w.heap.size 0)]⟩],[⟨w.heap.size,25,true,(pk_v8 r x)⟩,⟨z10,75,true,(pk_v41 st r fl pre x)⟩,⟨z10 + 1,3,true,[i6 15]⟩,⟨z10 + 2,79,false,[(pt w.heap.size 0)]⟩],[⟨w.heap.size,25,true,(pk_v8 r x)⟩,⟨z10,75,true,(pk_v42 st r fl pre x)⟩,⟨z10 + 1,3,true,[i6 15]⟩,⟨z10 + 2,79,false,[(pt w.heap.size 0)]⟩]] [] Z pk_n5 [(oA 2 0 1),(oA 2 0 1),oh0,(oA 2 0 1),oh0,oh0,oh0,(oA 0 2 1),oh3,oh0,oh0,(oA 0 2 1),oh2,oh3,oh0,oh0,(oA 0 2 1),oh2,oh2,oh0,(oA 1 15 1),oh0,(oA 1 16 1),oh0,(oA 1 17 1)] [[],[],[],[],[],[],[],[],[True],[],[],[],[(0:Int) ≤ 8 ∧ (8:Int) ≤ (IntKind.bits .i64:Nat)],[True],[],[],[],[(0:Int) ≤ 16 ∧ (16:Int) ≤ (IntKind.bits .i64:Nat)],[inR .u8 (((numV r x) / 65536))],[],[],[],[],[],[]] [[(z10 + 1,0,1)],[(z10 + 1,0,1)],[],[(z10 + 1,0,1)],[],[],[],[(w.heap.size,2,1)],[],[],[],[(w.heap.size,2,1)],[],[],[],[],[(w.heap.size,2,1)],[],[],[],[(z10,15,1)],[],[(z10,16,1)],[],[(z10,17,1)]] 3:=by unfold MixOk; kernel_rfl
theorem pk_m90 (st:Int) (r:RecM) (w:World) (fl:Int) (Z:Nat) (pre:List Nat) (x:Nat) (z10:Nat):MixOk Try.prog (opsOf (getCode (bodyOf Try.f12) pk_n1)) [(4,sT ⟨#[]⟩),(5,i6 0),(6,(pt z10 0)),(7,(pt (z10 + 1) 0)),(8,(pt w.heap.size 3))] (pk_v44 r w x z10) [(pk_b23 st r w fl pre x z10),[⟨w.heap.size,25,true,(pk_v10 r x)⟩,⟨z10,75,true,(pk_v40 st r fl pre x)⟩,⟨z10 + 1,3,true,[i6 15]⟩,⟨z10 + 2,79,false,[(pt w.heap.size 0)]⟩],[⟨w.heap.size,25,true,(pk_v10 r x)⟩,⟨z10,75,true,(pk_v41 st r fl pre x)⟩,⟨z10 + 1,3,true,[i6 15]⟩,⟨z10 + 2,79,false,[(pt w.heap.size 0)]⟩],[⟨w.heap.size,25,true,(pk_v10 r x)⟩,⟨z10,75,true,(pk_v42 st r fl pre x)⟩,⟨z10 + 1,3,true,[i6 15]⟩,⟨z10 + 2,79,false,[(pt w.heap.size 0)]⟩]] [] Z pk_n5 [(oA 2 0 1),(oA 2 0 1),oh0,(oA 2 0 1),oh0,oh0,oh0,(oA 0 3 1),oh3,oh0,oh0,(oA 0 3 1),oh2,oh3,oh0,oh0,(oA 0 3 1),oh2,oh2,oh0,(oA 1 15 1),oh0,(oA 1 16 1),oh0,(oA 1 17 1)] [[],[],[],[],[],[],[],[],[True],[],[],[],[(0:Int) ≤ 8 ∧ (8:Int) ≤ (IntKind.bits .i64:Nat)],[True],[],[],[],[(0:Int) ≤ 16 ∧ (16:Int) ≤ (IntKind.bits .i64:Nat)],[inR .u8 (((numV r x) / 65536))],[],[],[],[],[],[]] [[(z10 + 1,0,1)],[(z10 + 1,0,1)],[],[(z10 + 1,0,1)],[],[],[],[(w.heap.size,3,1)],[],[],[],[(w.heap.size,3,1)],[],[],[],[],[(w.heap.size,3,1)],[],[],[],[(z10,15,1)],[],[(z10,16,1)],[],[(z10,17,1)]] 3:=by unfold MixOk; kernel_rfl
theorem pk_m93 (st:Int) (r:RecM) (w:World) (fl:Int) (Z:Nat) (pre:List Nat) (x:Nat) (z10:Nat):MixOk Try.prog (opsOf (getCode (bodyOf Try.f12) pk_n1)) [(4,sT ⟨#[]⟩),(5,i6 0),(6,(pt z10 0)),(7,(pt (z10 + 1) 0)),(8,(pt w.heap.size 6))] (pk_v45 r w x z10) [(pk_b24 st r w fl pre x z10),[⟨w.heap.size,25,true,(pk_v12 r x)⟩,⟨z10,75,true,(pk_v40 st r fl pre x)⟩,⟨z10 + 1,3,true,[i6 15]⟩,⟨z10 + 2,79,false,[(pt w.heap.size 0)]⟩],[⟨w.heap.size,25,true,(pk_v12 r x)⟩,⟨z10,75,true,(pk_v41 st r fl pre x)⟩,⟨z10 + 1,3,true,[i6 15]⟩,⟨z10 + 2,79,false,[(pt w.heap.size 0)]⟩],[⟨w.heap.size,25,true,(pk_v12 r x)⟩,⟨z10,75,true,(pk_v42 st r fl pre x)⟩,⟨z10 + 1,3,true,[i6 15]⟩,⟨z10 + 2,79,false,[(pt w.heap.size 0)]⟩]] [] Z pk_n5 [(oA 2 0 1),(oA 2 0 1),oh0,(oA 2 0 1),oh0,oh0,oh0,(oA 0 6 1),oh3,oh0,oh0,(oA 0 6 1),oh2,oh3,oh0,oh0,(oA 0 6 1),oh2,oh2,oh0,(oA 1 15 1),oh0,(oA 1 16 1),oh0,(oA 1 17 1)] [[],[],[],[],[],[],[],[],[True],[],[],[],[(0:Int) ≤ 8 ∧ (8:Int) ≤ (IntKind.bits .i64:Nat)],[True],[],[],[],[(0:Int) ≤ 16 ∧ (16:Int) ≤ (IntKind.bits .i64:Nat)],[inR .u8 (((numV r x) / 65536))],[],[],[],[],[],[]] [[(z10 + 1,0,1)],[(z10 + 1,0,1)],[],[(z10 + 1,0,1)],[],[],[],[(w.heap.size,6,1)],[],[],[],[(w.heap.size,6,1)],[],[],[],[],[(w.heap.size,6,1)],[],[],[],[(z10,15,1)],[],[(z10,16,1)],[],[(z10,17,1)]] 3:=by unfold MixOk; kernel_rfl
theorem pk_m96 (st:Int) (r:RecM) (w:World) (fl:Int) (Z:Nat) (pre:List Nat) (x:Nat) (z10:Nat):MixOk Try.prog (opsOf (getCode (bodyOf Try.f12) pk_n1)) [(4,sT ⟨#[]⟩),(5,i6 0),(6,(pt z10 0)),(7,(pt (z10 + 1) 0)),(8,(pt w.heap.size 7))] (pk_v46 r w x z10) [(pk_b25 st r w fl pre x z10),[⟨w.heap.size,25,true,(pk_v14 r x)⟩,⟨z10,75,true,(pk_v40 st r fl pre x)⟩,⟨z10 + 1,3,true,[i6 15]⟩,⟨z10 + 2,79,false,[(pt w.heap.size 0)]⟩],[⟨w.heap.size,25,true,(pk_v14 r x)⟩,⟨z10,75,true,(pk_v41 st r fl pre x)⟩,⟨z10 + 1,3,true,[i6 15]⟩,⟨z10 + 2,79,false,[(pt w.heap.size 0)]⟩],[⟨w.heap.size,25,true,(pk_v14 r x)⟩,⟨z10,75,true,(pk_v42 st r fl pre x)⟩,⟨z10 + 1,3,true,[i6 15]⟩,⟨z10 + 2,79,false,[(pt w.heap.size 0)]⟩]] [] Z pk_n5 [(oA 2 0 1),(oA 2 0 1),oh0,(oA 2 0 1),oh0,oh0,oh0,(oA 0 7 1),oh3,oh0,oh0,(oA 0 7 1),oh2,oh3,oh0,oh0,(oA 0 7 1),oh2,oh2,oh0,(oA 1 15 1),oh0,(oA 1 16 1),oh0,(oA 1 17 1)] [[],[],[],[],[],[],[],[],[True],[],[],[],[(0:Int) ≤ 8 ∧ (8:Int) ≤ (IntKind.bits .i64:Nat)],[True],[],[],[],[(0:Int) ≤ 16 ∧ (16:Int) ≤ (IntKind.bits .i64:Nat)],[inR .u8 (((numV r x) / 65536))],[],[],[],[],[],[]] [[(z10 + 1,0,1)],[(z10 + 1,0,1)],[],[(z10 + 1,0,1)],[],[],[],[(w.heap.size,7,1)],[],[],[],[(w.heap.size,7,1)],[],[],[],[],[(w.heap.size,7,1)],[],[],[],[(z10,15,1)],[],[(z10,16,1)],[],[(z10,17,1)]] 3:=by unfold MixOk; kernel_rfl
def pk_g99s (w:World) (z10:Nat):List (Nat × Value):=[(3,(pt w.heap.size 0)),(4,sT ⟨#[]⟩),(5,i6 0),(6,(pt z10 0))]
def pk_g99v (r:RecM) (w:World) (z10:Nat):List (Option Value):=[some (.slice (some ⟨z10,19,none⟩) 45 45),some ((pt w.heap.size 4)),some (sT r.block),some (i6 (r.block.size:Int))]
def pk_g99m (st:Int) (r:RecM) (w:World) (z10:Nat):List (List Bk):=[(pk_b26 st r w z10),(pk_b27 st r w z10)]
def pk_g99t:List (Option Nat):=[none,none,none,some 0]
def pk_g99C (st:Int) (r:RecM) (w:World) (W:World) (D:Nat) (z10:Nat) (i_:Nat):Prop:=CertG (wpOp Try.prog (opsOf (getCode (bodyOf Try.f12) pk_n3)) (sem Try.prog (bodyOf Try.f12) (bodyPostM Fence.wide 5 Try.prog Try.f12 (RetK (.tuple #[sT (packT st r),i6 (packE st r)]) w)) [.code [1,1,1,1,1,1,1,1,1,1]])) (markD D) 91 (opsOf (getCode (bodyOf Try.f12) pk_n3)) (slI (opsOf (getCode (bodyOf Try.f12) pk_n3)) (pk_g99s w z10) i_) (pk_g99t) 1 (MG W (Turned (pk_b28 st r w z10)) (pk_g99m st r w z10) [] W.heap.size) (Turned (pk_b26 st r w z10)) (PvG (pk_g99v r w z10) (fun _ _ _=>False)) i_
def pk_g101s (w:World) (z10:Nat):List (Nat × Value):=[(3,(pt w.heap.size 0)),(4,sT ⟨#[]⟩),(5,i6 0),(6,(pt z10 0))]
def pk_g101v (r:RecM) (w:World) (z10:Nat):List (Option Value):=[some (.slice (some ⟨z10,35,none⟩) 29 29),some ((pt w.heap.size 9)),some (sT r.staged),some (i6 (r.staged.size:Int))]
def pk_g101m (st:Int) (r:RecM) (w:World) (z10:Nat):List (List Bk):=[(pk_b27 st r w z10),(pk_b29 st r w z10)]
def pk_g101t:List (Option Nat):=[none,none,none,some 0]
def pk_g101C (st:Int) (r:RecM) (w:World) (W:World) (D:Nat) (z10:Nat) (z99:Nat) (i_:Nat):Prop:=CertG (wpOp Try.prog (opsOf (getCode (bodyOf Try.f12) pk_n4)) (sem Try.prog (bodyOf Try.f12) (bodyPostM Fence.wide 5 Try.prog Try.f12 (RetK (.tuple #[sT (packT st r),i6 (packE st r)]) w)) [.code [1,1,1,1,1,1,1,1,1,1,1]])) (markD D) 91 (opsOf (getCode (bodyOf Try.f12) pk_n4)) (slI (opsOf (getCode (bodyOf Try.f12) pk_n4)) (pk_g101s w z10) i_) (pk_g101t) 1 (MG W (Turned (pk_b28 st r w z10)) (pk_g101m st r w z10) [] z99) (Turned (pk_b27 st r w z10)) (PvG (pk_g101v r w z10) (fun _ _ _=>False)) i_
theorem pk_r109 (st:Int) (r:RecM) (w:World) (z10:Nat):resL Try.prog [] (pk_b30 st r w z10) [(4,sT (packS st r)),(5,i6 0)] Try.f12.results.toList [] = some ([sT (packS st r),i6 0],dupR []):=by kernel_rfl
set_option maxRecDepth 100000 in
set_option maxHeartbeats 4000000 in
theorem pack_any (st:Int) (r:RecM) (w:World) :
  Calls Try.prog 12 #[.int .i64 st,.agg #[.bool r.used,.int .i64 r.fence,.int .i64 r.de,.int .i64 r.ds,.string r.block,.bool r.op,.int .i64 r.ie,.int .i64 r.is,.int .i64 r.mask,.string r.staged]] w (RetK (.tuple #[.string (packT st r),.int .i64 (packE st r)]) w):=by
 refine calls_of_holdsM (m:=5) (S:=(fun _=>False)) (l:=[.int .i64 st,.agg (List.toArray (pk_v47 r))]) (n:=91) Try.func12 (body_of (by kernel_rfl)) rfl (by simp) (MemOk.none w _) ?_
 by_cases h1:st < 0
 ·skip
  refine hgE 30 [oh0,oh0,oh0,oh0,oh0,oh0,oh1,oh1,oh3,oh0,oh1,oh1,oh1,oh3,oh1,oh0,oh0] [0,3,4,5] [oE ((decide ((st:Int) < 0)) = true) (decide_eq_true h1),oE ((decide ((st:Int) < 0)) = true) (decide_eq_true h1),oE ((decide ((st:Int) < 0)) = true) (decide_eq_true h1),tT,tT,tT,tT,tT] [] [.code [1,0,1,0,1],.code [1,1]] ⟨[(0,i6 st),(3,(pt w.heap.size 0)),(4,sT ⟨#[]⟩),(5,i6 80)],[⟨w.heap.size,25,true,(pk_v47 r)⟩],[],w.heap.size + 1⟩ ?_
  refine holds_retM0 [] (by kernel_rfl) (show _ = some ([.string ⟨#[]⟩,.int .i64 80],dupR []) by kernel_rfl) ?_
  intro wx hm
  exact ⟨by
   have e:packGood st r = false:=by
    unfold packGood
    rw [decide_eq_false (show ¬ 0 ≤ st by omega)]
    rfl
   unfold packT packE
   rw [e]
   rfl,hm.kept⟩
 by_cases h2:st ≥ 8
 ·skip
  refine hgE 30 [oh0,oh0,oh0,oh0,oh0,oh0,oh0,oh0,⟨false,3,[]⟩,oh0,oh1,oh1,oh1,oh3,oh1,oh0,oh0] [0,3,4,5] [oE ((decide ((st:Int) < 0)) = false) (decide_eq_false h1),oE ((decide ((st:Int) < 0)) = false) (decide_eq_false h1),oE ((decide ((st:Int) < 0)) = false) (decide_eq_false h1),oE ((decide ((st:Int) ≥ 8)) = true) (decide_eq_true h2),oE ((decide ((st:Int) ≥ 8)) = true) (decide_eq_true h2),oE ((decide ((st:Int) ≥ 8)) = true) (decide_eq_true h2),oE ((decide ((st:Int) ≥ 8)) = true) (decide_eq_true h2),tT] [] [.code [1,0,1,0,1],.code [1,1]] ⟨[(0,i6 st),(3,(pt w.heap.size 0)),(4,sT ⟨#[]⟩),(5,i6 80)],[⟨w.heap.size,25,true,(pk_v47 r)⟩],[],w.heap.size + 1⟩ ?_
  refine holds_retM0 [] (by kernel_rfl) (show _ = some ([.string ⟨#[]⟩,.int .i64 80],dupR []) by kernel_rfl) ?_
  intro wx hm
  exact ⟨by
   have e:packGood st r = false:=by
    unfold packGood
    rw [decide_eq_false (show ¬ st < 8 by omega),Bool.and_false]
    rfl
   unfold packT packE
   rw [e]
   rfl,hm.kept⟩
 rcases Bool.eq_false_or_eq_true (okB r) with hok | hok
 rotate_left
 ·skip
  refine hgE 20 pk_n6 [0,3,4,5,16,17] [oE ((decide ((st:Int) < 0)) = false) (decide_eq_false h1),oE ((decide ((st:Int) < 0)) = false) (decide_eq_false h1),oE ((decide ((st:Int) < 0)) = false) (decide_eq_false h1),oE ((decide ((st:Int) ≥ 8)) = false) (decide_eq_false h2)] [(w.heap.size,0,10)] [.ops [1,0,0] [8,9,10],.code [1,0,1],.code [1,1]] ⟨[(0,i6 st),(3,(pt w.heap.size 0)),(4,sT ⟨#[]⟩),(5,i6 0),(16,.bool (decide ((st:Int) ≥ 8))),(17,.agg (List.toArray (pk_v47 r)))],[⟨w.heap.size,25,true,(pk_v47 r)⟩],[],w.heap.size + 1⟩ ?_
  refine hcp (.bool (okB r)) 16 [.agg (List.toArray (pk_v47 r))] (some 18) [(decide ((st:Int) ≥ 8)) = false] ⟨decide_eq_false h2,tI⟩ rfl (fun wx hm=>right_any r wx) fun z6 hz6=>?_
  replace hz6:w.heap.size + 1 ≤ z6:=hz6
  refine hgE 12 [oh0,⟨false,3,[]⟩,oh1,oh0,oh0] [0,3,4,5] [oE ((decide ((st:Int) ≥ 8)) = false) (decide_eq_false h2),oE ((decide ((st:Int) ≥ 8)) = false) (decide_eq_false h2),eD (nT hok)] [] [.code [1,0,1,0,1],.code [1,1]] ⟨[(0,i6 st),(3,(pt w.heap.size 0)),(4,sT ⟨#[]⟩),(5,i6 80)],[⟨w.heap.size,25,true,(pk_v47 r)⟩],[],z6⟩ ?_
  refine holds_retM0 [] (by kernel_rfl) (show _ = some ([.string ⟨#[]⟩,.int .i64 80],dupR []) by kernel_rfl) ?_
  intro wx hm
  exact ⟨by
   have e:packGood st r = false:=by
    unfold packGood
    rw [hok,Bool.and_false]
   unfold packT packE
   rw [e]
   rfl,hm.kept⟩
 have hg:packGood st r = true:=by
  unfold packGood
  rw [decide_eq_true (show 0 ≤ st by omega),decide_eq_true (show st < 8 by omega),hok]
  rfl
 have hrk:=(okB_iff r).1 hok
 have hby:=byts_packH (st:=st) ⟨by omega,by omega⟩ hrk
 have hC:=sumI_bd hby
 have hfe:=hrk.fence
 have hde:=hrk.de
 have hds:=hrk.ds
 have hie:=hrk.ie
 have his:=hrk.is
 have hmk:=hrk.mask
 have hbs:=block_size hrk
 have hss:=staged_size hrk
 have eT:packT st r = packS st r:=by unfold packT; rw [hg]; rfl
 have eE:packE st r = 0:=by unfold packE; rw [hg]; rfl
 refine hgE 20 pk_n6 [0,3,4,5,16,17] [oE ((decide ((st:Int) < 0)) = false) (decide_eq_false h1),oE ((decide ((st:Int) < 0)) = false) (decide_eq_false h1),oE ((decide ((st:Int) < 0)) = false) (decide_eq_false h1),oE ((decide ((st:Int) ≥ 8)) = false) (decide_eq_false h2)] [(w.heap.size,0,10)] [.ops [1,0,0] [8,9,10],.code [1,0,1],.code [1,1]] ⟨[(0,i6 st),(3,(pt w.heap.size 0)),(4,sT ⟨#[]⟩),(5,i6 0),(16,.bool (decide ((st:Int) ≥ 8))),(17,.agg (List.toArray (pk_v47 r)))],[⟨w.heap.size,25,true,(pk_v47 r)⟩],[],w.heap.size + 1⟩ ?_
 refine hcp (.bool (okB r)) 16 [.agg (List.toArray (pk_v47 r))] (some 18) [(decide ((st:Int) ≥ 8)) = false] ⟨decide_eq_false h2,tI⟩ rfl (fun wx hm=>right_any r wx) fun z10 hz10=>?_
 replace hz10:w.heap.size + 1 ≤ z10:=hz10
 refine hgE 27 [oh0,⟨false,3,[]⟩,oh0,oh0,oh0,oh2,oh0,(oA 1 0 1),oh0,(oA 1 1 1),oh0,(oA 0 0 1)] [3,4,5,6,26] [oE ((decide ((st:Int) ≥ 8)) = false) (decide_eq_false h2),oE ((decide ((st:Int) ≥ 8)) = false) (decide_eq_false h2),eD (nF hok),n8 (st)] [(z10,0,1),(z10,1,1),(w.heap.size,0,1)] [.code [1,1,1,1,0,1],.code [1,1,1,1,1]] ⟨[(3,(pt w.heap.size 0)),(4,sT ⟨#[]⟩),(5,i6 0),(6,(pt z10 0)),(26,.bool r.used)],(pk_b31 st r w z10),[],z10 + 1⟩ ?_
 suffices HF:∀ fl:Int,fl = flagsI r → Holds [] Try.prog (bodyOf Try.f12) 91 w (fun _=>False) (bodyPostM Fence.wide 5 Try.prog Try.f12 (RetK (.tuple #[.string (packT st r),.int .i64 (packE st r)]) w)) [.ops [1,1,1,1,1,1,0] [0,1],.code [1,1,1,1,1,1,1]] ⟨[(3,(pt w.heap.size 0)),(4,.string ⟨#[]⟩),(5,.int .i64 0),(6,(pt z10 0))],[⟨w.heap.size,25,true,(pk_v47 r)⟩,⟨z10,75,true,(pk_v54 st fl)⟩],[],z10 + 1⟩ by
  refine hgE 3 [] [3,4,5,6,26] [] [] [.code [1,1,1,1,0,1],.code [1,1,1,1,1]] ⟨[(3,(pt w.heap.size 0)),(4,sT ⟨#[]⟩),(5,i6 0),(6,(pt z10 0)),(26,.bool r.used)],(pk_b31 st r w z10),[],z10 + 1⟩ ?_
  rcases Bool.eq_false_or_eq_true (r.used) with uused | uused
  ·skip
   refine hgE 17 [oh1,oh0,(oA 1 2 1),oh0,oh0,(oA 1 2 1),oh0,(oA 0 5 1)] [3,4,5,6,32] [oE (r.used = true) uused] [(z10,2,1),(z10,2,1),(w.heap.size,5,1)] [.code [1,1,1,1,1,0,1],.code [1,1,1,1,1,1]] ⟨[(3,(pt w.heap.size 0)),(4,sT ⟨#[]⟩),(5,i6 0),(6,(pt z10 0)),(32,.bool r.op)],[⟨w.heap.size,25,true,(pk_v47 r)⟩,⟨z10,75,true,(pk_v55 st)⟩],[],z10 + 1⟩ ?_
   rcases Bool.eq_false_or_eq_true (r.op) with uop | uop
   ·skip
    refine hgE 13 pk_n7 [3,4,5,6] [oE (r.op = true) uop] [(z10,2,1),(z10,2,1)] [.ops [1,1,1,1,1,1,0] [0,1],.code [1,1,1,1,1,1,1]] ⟨[(3,(pt w.heap.size 0)),(4,sT ⟨#[]⟩),(5,i6 0),(6,(pt z10 0))],[⟨w.heap.size,25,true,(pk_v47 r)⟩,⟨z10,75,true,[u6 83,u6 st,u6 3,u6 0,u6 0,u6 0,u6 0,u6 0,u6 0,u6 0,u6 0,u6 0,u6 0,u6 0,u6 0,u6 0,u6 0,u6 0,u6 0,u6 0,u6 0,u6 0,u6 0,u6 0,u6 0,u6 0,u6 0,u6 0,u6 0,u6 0,u6 0,u6 0,u6 0,u6 0,u6 0,u6 0,u6 0,u6 0,u6 0,u6 0,u6 0,u6 0,u6 0,u6 0,u6 0,u6 0,u6 0,u6 0,u6 0,u6 0,u6 0,u6 0,u6 0,u6 0,u6 0,u6 0,u6 0,u6 0,u6 0,u6 0,u6 0,u6 0,u6 0,u6 0]⟩],[],z10 + 1⟩ ?_
    have e:flagsI r = 3:=by
     unfold flagsI
     rw [uused,uop]
     rfl
    exact HF _ e.symm
   ·skip
    refine hgE 7 [oh0] [3,4,5,6] [oE (r.op = false) uop] [] [.ops [1,1,1,1,1,1,0] [0,1],.code [1,1,1,1,1,1,1]] ⟨[(3,(pt w.heap.size 0)),(4,sT ⟨#[]⟩),(5,i6 0),(6,(pt z10 0))],[⟨w.heap.size,25,true,(pk_v47 r)⟩,⟨z10,75,true,(pk_v55 st)⟩],[],z10 + 1⟩ ?_
    have e:flagsI r = 1:=by
     unfold flagsI
     rw [uused,uop]
     rfl
    exact HF _ e.symm
  ·skip
   refine hgE 11 [oh0,oh0,(oA 0 5 1)] [3,4,5,6,32] [oE (r.used = false) uused] [(w.heap.size,5,1)] [.code [1,1,1,1,1,0,1],.code [1,1,1,1,1,1]] ⟨[(3,(pt w.heap.size 0)),(4,sT ⟨#[]⟩),(5,i6 0),(6,(pt z10 0)),(32,.bool r.op)],(pk_b31 st r w z10),[],z10 + 1⟩ ?_
   rcases Bool.eq_false_or_eq_true (r.op) with uop | uop
   ·skip
    refine hgE 13 pk_n7 [3,4,5,6] [oE (r.op = true) uop] [(z10,2,1),(z10,2,1)] [.ops [1,1,1,1,1,1,0] [0,1],.code [1,1,1,1,1,1,1]] ⟨[(3,(pt w.heap.size 0)),(4,sT ⟨#[]⟩),(5,i6 0),(6,(pt z10 0))],[⟨w.heap.size,25,true,(pk_v47 r)⟩,⟨z10,75,true,[u6 83,u6 st,u6 2,u6 0,u6 0,u6 0,u6 0,u6 0,u6 0,u6 0,u6 0,u6 0,u6 0,u6 0,u6 0,u6 0,u6 0,u6 0,u6 0,u6 0,u6 0,u6 0,u6 0,u6 0,u6 0,u6 0,u6 0,u6 0,u6 0,u6 0,u6 0,u6 0,u6 0,u6 0,u6 0,u6 0,u6 0,u6 0,u6 0,u6 0,u6 0,u6 0,u6 0,u6 0,u6 0,u6 0,u6 0,u6 0,u6 0,u6 0,u6 0,u6 0,u6 0,u6 0,u6 0,u6 0,u6 0,u6 0,u6 0,u6 0,u6 0,u6 0,u6 0,u6 0]⟩],[],z10 + 1⟩ ?_
    have e:flagsI r = 2:=by
     unfold flagsI
     rw [uused,uop]
     rfl
    exact HF _ e.symm
   ·skip
    refine hgE 7 [oh0] [3,4,5,6] [oE (r.op = false) uop] [] [.ops [1,1,1,1,1,1,0] [0,1],.code [1,1,1,1,1,1,1]] ⟨[(3,(pt w.heap.size 0)),(4,sT ⟨#[]⟩),(5,i6 0),(6,(pt z10 0))],(pk_b31 st r w z10),[],z10 + 1⟩ ?_
    have e:flagsI r = 0:=by
     unfold flagsI
     rw [uused,uop]
     rfl
    exact HF _ e.symm
 intro fl hfl
 have hflb:=flagsI_bd r
 refine hgE 9 [oh0,(oA 2 0 1)] [3,4,5,6,7] [] [(z10 + 1,0,1)] [.ops [1,1,1,1,1,1,1,0,0] [0],.code [1,1,1,1,1,1,1,0,1],.code [1,1,1,1,1,1,1,1]] ⟨[(3,(pt w.heap.size 0)),(4,sT ⟨#[]⟩),(5,i6 0),(6,(pt z10 0)),(7,(pt (z10 + 1) 0))],[⟨w.heap.size,25,true,(pk_v47 r)⟩,⟨z10,75,true,(pk_v54 st fl)⟩,⟨z10 + 1,3,true,[i6 3]⟩],[],z10 + 2⟩ ?_
 refine holds_callM (.func (.func 68) #[] #[(pt (z10 + 2) 0)]) (pk_b32 st r w fl z10) (show _ = some (46,[(pt w.heap.size 0)],some 37,[]) by kernel_rfl) tI rfl (fun wx hm=>?_) fun z20 hz20=>?_
 ·refine (nums_any _ wx).mono fun e w' he=>?_
  obtain ⟨h7,h8,h9⟩:=he
  rw [hm.size] at h7 h8
  exact ⟨h7,hm.add h9 [⟨z10 + 2,79,false,[(pt w.heap.size 0)]⟩] ⟨h8,trivial⟩ (by simp) (by simp)⟩
 replace hz20:z10 + 2 ≤ z20:=hz20
 refine hgE 5 [] [3,4,5,6,7,37] [] [] [.code [1,1,1,1,1,1,1,0,1,0],.blk 0,.code [1,1,1,1,1,1,1,1]] ⟨[(3,(pt w.heap.size 0)),(4,sT ⟨#[]⟩),(5,i6 0),(6,(pt z10 0)),(7,(pt (z10 + 1) 0)),(37,.func (.func 68) #[] #[(pt (z10 + 2) 0)])],(pk_b32 st r w fl z10),[],z20⟩ ?_
 refine holds_range (α:=Nat) (wn:=[]) (Bn:=z10 + 2) (N:=5) (enc:=fun i=>.pointer (some ⟨w.heap.size,numOff i,none⟩)) (Sq:=fun xs=>xs = [0,1,2,3,4]) (Spq:=NumsSp) rfl rfl (enters_of Try.func68 (by kernel_rfl) rfl) (fun wx hm=>hm.size ▸ (hm.at_ 3 rfl).lt) (by rintro ⟨b,hb,hr,he⟩; simp at hb; rcases hb with rfl | rfl | rfl | rfl <;> simp at he hr <;> omega) (fun wx hm=>nums_stops _ _ _ wx (hm.at_ 3 rfl))
  (fun _=>True) (fun _=>False) (fun pre=>(packBk w z10 st fl r pre)) (fun pre=>(packBk w z10 st fl r pre)) rfl trivial (fun _=>rfl) (fun _=>rfl) (fun x=>[(8,.pointer (some ⟨w.heap.size,numOff x,none⟩)),(38,.pointer (some ⟨w.heap.size,numOff x,none⟩)),(3,(pt w.heap.size 0)),(4,.string ⟨#[]⟩),(5,.int .i64 0),(6,(pt z10 0)),(7,(pt (z10 + 1) 0)),(37,.func (.func 68) #[] #[(pt (z10 + 2) 0)])]) (fun x=>[(38,.pointer (some ⟨w.heap.size,numOff x,none⟩)),(3,(pt w.heap.size 0)),(4,.string ⟨#[]⟩),(5,.int .i64 0),(6,(pt z10 0)),(7,(pt (z10 + 1) 0)),(37,.func (.func 68) #[] #[(pt (z10 + 2) 0)])]) (fun _=>rfl) ?_ ?_ ?_ (fun _ _ _ _ h=>h.elim)
 ·intro x l W
  refine hgER (fun _=>tI) 6 [oh0] [8,38,3,4,5,6,7,37] [] [] [] ⟨[(8,.pointer (some ⟨w.heap.size,numOff x,none⟩)),(38,.pointer (some ⟨w.heap.size,numOff x,none⟩)),(3,(pt w.heap.size 0)),(4,sT ⟨#[]⟩),(5,i6 0),(6,(pt z10 0)),(7,(pt (z10 + 1) 0)),(37,.func (.func 68) #[] #[(pt (z10 + 2) 0)])],[],[],W.heap.size⟩ ?_
  exact holdsR_end (fun a wx hf hm=>⟨rfl,hm.kept,hf⟩)
 ·intro l pre x W Z hZ _ hlen
  have hx:(numOff x = 1 ∧ numV r x = r.fence) ∨ (numOff x = 2 ∧ numV r x = r.de) ∨ (numOff x = 3 ∧ numV r x = r.ds) ∨ (numOff x = 6 ∧ numV r x = r.ie) ∨ (numOff x = 7 ∧ numV r x = r.is):=numV_is r x
  have hl:pre.length = 0 ∨ pre.length = 1 ∨ pre.length = 2 ∨ pre.length = 3 ∨ pre.length = 4:=by omega
  rcases hl with hl | hl | hl | hl | hl
  ·skip
   rcases hx with ⟨hx,hv⟩ | ⟨hx,hv⟩ | ⟨hx,hv⟩ | ⟨hx,hv⟩ | ⟨hx,hv⟩ <;> rw [hx]
   ·skip
    have eb:(packBk w z10 st fl r pre) = (pk_b1 st r w fl pre x z10):=by
     unfold packBk
     rw [hl,rec_1 hv]
     rfl
    have hvb:0 ≤ numV r x ∧ numV r x ≤ 16777215:=by rw [hv]; omega
    rw [eb]
    refine hgER (fun _=>tI) 5 [] [4,5,6,7,8] [] [] [.code pk_n1,.code pk_n2,.blk 1] ⟨[(4,sT ⟨#[]⟩),(5,i6 0),(6,(pt z10 0)),(7,(pt (z10 + 1) 0)),(8,(pt w.heap.size 1))],(pk_b1 st r w fl pre x z10),[],Z⟩ ?_
    refine holdsR_mix (fun _=>tI) (J:=3) (vs:=(pk_v1 r w x z10)) (stg:=pk_n5) [4,5,7] (by kernel_rfl) (by kernel_rfl) (by kernel_rfl) (pk_m24 st r w fl Z pre x z10) ⟨rfl,by kernel_rfl,by kernel_rfl⟩ ⟨tI,tI,tI,tI,tI,tI,tI,tI,⟨tI,tI⟩,tI,tI,tI,⟨⟨by decide,by decide⟩,tI⟩,⟨tI,tI⟩,tI,tI,tI,⟨⟨by decide,by decide⟩,tI⟩,⟨inU8 (by omega),tI⟩,tI,tI,tI,tI,tI,tI,tI⟩ rfl rfl (by kernel_rfl:_ = [(4,sT ⟨#[]⟩),(5,i6 0),(7,(pt (z10 + 1) 0))]) ?_
    refine hgER (fun _=>tI) 9 pk_n8 [4,5] [] [(z10 + 1,0,1),(z10 + 1,0,1)] [] ⟨[(4,sT ⟨#[]⟩),(5,i6 0)],[⟨w.heap.size,25,true,(pk_v2 r x)⟩,⟨z10,75,true,(pk_v6 st r fl pre x)⟩,⟨z10 + 1,3,true,[i6 6]⟩,⟨z10 + 2,79,false,[(pt w.heap.size 0)]⟩],[],Z⟩ ?_
    exact holdsR_end (fun a wx hf hm=>.inl ⟨rfl,trivial,by
     show MemOk _ _ (packBk w z10 st fl r (pre ++ [x])) _ _ _
     rw [packBk_0 w z10 st fl r pre x hl,rec_1 hv]
     exact hm.here⟩)
   ·skip
    have eb:(packBk w z10 st fl r pre) = (pk_b2 st r w fl pre x z10):=by
     unfold packBk
     rw [hl,rec_2 hv]
     rfl
    have hvb:0 ≤ numV r x ∧ numV r x ≤ 16777215:=by rw [hv]; omega
    rw [eb]
    refine hgER (fun _=>tI) 5 [] [4,5,6,7,8] [] [] [.code pk_n1,.code pk_n2,.blk 1] ⟨[(4,sT ⟨#[]⟩),(5,i6 0),(6,(pt z10 0)),(7,(pt (z10 + 1) 0)),(8,(pt w.heap.size 2))],(pk_b2 st r w fl pre x z10),[],Z⟩ ?_
    refine holdsR_mix (fun _=>tI) (J:=3) (vs:=(pk_v7 r w x z10)) (stg:=pk_n5) [4,5,7] (by kernel_rfl) (by kernel_rfl) (by kernel_rfl) (pk_m27 st r w fl Z pre x z10) ⟨rfl,by kernel_rfl,by kernel_rfl⟩ ⟨tI,tI,tI,tI,tI,tI,tI,tI,⟨tI,tI⟩,tI,tI,tI,⟨⟨by decide,by decide⟩,tI⟩,⟨tI,tI⟩,tI,tI,tI,⟨⟨by decide,by decide⟩,tI⟩,⟨inU8 (by omega),tI⟩,tI,tI,tI,tI,tI,tI,tI⟩ rfl rfl (by kernel_rfl:_ = [(4,sT ⟨#[]⟩),(5,i6 0),(7,(pt (z10 + 1) 0))]) ?_
    refine hgER (fun _=>tI) 9 pk_n8 [4,5] [] [(z10 + 1,0,1),(z10 + 1,0,1)] [] ⟨[(4,sT ⟨#[]⟩),(5,i6 0)],[⟨w.heap.size,25,true,(pk_v8 r x)⟩,⟨z10,75,true,(pk_v6 st r fl pre x)⟩,⟨z10 + 1,3,true,[i6 6]⟩,⟨z10 + 2,79,false,[(pt w.heap.size 0)]⟩],[],Z⟩ ?_
    exact holdsR_end (fun a wx hf hm=>.inl ⟨rfl,trivial,by
     show MemOk _ _ (packBk w z10 st fl r (pre ++ [x])) _ _ _
     rw [packBk_0 w z10 st fl r pre x hl,rec_2 hv]
     exact hm.here⟩)
   ·skip
    have eb:(packBk w z10 st fl r pre) = (pk_b3 st r w fl pre x z10):=by
     unfold packBk
     rw [hl,rec_3 hv]
     rfl
    have hvb:0 ≤ numV r x ∧ numV r x ≤ 16777215:=by rw [hv]; omega
    rw [eb]
    refine hgER (fun _=>tI) 5 [] [4,5,6,7,8] [] [] [.code pk_n1,.code pk_n2,.blk 1] ⟨[(4,sT ⟨#[]⟩),(5,i6 0),(6,(pt z10 0)),(7,(pt (z10 + 1) 0)),(8,(pt w.heap.size 3))],(pk_b3 st r w fl pre x z10),[],Z⟩ ?_
    refine holdsR_mix (fun _=>tI) (J:=3) (vs:=(pk_v9 r w x z10)) (stg:=pk_n5) [4,5,7] (by kernel_rfl) (by kernel_rfl) (by kernel_rfl) (pk_m30 st r w fl Z pre x z10) ⟨rfl,by kernel_rfl,by kernel_rfl⟩ ⟨tI,tI,tI,tI,tI,tI,tI,tI,⟨tI,tI⟩,tI,tI,tI,⟨⟨by decide,by decide⟩,tI⟩,⟨tI,tI⟩,tI,tI,tI,⟨⟨by decide,by decide⟩,tI⟩,⟨inU8 (by omega),tI⟩,tI,tI,tI,tI,tI,tI,tI⟩ rfl rfl (by kernel_rfl:_ = [(4,sT ⟨#[]⟩),(5,i6 0),(7,(pt (z10 + 1) 0))]) ?_
    refine hgER (fun _=>tI) 9 pk_n8 [4,5] [] [(z10 + 1,0,1),(z10 + 1,0,1)] [] ⟨[(4,sT ⟨#[]⟩),(5,i6 0)],[⟨w.heap.size,25,true,(pk_v10 r x)⟩,⟨z10,75,true,(pk_v6 st r fl pre x)⟩,⟨z10 + 1,3,true,[i6 6]⟩,⟨z10 + 2,79,false,[(pt w.heap.size 0)]⟩],[],Z⟩ ?_
    exact holdsR_end (fun a wx hf hm=>.inl ⟨rfl,trivial,by
     show MemOk _ _ (packBk w z10 st fl r (pre ++ [x])) _ _ _
     rw [packBk_0 w z10 st fl r pre x hl,rec_3 hv]
     exact hm.here⟩)
   ·skip
    have eb:(packBk w z10 st fl r pre) = (pk_b4 st r w fl pre x z10):=by
     unfold packBk
     rw [hl,rec_6 hv]
     rfl
    have hvb:0 ≤ numV r x ∧ numV r x ≤ 16777215:=by rw [hv]; omega
    rw [eb]
    refine hgER (fun _=>tI) 5 [] [4,5,6,7,8] [] [] [.code pk_n1,.code pk_n2,.blk 1] ⟨[(4,sT ⟨#[]⟩),(5,i6 0),(6,(pt z10 0)),(7,(pt (z10 + 1) 0)),(8,(pt w.heap.size 6))],(pk_b4 st r w fl pre x z10),[],Z⟩ ?_
    refine holdsR_mix (fun _=>tI) (J:=3) (vs:=(pk_v11 r w x z10)) (stg:=pk_n5) [4,5,7] (by kernel_rfl) (by kernel_rfl) (by kernel_rfl) (pk_m33 st r w fl Z pre x z10) ⟨rfl,by kernel_rfl,by kernel_rfl⟩ ⟨tI,tI,tI,tI,tI,tI,tI,tI,⟨tI,tI⟩,tI,tI,tI,⟨⟨by decide,by decide⟩,tI⟩,⟨tI,tI⟩,tI,tI,tI,⟨⟨by decide,by decide⟩,tI⟩,⟨inU8 (by omega),tI⟩,tI,tI,tI,tI,tI,tI,tI⟩ rfl rfl (by kernel_rfl:_ = [(4,sT ⟨#[]⟩),(5,i6 0),(7,(pt (z10 + 1) 0))]) ?_
    refine hgER (fun _=>tI) 9 pk_n8 [4,5] [] [(z10 + 1,0,1),(z10 + 1,0,1)] [] ⟨[(4,sT ⟨#[]⟩),(5,i6 0)],[⟨w.heap.size,25,true,(pk_v12 r x)⟩,⟨z10,75,true,(pk_v6 st r fl pre x)⟩,⟨z10 + 1,3,true,[i6 6]⟩,⟨z10 + 2,79,false,[(pt w.heap.size 0)]⟩],[],Z⟩ ?_
    exact holdsR_end (fun a wx hf hm=>.inl ⟨rfl,trivial,by
     show MemOk _ _ (packBk w z10 st fl r (pre ++ [x])) _ _ _
     rw [packBk_0 w z10 st fl r pre x hl,rec_6 hv]
     exact hm.here⟩)
   ·skip
    have eb:(packBk w z10 st fl r pre) = (pk_b5 st r w fl pre x z10):=by
     unfold packBk
     rw [hl,rec_7 hv]
     rfl
    have hvb:0 ≤ numV r x ∧ numV r x ≤ 16777215:=by rw [hv]; omega
    rw [eb]
    refine hgER (fun _=>tI) 5 [] [4,5,6,7,8] [] [] [.code pk_n1,.code pk_n2,.blk 1] ⟨[(4,sT ⟨#[]⟩),(5,i6 0),(6,(pt z10 0)),(7,(pt (z10 + 1) 0)),(8,(pt w.heap.size 7))],(pk_b5 st r w fl pre x z10),[],Z⟩ ?_
    refine holdsR_mix (fun _=>tI) (J:=3) (vs:=(pk_v13 r w x z10)) (stg:=pk_n5) [4,5,7] (by kernel_rfl) (by kernel_rfl) (by kernel_rfl) (pk_m36 st r w fl Z pre x z10) ⟨rfl,by kernel_rfl,by kernel_rfl⟩ ⟨tI,tI,tI,tI,tI,tI,tI,tI,⟨tI,tI⟩,tI,tI,tI,⟨⟨by decide,by decide⟩,tI⟩,⟨tI,tI⟩,tI,tI,tI,⟨⟨by decide,by decide⟩,tI⟩,⟨inU8 (by omega),tI⟩,tI,tI,tI,tI,tI,tI,tI⟩ rfl rfl (by kernel_rfl:_ = [(4,sT ⟨#[]⟩),(5,i6 0),(7,(pt (z10 + 1) 0))]) ?_
    refine hgER (fun _=>tI) 9 pk_n8 [4,5] [] [(z10 + 1,0,1),(z10 + 1,0,1)] [] ⟨[(4,sT ⟨#[]⟩),(5,i6 0)],[⟨w.heap.size,25,true,(pk_v14 r x)⟩,⟨z10,75,true,(pk_v6 st r fl pre x)⟩,⟨z10 + 1,3,true,[i6 6]⟩,⟨z10 + 2,79,false,[(pt w.heap.size 0)]⟩],[],Z⟩ ?_
    exact holdsR_end (fun a wx hf hm=>.inl ⟨rfl,trivial,by
     show MemOk _ _ (packBk w z10 st fl r (pre ++ [x])) _ _ _
     rw [packBk_0 w z10 st fl r pre x hl,rec_7 hv]
     exact hm.here⟩)
  ·skip
   rcases hx with ⟨hx,hv⟩ | ⟨hx,hv⟩ | ⟨hx,hv⟩ | ⟨hx,hv⟩ | ⟨hx,hv⟩ <;> rw [hx]
   ·skip
    have eb:(packBk w z10 st fl r pre) = (pk_b6 st r w fl pre x z10):=by
     unfold packBk
     rw [hl,rec_1 hv]
     rfl
    have hvb:0 ≤ numV r x ∧ numV r x ≤ 16777215:=by rw [hv]; omega
    rw [eb]
    refine hgER (fun _=>tI) 5 [] [4,5,6,7,8] [] [] [.code pk_n1,.code pk_n2,.blk 1] ⟨[(4,sT ⟨#[]⟩),(5,i6 0),(6,(pt z10 0)),(7,(pt (z10 + 1) 0)),(8,(pt w.heap.size 1))],(pk_b6 st r w fl pre x z10),[],Z⟩ ?_
    refine holdsR_mix (fun _=>tI) (J:=3) (vs:=(pk_v15 r w x z10)) (stg:=pk_n5) [4,5,7] (by kernel_rfl) (by kernel_rfl) (by kernel_rfl) (pk_m39 st r w fl Z pre x z10) ⟨rfl,by kernel_rfl,by kernel_rfl⟩ ⟨tI,tI,tI,tI,tI,tI,tI,tI,⟨tI,tI⟩,tI,tI,tI,⟨⟨by decide,by decide⟩,tI⟩,⟨tI,tI⟩,tI,tI,tI,⟨⟨by decide,by decide⟩,tI⟩,⟨inU8 (by omega),tI⟩,tI,tI,tI,tI,tI,tI,tI⟩ rfl rfl (by kernel_rfl:_ = [(4,sT ⟨#[]⟩),(5,i6 0),(7,(pt (z10 + 1) 0))]) ?_
    refine hgER (fun _=>tI) 9 pk_n8 [4,5] [] [(z10 + 1,0,1),(z10 + 1,0,1)] [] ⟨[(4,sT ⟨#[]⟩),(5,i6 0)],[⟨w.heap.size,25,true,(pk_v2 r x)⟩,⟨z10,75,true,(pk_v18 st r fl pre x)⟩,⟨z10 + 1,3,true,[i6 9]⟩,⟨z10 + 2,79,false,[(pt w.heap.size 0)]⟩],[],Z⟩ ?_
    exact holdsR_end (fun a wx hf hm=>.inl ⟨rfl,trivial,by
     show MemOk _ _ (packBk w z10 st fl r (pre ++ [x])) _ _ _
     rw [packBk_1 w z10 st fl r pre x hl,rec_1 hv]
     exact hm.here⟩)
   ·skip
    have eb:(packBk w z10 st fl r pre) = (pk_b7 st r w fl pre x z10):=by
     unfold packBk
     rw [hl,rec_2 hv]
     rfl
    have hvb:0 ≤ numV r x ∧ numV r x ≤ 16777215:=by rw [hv]; omega
    rw [eb]
    refine hgER (fun _=>tI) 5 [] [4,5,6,7,8] [] [] [.code pk_n1,.code pk_n2,.blk 1] ⟨[(4,sT ⟨#[]⟩),(5,i6 0),(6,(pt z10 0)),(7,(pt (z10 + 1) 0)),(8,(pt w.heap.size 2))],(pk_b7 st r w fl pre x z10),[],Z⟩ ?_
    refine holdsR_mix (fun _=>tI) (J:=3) (vs:=(pk_v19 r w x z10)) (stg:=pk_n5) [4,5,7] (by kernel_rfl) (by kernel_rfl) (by kernel_rfl) (pk_m42 st r w fl Z pre x z10) ⟨rfl,by kernel_rfl,by kernel_rfl⟩ ⟨tI,tI,tI,tI,tI,tI,tI,tI,⟨tI,tI⟩,tI,tI,tI,⟨⟨by decide,by decide⟩,tI⟩,⟨tI,tI⟩,tI,tI,tI,⟨⟨by decide,by decide⟩,tI⟩,⟨inU8 (by omega),tI⟩,tI,tI,tI,tI,tI,tI,tI⟩ rfl rfl (by kernel_rfl:_ = [(4,sT ⟨#[]⟩),(5,i6 0),(7,(pt (z10 + 1) 0))]) ?_
    refine hgER (fun _=>tI) 9 pk_n8 [4,5] [] [(z10 + 1,0,1),(z10 + 1,0,1)] [] ⟨[(4,sT ⟨#[]⟩),(5,i6 0)],[⟨w.heap.size,25,true,(pk_v8 r x)⟩,⟨z10,75,true,(pk_v18 st r fl pre x)⟩,⟨z10 + 1,3,true,[i6 9]⟩,⟨z10 + 2,79,false,[(pt w.heap.size 0)]⟩],[],Z⟩ ?_
    exact holdsR_end (fun a wx hf hm=>.inl ⟨rfl,trivial,by
     show MemOk _ _ (packBk w z10 st fl r (pre ++ [x])) _ _ _
     rw [packBk_1 w z10 st fl r pre x hl,rec_2 hv]
     exact hm.here⟩)
   ·skip
    have eb:(packBk w z10 st fl r pre) = (pk_b8 st r w fl pre x z10):=by
     unfold packBk
     rw [hl,rec_3 hv]
     rfl
    have hvb:0 ≤ numV r x ∧ numV r x ≤ 16777215:=by rw [hv]; omega
    rw [eb]
    refine hgER (fun _=>tI) 5 [] [4,5,6,7,8] [] [] [.code pk_n1,.code pk_n2,.blk 1] ⟨[(4,sT ⟨#[]⟩),(5,i6 0),(6,(pt z10 0)),(7,(pt (z10 + 1) 0)),(8,(pt w.heap.size 3))],(pk_b8 st r w fl pre x z10),[],Z⟩ ?_
    refine holdsR_mix (fun _=>tI) (J:=3) (vs:=(pk_v20 r w x z10)) (stg:=pk_n5) [4,5,7] (by kernel_rfl) (by kernel_rfl) (by kernel_rfl) (pk_m45 st r w fl Z pre x z10) ⟨rfl,by kernel_rfl,by kernel_rfl⟩ ⟨tI,tI,tI,tI,tI,tI,tI,tI,⟨tI,tI⟩,tI,tI,tI,⟨⟨by decide,by decide⟩,tI⟩,⟨tI,tI⟩,tI,tI,tI,⟨⟨by decide,by decide⟩,tI⟩,⟨inU8 (by omega),tI⟩,tI,tI,tI,tI,tI,tI,tI⟩ rfl rfl (by kernel_rfl:_ = [(4,sT ⟨#[]⟩),(5,i6 0),(7,(pt (z10 + 1) 0))]) ?_
    refine hgER (fun _=>tI) 9 pk_n8 [4,5] [] [(z10 + 1,0,1),(z10 + 1,0,1)] [] ⟨[(4,sT ⟨#[]⟩),(5,i6 0)],[⟨w.heap.size,25,true,(pk_v10 r x)⟩,⟨z10,75,true,(pk_v18 st r fl pre x)⟩,⟨z10 + 1,3,true,[i6 9]⟩,⟨z10 + 2,79,false,[(pt w.heap.size 0)]⟩],[],Z⟩ ?_
    exact holdsR_end (fun a wx hf hm=>.inl ⟨rfl,trivial,by
     show MemOk _ _ (packBk w z10 st fl r (pre ++ [x])) _ _ _
     rw [packBk_1 w z10 st fl r pre x hl,rec_3 hv]
     exact hm.here⟩)
   ·skip
    have eb:(packBk w z10 st fl r pre) = (pk_b9 st r w fl pre x z10):=by
     unfold packBk
     rw [hl,rec_6 hv]
     rfl
    have hvb:0 ≤ numV r x ∧ numV r x ≤ 16777215:=by rw [hv]; omega
    rw [eb]
    refine hgER (fun _=>tI) 5 [] [4,5,6,7,8] [] [] [.code pk_n1,.code pk_n2,.blk 1] ⟨[(4,sT ⟨#[]⟩),(5,i6 0),(6,(pt z10 0)),(7,(pt (z10 + 1) 0)),(8,(pt w.heap.size 6))],(pk_b9 st r w fl pre x z10),[],Z⟩ ?_
    refine holdsR_mix (fun _=>tI) (J:=3) (vs:=(pk_v21 r w x z10)) (stg:=pk_n5) [4,5,7] (by kernel_rfl) (by kernel_rfl) (by kernel_rfl) (pk_m48 st r w fl Z pre x z10) ⟨rfl,by kernel_rfl,by kernel_rfl⟩ ⟨tI,tI,tI,tI,tI,tI,tI,tI,⟨tI,tI⟩,tI,tI,tI,⟨⟨by decide,by decide⟩,tI⟩,⟨tI,tI⟩,tI,tI,tI,⟨⟨by decide,by decide⟩,tI⟩,⟨inU8 (by omega),tI⟩,tI,tI,tI,tI,tI,tI,tI⟩ rfl rfl (by kernel_rfl:_ = [(4,sT ⟨#[]⟩),(5,i6 0),(7,(pt (z10 + 1) 0))]) ?_
    refine hgER (fun _=>tI) 9 pk_n8 [4,5] [] [(z10 + 1,0,1),(z10 + 1,0,1)] [] ⟨[(4,sT ⟨#[]⟩),(5,i6 0)],[⟨w.heap.size,25,true,(pk_v12 r x)⟩,⟨z10,75,true,(pk_v18 st r fl pre x)⟩,⟨z10 + 1,3,true,[i6 9]⟩,⟨z10 + 2,79,false,[(pt w.heap.size 0)]⟩],[],Z⟩ ?_
    exact holdsR_end (fun a wx hf hm=>.inl ⟨rfl,trivial,by
     show MemOk _ _ (packBk w z10 st fl r (pre ++ [x])) _ _ _
     rw [packBk_1 w z10 st fl r pre x hl,rec_6 hv]
     exact hm.here⟩)
   ·skip
    have eb:(packBk w z10 st fl r pre) = (pk_b10 st r w fl pre x z10):=by
     unfold packBk
     rw [hl,rec_7 hv]
     rfl
    have hvb:0 ≤ numV r x ∧ numV r x ≤ 16777215:=by rw [hv]; omega
    rw [eb]
    refine hgER (fun _=>tI) 5 [] [4,5,6,7,8] [] [] [.code pk_n1,.code pk_n2,.blk 1] ⟨[(4,sT ⟨#[]⟩),(5,i6 0),(6,(pt z10 0)),(7,(pt (z10 + 1) 0)),(8,(pt w.heap.size 7))],(pk_b10 st r w fl pre x z10),[],Z⟩ ?_
    refine holdsR_mix (fun _=>tI) (J:=3) (vs:=(pk_v22 r w x z10)) (stg:=pk_n5) [4,5,7] (by kernel_rfl) (by kernel_rfl) (by kernel_rfl) (pk_m51 st r w fl Z pre x z10) ⟨rfl,by kernel_rfl,by kernel_rfl⟩ ⟨tI,tI,tI,tI,tI,tI,tI,tI,⟨tI,tI⟩,tI,tI,tI,⟨⟨by decide,by decide⟩,tI⟩,⟨tI,tI⟩,tI,tI,tI,⟨⟨by decide,by decide⟩,tI⟩,⟨inU8 (by omega),tI⟩,tI,tI,tI,tI,tI,tI,tI⟩ rfl rfl (by kernel_rfl:_ = [(4,sT ⟨#[]⟩),(5,i6 0),(7,(pt (z10 + 1) 0))]) ?_
    refine hgER (fun _=>tI) 9 pk_n8 [4,5] [] [(z10 + 1,0,1),(z10 + 1,0,1)] [] ⟨[(4,sT ⟨#[]⟩),(5,i6 0)],[⟨w.heap.size,25,true,(pk_v14 r x)⟩,⟨z10,75,true,(pk_v18 st r fl pre x)⟩,⟨z10 + 1,3,true,[i6 9]⟩,⟨z10 + 2,79,false,[(pt w.heap.size 0)]⟩],[],Z⟩ ?_
    exact holdsR_end (fun a wx hf hm=>.inl ⟨rfl,trivial,by
     show MemOk _ _ (packBk w z10 st fl r (pre ++ [x])) _ _ _
     rw [packBk_1 w z10 st fl r pre x hl,rec_7 hv]
     exact hm.here⟩)
  ·skip
   rcases hx with ⟨hx,hv⟩ | ⟨hx,hv⟩ | ⟨hx,hv⟩ | ⟨hx,hv⟩ | ⟨hx,hv⟩ <;> rw [hx]
   ·skip
    have eb:(packBk w z10 st fl r pre) = (pk_b11 st r w fl pre x z10):=by
     unfold packBk
     rw [hl,rec_1 hv]
     rfl
    have hvb:0 ≤ numV r x ∧ numV r x ≤ 16777215:=by rw [hv]; omega
    rw [eb]
    refine hgER (fun _=>tI) 5 [] [4,5,6,7,8] [] [] [.code pk_n1,.code pk_n2,.blk 1] ⟨[(4,sT ⟨#[]⟩),(5,i6 0),(6,(pt z10 0)),(7,(pt (z10 + 1) 0)),(8,(pt w.heap.size 1))],(pk_b11 st r w fl pre x z10),[],Z⟩ ?_
    refine holdsR_mix (fun _=>tI) (J:=3) (vs:=(pk_v23 r w x z10)) (stg:=pk_n5) [4,5,7] (by kernel_rfl) (by kernel_rfl) (by kernel_rfl) (pk_m54 st r w fl Z pre x z10) ⟨rfl,by kernel_rfl,by kernel_rfl⟩ ⟨tI,tI,tI,tI,tI,tI,tI,tI,⟨tI,tI⟩,tI,tI,tI,⟨⟨by decide,by decide⟩,tI⟩,⟨tI,tI⟩,tI,tI,tI,⟨⟨by decide,by decide⟩,tI⟩,⟨inU8 (by omega),tI⟩,tI,tI,tI,tI,tI,tI,tI⟩ rfl rfl (by kernel_rfl:_ = [(4,sT ⟨#[]⟩),(5,i6 0),(7,(pt (z10 + 1) 0))]) ?_
    refine hgER (fun _=>tI) 9 pk_n8 [4,5] [] [(z10 + 1,0,1),(z10 + 1,0,1)] [] ⟨[(4,sT ⟨#[]⟩),(5,i6 0)],[⟨w.heap.size,25,true,(pk_v2 r x)⟩,⟨z10,75,true,(pk_v26 st r fl pre x)⟩,⟨z10 + 1,3,true,[i6 12]⟩,⟨z10 + 2,79,false,[(pt w.heap.size 0)]⟩],[],Z⟩ ?_
    exact holdsR_end (fun a wx hf hm=>.inl ⟨rfl,trivial,by
     show MemOk _ _ (packBk w z10 st fl r (pre ++ [x])) _ _ _
     rw [packBk_2 w z10 st fl r pre x hl,rec_1 hv]
     exact hm.here⟩)
   ·skip
    have eb:(packBk w z10 st fl r pre) = (pk_b12 st r w fl pre x z10):=by
     unfold packBk
     rw [hl,rec_2 hv]
     rfl
    have hvb:0 ≤ numV r x ∧ numV r x ≤ 16777215:=by rw [hv]; omega
    rw [eb]
    refine hgER (fun _=>tI) 5 [] [4,5,6,7,8] [] [] [.code pk_n1,.code pk_n2,.blk 1] ⟨[(4,sT ⟨#[]⟩),(5,i6 0),(6,(pt z10 0)),(7,(pt (z10 + 1) 0)),(8,(pt w.heap.size 2))],(pk_b12 st r w fl pre x z10),[],Z⟩ ?_
    refine holdsR_mix (fun _=>tI) (J:=3) (vs:=(pk_v27 r w x z10)) (stg:=pk_n5) [4,5,7] (by kernel_rfl) (by kernel_rfl) (by kernel_rfl) (pk_m57 st r w fl Z pre x z10) ⟨rfl,by kernel_rfl,by kernel_rfl⟩ ⟨tI,tI,tI,tI,tI,tI,tI,tI,⟨tI,tI⟩,tI,tI,tI,⟨⟨by decide,by decide⟩,tI⟩,⟨tI,tI⟩,tI,tI,tI,⟨⟨by decide,by decide⟩,tI⟩,⟨inU8 (by omega),tI⟩,tI,tI,tI,tI,tI,tI,tI⟩ rfl rfl (by kernel_rfl:_ = [(4,sT ⟨#[]⟩),(5,i6 0),(7,(pt (z10 + 1) 0))]) ?_
    refine hgER (fun _=>tI) 9 pk_n8 [4,5] [] [(z10 + 1,0,1),(z10 + 1,0,1)] [] ⟨[(4,sT ⟨#[]⟩),(5,i6 0)],[⟨w.heap.size,25,true,(pk_v8 r x)⟩,⟨z10,75,true,(pk_v26 st r fl pre x)⟩,⟨z10 + 1,3,true,[i6 12]⟩,⟨z10 + 2,79,false,[(pt w.heap.size 0)]⟩],[],Z⟩ ?_
    exact holdsR_end (fun a wx hf hm=>.inl ⟨rfl,trivial,by
     show MemOk _ _ (packBk w z10 st fl r (pre ++ [x])) _ _ _
     rw [packBk_2 w z10 st fl r pre x hl,rec_2 hv]
     exact hm.here⟩)
   ·skip
    have eb:(packBk w z10 st fl r pre) = (pk_b13 st r w fl pre x z10):=by
     unfold packBk
     rw [hl,rec_3 hv]
     rfl
    have hvb:0 ≤ numV r x ∧ numV r x ≤ 16777215:=by rw [hv]; omega
    rw [eb]
    refine hgER (fun _=>tI) 5 [] [4,5,6,7,8] [] [] [.code pk_n1,.code pk_n2,.blk 1] ⟨[(4,sT ⟨#[]⟩),(5,i6 0),(6,(pt z10 0)),(7,(pt (z10 + 1) 0)),(8,(pt w.heap.size 3))],(pk_b13 st r w fl pre x z10),[],Z⟩ ?_
    refine holdsR_mix (fun _=>tI) (J:=3) (vs:=(pk_v28 r w x z10)) (stg:=pk_n5) [4,5,7] (by kernel_rfl) (by kernel_rfl) (by kernel_rfl) (pk_m60 st r w fl Z pre x z10) ⟨rfl,by kernel_rfl,by kernel_rfl⟩ ⟨tI,tI,tI,tI,tI,tI,tI,tI,⟨tI,tI⟩,tI,tI,tI,⟨⟨by decide,by decide⟩,tI⟩,⟨tI,tI⟩,tI,tI,tI,⟨⟨by decide,by decide⟩,tI⟩,⟨inU8 (by omega),tI⟩,tI,tI,tI,tI,tI,tI,tI⟩ rfl rfl (by kernel_rfl:_ = [(4,sT ⟨#[]⟩),(5,i6 0),(7,(pt (z10 + 1) 0))]) ?_
    refine hgER (fun _=>tI) 9 pk_n8 [4,5] [] [(z10 + 1,0,1),(z10 + 1,0,1)] [] ⟨[(4,sT ⟨#[]⟩),(5,i6 0)],[⟨w.heap.size,25,true,(pk_v10 r x)⟩,⟨z10,75,true,(pk_v26 st r fl pre x)⟩,⟨z10 + 1,3,true,[i6 12]⟩,⟨z10 + 2,79,false,[(pt w.heap.size 0)]⟩],[],Z⟩ ?_
    exact holdsR_end (fun a wx hf hm=>.inl ⟨rfl,trivial,by
     show MemOk _ _ (packBk w z10 st fl r (pre ++ [x])) _ _ _
     rw [packBk_2 w z10 st fl r pre x hl,rec_3 hv]
     exact hm.here⟩)
   ·skip
    have eb:(packBk w z10 st fl r pre) = (pk_b14 st r w fl pre x z10):=by
     unfold packBk
     rw [hl,rec_6 hv]
     rfl
    have hvb:0 ≤ numV r x ∧ numV r x ≤ 16777215:=by rw [hv]; omega
    rw [eb]
    refine hgER (fun _=>tI) 5 [] [4,5,6,7,8] [] [] [.code pk_n1,.code pk_n2,.blk 1] ⟨[(4,sT ⟨#[]⟩),(5,i6 0),(6,(pt z10 0)),(7,(pt (z10 + 1) 0)),(8,(pt w.heap.size 6))],(pk_b14 st r w fl pre x z10),[],Z⟩ ?_
    refine holdsR_mix (fun _=>tI) (J:=3) (vs:=(pk_v29 r w x z10)) (stg:=pk_n5) [4,5,7] (by kernel_rfl) (by kernel_rfl) (by kernel_rfl) (pk_m63 st r w fl Z pre x z10) ⟨rfl,by kernel_rfl,by kernel_rfl⟩ ⟨tI,tI,tI,tI,tI,tI,tI,tI,⟨tI,tI⟩,tI,tI,tI,⟨⟨by decide,by decide⟩,tI⟩,⟨tI,tI⟩,tI,tI,tI,⟨⟨by decide,by decide⟩,tI⟩,⟨inU8 (by omega),tI⟩,tI,tI,tI,tI,tI,tI,tI⟩ rfl rfl (by kernel_rfl:_ = [(4,sT ⟨#[]⟩),(5,i6 0),(7,(pt (z10 + 1) 0))]) ?_
    refine hgER (fun _=>tI) 9 pk_n8 [4,5] [] [(z10 + 1,0,1),(z10 + 1,0,1)] [] ⟨[(4,sT ⟨#[]⟩),(5,i6 0)],[⟨w.heap.size,25,true,(pk_v12 r x)⟩,⟨z10,75,true,(pk_v26 st r fl pre x)⟩,⟨z10 + 1,3,true,[i6 12]⟩,⟨z10 + 2,79,false,[(pt w.heap.size 0)]⟩],[],Z⟩ ?_
    exact holdsR_end (fun a wx hf hm=>.inl ⟨rfl,trivial,by
     show MemOk _ _ (packBk w z10 st fl r (pre ++ [x])) _ _ _
     rw [packBk_2 w z10 st fl r pre x hl,rec_6 hv]
     exact hm.here⟩)
   ·skip
    have eb:(packBk w z10 st fl r pre) = (pk_b15 st r w fl pre x z10):=by
     unfold packBk
     rw [hl,rec_7 hv]
     rfl
    have hvb:0 ≤ numV r x ∧ numV r x ≤ 16777215:=by rw [hv]; omega
    rw [eb]
    refine hgER (fun _=>tI) 5 [] [4,5,6,7,8] [] [] [.code pk_n1,.code pk_n2,.blk 1] ⟨[(4,sT ⟨#[]⟩),(5,i6 0),(6,(pt z10 0)),(7,(pt (z10 + 1) 0)),(8,(pt w.heap.size 7))],(pk_b15 st r w fl pre x z10),[],Z⟩ ?_
    refine holdsR_mix (fun _=>tI) (J:=3) (vs:=(pk_v30 r w x z10)) (stg:=pk_n5) [4,5,7] (by kernel_rfl) (by kernel_rfl) (by kernel_rfl) (pk_m66 st r w fl Z pre x z10) ⟨rfl,by kernel_rfl,by kernel_rfl⟩ ⟨tI,tI,tI,tI,tI,tI,tI,tI,⟨tI,tI⟩,tI,tI,tI,⟨⟨by decide,by decide⟩,tI⟩,⟨tI,tI⟩,tI,tI,tI,⟨⟨by decide,by decide⟩,tI⟩,⟨inU8 (by omega),tI⟩,tI,tI,tI,tI,tI,tI,tI⟩ rfl rfl (by kernel_rfl:_ = [(4,sT ⟨#[]⟩),(5,i6 0),(7,(pt (z10 + 1) 0))]) ?_
    refine hgER (fun _=>tI) 9 pk_n8 [4,5] [] [(z10 + 1,0,1),(z10 + 1,0,1)] [] ⟨[(4,sT ⟨#[]⟩),(5,i6 0)],[⟨w.heap.size,25,true,(pk_v14 r x)⟩,⟨z10,75,true,(pk_v26 st r fl pre x)⟩,⟨z10 + 1,3,true,[i6 12]⟩,⟨z10 + 2,79,false,[(pt w.heap.size 0)]⟩],[],Z⟩ ?_
    exact holdsR_end (fun a wx hf hm=>.inl ⟨rfl,trivial,by
     show MemOk _ _ (packBk w z10 st fl r (pre ++ [x])) _ _ _
     rw [packBk_2 w z10 st fl r pre x hl,rec_7 hv]
     exact hm.here⟩)
  ·skip
   rcases hx with ⟨hx,hv⟩ | ⟨hx,hv⟩ | ⟨hx,hv⟩ | ⟨hx,hv⟩ | ⟨hx,hv⟩ <;> rw [hx]
   ·skip
    have eb:(packBk w z10 st fl r pre) = (pk_b16 st r w fl pre x z10):=by
     unfold packBk
     rw [hl,rec_1 hv]
     rfl
    have hvb:0 ≤ numV r x ∧ numV r x ≤ 16777215:=by rw [hv]; omega
    rw [eb]
    refine hgER (fun _=>tI) 5 [] [4,5,6,7,8] [] [] [.code pk_n1,.code pk_n2,.blk 1] ⟨[(4,sT ⟨#[]⟩),(5,i6 0),(6,(pt z10 0)),(7,(pt (z10 + 1) 0)),(8,(pt w.heap.size 1))],(pk_b16 st r w fl pre x z10),[],Z⟩ ?_
    refine holdsR_mix (fun _=>tI) (J:=3) (vs:=(pk_v31 r w x z10)) (stg:=pk_n5) [4,5,7] (by kernel_rfl) (by kernel_rfl) (by kernel_rfl) (pk_m69 st r w fl Z pre x z10) ⟨rfl,by kernel_rfl,by kernel_rfl⟩ ⟨tI,tI,tI,tI,tI,tI,tI,tI,⟨tI,tI⟩,tI,tI,tI,⟨⟨by decide,by decide⟩,tI⟩,⟨tI,tI⟩,tI,tI,tI,⟨⟨by decide,by decide⟩,tI⟩,⟨inU8 (by omega),tI⟩,tI,tI,tI,tI,tI,tI,tI⟩ rfl rfl (by kernel_rfl:_ = [(4,sT ⟨#[]⟩),(5,i6 0),(7,(pt (z10 + 1) 0))]) ?_
    refine hgER (fun _=>tI) 9 pk_n8 [4,5] [] [(z10 + 1,0,1),(z10 + 1,0,1)] [] ⟨[(4,sT ⟨#[]⟩),(5,i6 0)],[⟨w.heap.size,25,true,(pk_v2 r x)⟩,⟨z10,75,true,(pk_v34 st r fl pre x)⟩,⟨z10 + 1,3,true,[i6 15]⟩,⟨z10 + 2,79,false,[(pt w.heap.size 0)]⟩],[],Z⟩ ?_
    exact holdsR_end (fun a wx hf hm=>.inl ⟨rfl,trivial,by
     show MemOk _ _ (packBk w z10 st fl r (pre ++ [x])) _ _ _
     rw [packBk_3 w z10 st fl r pre x hl,rec_1 hv]
     exact hm.here⟩)
   ·skip
    have eb:(packBk w z10 st fl r pre) = (pk_b17 st r w fl pre x z10):=by
     unfold packBk
     rw [hl,rec_2 hv]
     rfl
    have hvb:0 ≤ numV r x ∧ numV r x ≤ 16777215:=by rw [hv]; omega
    rw [eb]
    refine hgER (fun _=>tI) 5 [] [4,5,6,7,8] [] [] [.code pk_n1,.code pk_n2,.blk 1] ⟨[(4,sT ⟨#[]⟩),(5,i6 0),(6,(pt z10 0)),(7,(pt (z10 + 1) 0)),(8,(pt w.heap.size 2))],(pk_b17 st r w fl pre x z10),[],Z⟩ ?_
    refine holdsR_mix (fun _=>tI) (J:=3) (vs:=(pk_v35 r w x z10)) (stg:=pk_n5) [4,5,7] (by kernel_rfl) (by kernel_rfl) (by kernel_rfl) (pk_m72 st r w fl Z pre x z10) ⟨rfl,by kernel_rfl,by kernel_rfl⟩ ⟨tI,tI,tI,tI,tI,tI,tI,tI,⟨tI,tI⟩,tI,tI,tI,⟨⟨by decide,by decide⟩,tI⟩,⟨tI,tI⟩,tI,tI,tI,⟨⟨by decide,by decide⟩,tI⟩,⟨inU8 (by omega),tI⟩,tI,tI,tI,tI,tI,tI,tI⟩ rfl rfl (by kernel_rfl:_ = [(4,sT ⟨#[]⟩),(5,i6 0),(7,(pt (z10 + 1) 0))]) ?_
    refine hgER (fun _=>tI) 9 pk_n8 [4,5] [] [(z10 + 1,0,1),(z10 + 1,0,1)] [] ⟨[(4,sT ⟨#[]⟩),(5,i6 0)],[⟨w.heap.size,25,true,(pk_v8 r x)⟩,⟨z10,75,true,(pk_v34 st r fl pre x)⟩,⟨z10 + 1,3,true,[i6 15]⟩,⟨z10 + 2,79,false,[(pt w.heap.size 0)]⟩],[],Z⟩ ?_
    exact holdsR_end (fun a wx hf hm=>.inl ⟨rfl,trivial,by
     show MemOk _ _ (packBk w z10 st fl r (pre ++ [x])) _ _ _
     rw [packBk_3 w z10 st fl r pre x hl,rec_2 hv]
     exact hm.here⟩)
   ·skip
    have eb:(packBk w z10 st fl r pre) = (pk_b18 st r w fl pre x z10):=by
     unfold packBk
     rw [hl,rec_3 hv]
     rfl
    have hvb:0 ≤ numV r x ∧ numV r x ≤ 16777215:=by rw [hv]; omega
    rw [eb]
    refine hgER (fun _=>tI) 5 [] [4,5,6,7,8] [] [] [.code pk_n1,.code pk_n2,.blk 1] ⟨[(4,sT ⟨#[]⟩),(5,i6 0),(6,(pt z10 0)),(7,(pt (z10 + 1) 0)),(8,(pt w.heap.size 3))],(pk_b18 st r w fl pre x z10),[],Z⟩ ?_
    refine holdsR_mix (fun _=>tI) (J:=3) (vs:=(pk_v36 r w x z10)) (stg:=pk_n5) [4,5,7] (by kernel_rfl) (by kernel_rfl) (by kernel_rfl) (pk_m75 st r w fl Z pre x z10) ⟨rfl,by kernel_rfl,by kernel_rfl⟩ ⟨tI,tI,tI,tI,tI,tI,tI,tI,⟨tI,tI⟩,tI,tI,tI,⟨⟨by decide,by decide⟩,tI⟩,⟨tI,tI⟩,tI,tI,tI,⟨⟨by decide,by decide⟩,tI⟩,⟨inU8 (by omega),tI⟩,tI,tI,tI,tI,tI,tI,tI⟩ rfl rfl (by kernel_rfl:_ = [(4,sT ⟨#[]⟩),(5,i6 0),(7,(pt (z10 + 1) 0))]) ?_
    refine hgER (fun _=>tI) 9 pk_n8 [4,5] [] [(z10 + 1,0,1),(z10 + 1,0,1)] [] ⟨[(4,sT ⟨#[]⟩),(5,i6 0)],[⟨w.heap.size,25,true,(pk_v10 r x)⟩,⟨z10,75,true,(pk_v34 st r fl pre x)⟩,⟨z10 + 1,3,true,[i6 15]⟩,⟨z10 + 2,79,false,[(pt w.heap.size 0)]⟩],[],Z⟩ ?_
    exact holdsR_end (fun a wx hf hm=>.inl ⟨rfl,trivial,by
     show MemOk _ _ (packBk w z10 st fl r (pre ++ [x])) _ _ _
     rw [packBk_3 w z10 st fl r pre x hl,rec_3 hv]
     exact hm.here⟩)
   ·skip
    have eb:(packBk w z10 st fl r pre) = (pk_b19 st r w fl pre x z10):=by
     unfold packBk
     rw [hl,rec_6 hv]
     rfl
    have hvb:0 ≤ numV r x ∧ numV r x ≤ 16777215:=by rw [hv]; omega
    rw [eb]
    refine hgER (fun _=>tI) 5 [] [4,5,6,7,8] [] [] [.code pk_n1,.code pk_n2,.blk 1] ⟨[(4,sT ⟨#[]⟩),(5,i6 0),(6,(pt z10 0)),(7,(pt (z10 + 1) 0)),(8,(pt w.heap.size 6))],(pk_b19 st r w fl pre x z10),[],Z⟩ ?_
    refine holdsR_mix (fun _=>tI) (J:=3) (vs:=(pk_v37 r w x z10)) (stg:=pk_n5) [4,5,7] (by kernel_rfl) (by kernel_rfl) (by kernel_rfl) (pk_m78 st r w fl Z pre x z10) ⟨rfl,by kernel_rfl,by kernel_rfl⟩ ⟨tI,tI,tI,tI,tI,tI,tI,tI,⟨tI,tI⟩,tI,tI,tI,⟨⟨by decide,by decide⟩,tI⟩,⟨tI,tI⟩,tI,tI,tI,⟨⟨by decide,by decide⟩,tI⟩,⟨inU8 (by omega),tI⟩,tI,tI,tI,tI,tI,tI,tI⟩ rfl rfl (by kernel_rfl:_ = [(4,sT ⟨#[]⟩),(5,i6 0),(7,(pt (z10 + 1) 0))]) ?_
    refine hgER (fun _=>tI) 9 pk_n8 [4,5] [] [(z10 + 1,0,1),(z10 + 1,0,1)] [] ⟨[(4,sT ⟨#[]⟩),(5,i6 0)],[⟨w.heap.size,25,true,(pk_v12 r x)⟩,⟨z10,75,true,(pk_v34 st r fl pre x)⟩,⟨z10 + 1,3,true,[i6 15]⟩,⟨z10 + 2,79,false,[(pt w.heap.size 0)]⟩],[],Z⟩ ?_
    exact holdsR_end (fun a wx hf hm=>.inl ⟨rfl,trivial,by
     show MemOk _ _ (packBk w z10 st fl r (pre ++ [x])) _ _ _
     rw [packBk_3 w z10 st fl r pre x hl,rec_6 hv]
     exact hm.here⟩)
   ·skip
    have eb:(packBk w z10 st fl r pre) = (pk_b20 st r w fl pre x z10):=by
     unfold packBk
     rw [hl,rec_7 hv]
     rfl
    have hvb:0 ≤ numV r x ∧ numV r x ≤ 16777215:=by rw [hv]; omega
    rw [eb]
    refine hgER (fun _=>tI) 5 [] [4,5,6,7,8] [] [] [.code pk_n1,.code pk_n2,.blk 1] ⟨[(4,sT ⟨#[]⟩),(5,i6 0),(6,(pt z10 0)),(7,(pt (z10 + 1) 0)),(8,(pt w.heap.size 7))],(pk_b20 st r w fl pre x z10),[],Z⟩ ?_
    refine holdsR_mix (fun _=>tI) (J:=3) (vs:=(pk_v38 r w x z10)) (stg:=pk_n5) [4,5,7] (by kernel_rfl) (by kernel_rfl) (by kernel_rfl) (pk_m81 st r w fl Z pre x z10) ⟨rfl,by kernel_rfl,by kernel_rfl⟩ ⟨tI,tI,tI,tI,tI,tI,tI,tI,⟨tI,tI⟩,tI,tI,tI,⟨⟨by decide,by decide⟩,tI⟩,⟨tI,tI⟩,tI,tI,tI,⟨⟨by decide,by decide⟩,tI⟩,⟨inU8 (by omega),tI⟩,tI,tI,tI,tI,tI,tI,tI⟩ rfl rfl (by kernel_rfl:_ = [(4,sT ⟨#[]⟩),(5,i6 0),(7,(pt (z10 + 1) 0))]) ?_
    refine hgER (fun _=>tI) 9 pk_n8 [4,5] [] [(z10 + 1,0,1),(z10 + 1,0,1)] [] ⟨[(4,sT ⟨#[]⟩),(5,i6 0)],[⟨w.heap.size,25,true,(pk_v14 r x)⟩,⟨z10,75,true,(pk_v34 st r fl pre x)⟩,⟨z10 + 1,3,true,[i6 15]⟩,⟨z10 + 2,79,false,[(pt w.heap.size 0)]⟩],[],Z⟩ ?_
    exact holdsR_end (fun a wx hf hm=>.inl ⟨rfl,trivial,by
     show MemOk _ _ (packBk w z10 st fl r (pre ++ [x])) _ _ _
     rw [packBk_3 w z10 st fl r pre x hl,rec_7 hv]
     exact hm.here⟩)
  ·skip
   rcases hx with ⟨hx,hv⟩ | ⟨hx,hv⟩ | ⟨hx,hv⟩ | ⟨hx,hv⟩ | ⟨hx,hv⟩ <;> rw [hx]
   ·skip
    have eb:(packBk w z10 st fl r pre) = (pk_b21 st r w fl pre x z10):=by
     unfold packBk
     rw [hl,rec_1 hv]
     rfl
    have hvb:0 ≤ numV r x ∧ numV r x ≤ 16777215:=by rw [hv]; omega
    rw [eb]
    refine hgER (fun _=>tI) 5 [] [4,5,6,7,8] [] [] [.code pk_n1,.code pk_n2,.blk 1] ⟨[(4,sT ⟨#[]⟩),(5,i6 0),(6,(pt z10 0)),(7,(pt (z10 + 1) 0)),(8,(pt w.heap.size 1))],(pk_b21 st r w fl pre x z10),[],Z⟩ ?_
    refine holdsR_mix (fun _=>tI) (J:=3) (vs:=(pk_v39 r w x z10)) (stg:=pk_n5) [4,5,7] (by kernel_rfl) (by kernel_rfl) (by kernel_rfl) (pk_m84 st r w fl Z pre x z10) ⟨rfl,by kernel_rfl,by kernel_rfl⟩ ⟨tI,tI,tI,tI,tI,tI,tI,tI,⟨tI,tI⟩,tI,tI,tI,⟨⟨by decide,by decide⟩,tI⟩,⟨tI,tI⟩,tI,tI,tI,⟨⟨by decide,by decide⟩,tI⟩,⟨inU8 (by omega),tI⟩,tI,tI,tI,tI,tI,tI,tI⟩ rfl rfl (by kernel_rfl:_ = [(4,sT ⟨#[]⟩),(5,i6 0),(7,(pt (z10 + 1) 0))]) ?_
    refine hgER (fun _=>tI) 9 pk_n8 [4,5] [] [(z10 + 1,0,1),(z10 + 1,0,1)] [] ⟨[(4,sT ⟨#[]⟩),(5,i6 0)],[⟨w.heap.size,25,true,(pk_v2 r x)⟩,⟨z10,75,true,(pk_v42 st r fl pre x)⟩,⟨z10 + 1,3,true,[i6 18]⟩,⟨z10 + 2,79,false,[(pt w.heap.size 0)]⟩],[],Z⟩ ?_
    exact holdsR_end (fun a wx hf hm=>.inl ⟨rfl,trivial,by
     show MemOk _ _ (packBk w z10 st fl r (pre ++ [x])) _ _ _
     rw [packBk_4 w z10 st fl r pre x hl,rec_1 hv]
     exact hm.here⟩)
   ·skip
    have eb:(packBk w z10 st fl r pre) = (pk_b22 st r w fl pre x z10):=by
     unfold packBk
     rw [hl,rec_2 hv]
     rfl
    have hvb:0 ≤ numV r x ∧ numV r x ≤ 16777215:=by rw [hv]; omega
    rw [eb]
    refine hgER (fun _=>tI) 5 [] [4,5,6,7,8] [] [] [.code pk_n1,.code pk_n2,.blk 1] ⟨[(4,sT ⟨#[]⟩),(5,i6 0),(6,(pt z10 0)),(7,(pt (z10 + 1) 0)),(8,(pt w.heap.size 2))],(pk_b22 st r w fl pre x z10),[],Z⟩ ?_
    refine holdsR_mix (fun _=>tI) (J:=3) (vs:=(pk_v43 r w x z10)) (stg:=pk_n5) [4,5,7] (by kernel_rfl) (by kernel_rfl) (by kernel_rfl) (pk_m87 st r w fl Z pre x z10) ⟨rfl,by kernel_rfl,by kernel_rfl⟩ ⟨tI,tI,tI,tI,tI,tI,tI,tI,⟨tI,tI⟩,tI,tI,tI,⟨⟨by decide,by decide⟩,tI⟩,⟨tI,tI⟩,tI,tI,tI,⟨⟨by decide,by decide⟩,tI⟩,⟨inU8 (by omega),tI⟩,tI,tI,tI,tI,tI,tI,tI⟩ rfl rfl (by kernel_rfl:_ = [(4,sT ⟨#[]⟩),(5,i6 0),(7,(pt (z10 + 1) 0))]) ?_
    refine hgER (fun _=>tI) 9 pk_n8 [4,5] [] [(z10 + 1,0,1),(z10 + 1,0,1)] [] ⟨[(4,sT ⟨#[]⟩),(5,i6 0)],[⟨w.heap.size,25,true,(pk_v8 r x)⟩,⟨z10,75,true,(pk_v42 st r fl pre x)⟩,⟨z10 + 1,3,true,[i6 18]⟩,⟨z10 + 2,79,false,[(pt w.heap.size 0)]⟩],[],Z⟩ ?_
    exact holdsR_end (fun a wx hf hm=>.inl ⟨rfl,trivial,by
     show MemOk _ _ (packBk w z10 st fl r (pre ++ [x])) _ _ _
     rw [packBk_4 w z10 st fl r pre x hl,rec_2 hv]
     exact hm.here⟩)
   ·skip
    have eb:(packBk w z10 st fl r pre) = (pk_b23 st r w fl pre x z10):=by
     unfold packBk
     rw [hl,rec_3 hv]
     rfl
    have hvb:0 ≤ numV r x ∧ numV r x ≤ 16777215:=by rw [hv]; omega
    rw [eb]
    refine hgER (fun _=>tI) 5 [] [4,5,6,7,8] [] [] [.code pk_n1,.code pk_n2,.blk 1] ⟨[(4,sT ⟨#[]⟩),(5,i6 0),(6,(pt z10 0)),(7,(pt (z10 + 1) 0)),(8,(pt w.heap.size 3))],(pk_b23 st r w fl pre x z10),[],Z⟩ ?_
    refine holdsR_mix (fun _=>tI) (J:=3) (vs:=(pk_v44 r w x z10)) (stg:=pk_n5) [4,5,7] (by kernel_rfl) (by kernel_rfl) (by kernel_rfl) (pk_m90 st r w fl Z pre x z10) ⟨rfl,by kernel_rfl,by kernel_rfl⟩ ⟨tI,tI,tI,tI,tI,tI,tI,tI,⟨tI,tI⟩,tI,tI,tI,⟨⟨by decide,by decide⟩,tI⟩,⟨tI,tI⟩,tI,tI,tI,⟨⟨by decide,by decide⟩,tI⟩,⟨inU8 (by omega),tI⟩,tI,tI,tI,tI,tI,tI,tI⟩ rfl rfl (by kernel_rfl:_ = [(4,sT ⟨#[]⟩),(5,i6 0),(7,(pt (z10 + 1) 0))]) ?_
    refine hgER (fun _=>tI) 9 pk_n8 [4,5] [] [(z10 + 1,0,1),(z10 + 1,0,1)] [] ⟨[(4,sT ⟨#[]⟩),(5,i6 0)],[⟨w.heap.size,25,true,(pk_v10 r x)⟩,⟨z10,75,true,(pk_v42 st r fl pre x)⟩,⟨z10 + 1,3,true,[i6 18]⟩,⟨z10 + 2,79,false,[(pt w.heap.size 0)]⟩],[],Z⟩ ?_
    exact holdsR_end (fun a wx hf hm=>.inl ⟨rfl,trivial,by
     show MemOk _ _ (packBk w z10 st fl r (pre ++ [x])) _ _ _
     rw [packBk_4 w z10 st fl r pre x hl,rec_3 hv]
     exact hm.here⟩)
   ·skip
    have eb:(packBk w z10 st fl r pre) = (pk_b24 st r w fl pre x z10):=by
     unfold packBk
     rw [hl,rec_6 hv]
     rfl
    have hvb:0 ≤ numV r x ∧ numV r x ≤ 16777215:=by rw [hv]; omega
    rw [eb]
    refine hgER (fun _=>tI) 5 [] [4,5,6,7,8] [] [] [.code pk_n1,.code pk_n2,.blk 1] ⟨[(4,sT ⟨#[]⟩),(5,i6 0),(6,(pt z10 0)),(7,(pt (z10 + 1) 0)),(8,(pt w.heap.size 6))],(pk_b24 st r w fl pre x z10),[],Z⟩ ?_
    refine holdsR_mix (fun _=>tI) (J:=3) (vs:=(pk_v45 r w x z10)) (stg:=pk_n5) [4,5,7] (by kernel_rfl) (by kernel_rfl) (by kernel_rfl) (pk_m93 st r w fl Z pre x z10) ⟨rfl,by kernel_rfl,by kernel_rfl⟩ ⟨tI,tI,tI,tI,tI,tI,tI,tI,⟨tI,tI⟩,tI,tI,tI,⟨⟨by decide,by decide⟩,tI⟩,⟨tI,tI⟩,tI,tI,tI,⟨⟨by decide,by decide⟩,tI⟩,⟨inU8 (by omega),tI⟩,tI,tI,tI,tI,tI,tI,tI⟩ rfl rfl (by kernel_rfl:_ = [(4,sT ⟨#[]⟩),(5,i6 0),(7,(pt (z10 + 1) 0))]) ?_
    refine hgER (fun _=>tI) 9 pk_n8 [4,5] [] [(z10 + 1,0,1),(z10 + 1,0,1)] [] ⟨[(4,sT ⟨#[]⟩),(5,i6 0)],[⟨w.heap.size,25,true,(pk_v12 r x)⟩,⟨z10,75,true,(pk_v42 st r fl pre x)⟩,⟨z10 + 1,3,true,[i6 18]⟩,⟨z10 + 2,79,false,[(pt w.heap.size 0)]⟩],[],Z⟩ ?_
    exact holdsR_end (fun a wx hf hm=>.inl ⟨rfl,trivial,by
     show MemOk _ _ (packBk w z10 st fl r (pre ++ [x])) _ _ _
     rw [packBk_4 w z10 st fl r pre x hl,rec_6 hv]
     exact hm.here⟩)
   ·skip
    have eb:(packBk w z10 st fl r pre) = (pk_b25 st r w fl pre x z10):=by
     unfold packBk
     rw [hl,rec_7 hv]
     rfl
    have hvb:0 ≤ numV r x ∧ numV r x ≤ 16777215:=by rw [hv]; omega
    rw [eb]
    refine hgER (fun _=>tI) 5 [] [4,5,6,7,8] [] [] [.code pk_n1,.code pk_n2,.blk 1] ⟨[(4,sT ⟨#[]⟩),(5,i6 0),(6,(pt z10 0)),(7,(pt (z10 + 1) 0)),(8,(pt w.heap.size 7))],(pk_b25 st r w fl pre x z10),[],Z⟩ ?_
    refine holdsR_mix (fun _=>tI) (J:=3) (vs:=(pk_v46 r w x z10)) (stg:=pk_n5) [4,5,7] (by kernel_rfl) (by kernel_rfl) (by kernel_rfl) (pk_m96 st r w fl Z pre x z10) ⟨rfl,by kernel_rfl,by kernel_rfl⟩ ⟨tI,tI,tI,tI,tI,tI,tI,tI,⟨tI,tI⟩,tI,tI,tI,⟨⟨by decide,by decide⟩,tI⟩,⟨tI,tI⟩,tI,tI,tI,⟨⟨by decide,by decide⟩,tI⟩,⟨inU8 (by omega),tI⟩,tI,tI,tI,tI,tI,tI,tI⟩ rfl rfl (by kernel_rfl:_ = [(4,sT ⟨#[]⟩),(5,i6 0),(7,(pt (z10 + 1) 0))]) ?_
    refine hgER (fun _=>tI) 9 pk_n8 [4,5] [] [(z10 + 1,0,1),(z10 + 1,0,1)] [] ⟨[(4,sT ⟨#[]⟩),(5,i6 0)],[⟨w.heap.size,25,true,(pk_v14 r x)⟩,⟨z10,75,true,(pk_v42 st r fl pre x)⟩,⟨z10 + 1,3,true,[i6 18]⟩,⟨z10 + 2,79,false,[(pt w.heap.size 0)]⟩],[],Z⟩ ?_
    exact holdsR_end (fun a wx hf hm=>.inl ⟨rfl,trivial,by
     show MemOk _ _ (packBk w z10 st fl r (pre ++ [x])) _ _ _
     rw [packBk_4 w z10 st fl r pre x hl,rec_7 hv]
     exact hm.here⟩)
 ·rintro D xs W rfl _ hmW hD hW hK
  subst hfl
  have eb:(packBk w z10 st (flagsI r) r [0,1,2,3,4]) = (pk_b28 st r w z10):=rfl
  rw [eb] at hmW ⊢
  have hKT:¬ Turned (pk_b28 st r w z10) D:=not_turned hmW hK
  refine hgE 13 [oh0,(oA 0 8 1),oh2,oh0,(oA 1 18 1)] [3,4,5,6] [n8 (r.mask)] [(w.heap.size,8,1),(z10,18,1)] [.code pk_n3,.code [1,1,1,1,1,1,1,1,1,1]] ⟨[(3,(pt w.heap.size 0)),(4,sT ⟨#[]⟩),(5,i6 0),(6,(pt z10 0))],(pk_b26 st r w z10),[],W.heap.size⟩ ?_
  have pk_g99_c3:pk_g99C st r w W D z10 3:=cert_op (by
    intro j a wx hj hjs _ hf hk hm
    obtain ⟨bk,hb,hz,hm⟩:=hm
    obtain ⟨rfl,_⟩:=hjs 0 (by kernel_rfl)
    have hb':some ((pk_b26 st r w z10):List Bk) = some bk:=hb
    cases hb'
    have hB:=hm.at_ 1 rfl
    have h1:=run_copyStrAt (P:=Try.prog) wx 40 9 3 5 z10 19 45 45 75 r.block ((pk_v48 st r):List Value) (by kernel_rfl) (by kernel_rfl) hB (by show 19 + 45 ≤ 64; decide) (by rcases hbs with h | h <;> omega)
    have e:=copy_fill hbs ((pk_v56 st r):List Value) ((pk_v57):List Value)
    have e1:((pk_v56 st r):List Value) ++ List.replicate 16 (Value.int .u8 0) ++ (pk_v57) = (pk_v48 st r):=rfl
    have e2:((pk_v56 st r):List Value) ++ intsV ((List.range 16).map (byteAt r.block)) ++ (pk_v57) = (pk_v49 st r):=rfl
    rw [e1,e2] at e
    have h2:=hm.set1 1 (b:=⟨z10,75,true,(pk_v48 st r)⟩) (cs:=(pk_v49 st r)) rfl rfl (setRow_kept wx _ _) (setRow_blk hB _)
    have e3:((pk_v56 st r):List Value).length = 19:=rfl
    rw [e3] at e
    rw [e] at h1
    exact ⟨_,_,_,_,hf,by kernel_rfl,by kernel_rfl,h1,(show (Value.int .i64 (r.block.size:Int)) = _ from rfl),(setRow_kept wx _ _).mono (fun k _ h=>⟨⟨z10,75,true,(pk_v48 st r)⟩,List.mem_of_getElem? (i:=1) (by kernel_rfl),rfl,h.symm⟩),_,by kernel_rfl,Nat.le_trans hz h2.1,h2.2⟩)
  have pk_g99_R:∀ e_ ∈ (rZs [0,1] ++ [⟨2,⟨false,0,[⟨false,0,4,1⟩]⟩,[],[(w.heap.size,4,1)]⟩]:List RegE),pk_g99C st r w W D z10 e_.i:=certs_reg (by kernel_rfl) _ (fun sz=>by kernel_rfl)
  refine holds_mixG (vs:=(pk_g99v r w z10)) (ms:=(pk_g99m st r w z10)) (stg:=(pk_g99t)) (J:=1) (sl':=[(3,(pt w.heap.size 0)),(4,sT ⟨#[]⟩),(5,i6 0),(6,(pt z10 0))]) (bk':=(pk_b27 st r w z10)) (fun _ _ _=>False) [3,4,5,6] (by kernel_rfl) (by kernel_rfl) (by kernel_rfl) (fun _ _ _ _ h=>h.elim) (certs_mix pk_g99_R [3] ⟨pk_g99_c3,tI⟩ (by kernel_rfl)) (by kernel_rfl) (by kernel_rfl) (by kernel_rfl) (fun z99 hz99=>?_)
  replace hz99:W.heap.size ≤ z99:=hz99
  refine hgE 4 [] [3,4,5,6] [] [] [.code pk_n4,.code [1,1,1,1,1,1,1,1,1,1,1]] ⟨[(3,(pt w.heap.size 0)),(4,sT ⟨#[]⟩),(5,i6 0),(6,(pt z10 0))],(pk_b27 st r w z10),[],z99⟩ ?_
  have pk_g101_c3:pk_g101C st r w W D z10 z99 3:=cert_op (by
    intro j a wx hj hjs _ hf hk hm
    obtain ⟨bk,hb,hz,hm⟩:=hm
    obtain ⟨rfl,_⟩:=hjs 0 (by kernel_rfl)
    have hb':some ((pk_b27 st r w z10):List Bk) = some bk:=hb
    cases hb'
    have hB:=hm.at_ 1 rfl
    have h1:=run_copyStrAt (P:=Try.prog) wx 40 9 3 5 z10 35 29 29 75 r.staged ((pk_v49 st r):List Value) (by kernel_rfl) (by kernel_rfl) hB (by show 35 + 29 ≤ 64; decide) (by rcases hss with h | h <;> omega)
    have e:=copy_fill hss ((pk_v58 st r):List Value) ((pk_v59):List Value)
    have e1:((pk_v58 st r):List Value) ++ List.replicate 16 (Value.int .u8 0) ++ (pk_v59) = (pk_v49 st r):=rfl
    have e2:((pk_v58 st r):List Value) ++ intsV ((List.range 16).map (byteAt r.staged)) ++ (pk_v59) = (pk_v51 st r):=rfl
    rw [e1,e2] at e
    have h2:=hm.set1 1 (b:=⟨z10,75,true,(pk_v49 st r)⟩) (cs:=(pk_v51 st r)) rfl rfl (setRow_kept wx _ _) (setRow_blk hB _)
    have e3:((pk_v58 st r):List Value).length = 35:=rfl
    rw [e3] at e
    rw [e] at h1
    exact ⟨_,_,_,_,hf,by kernel_rfl,by kernel_rfl,h1,(show (Value.int .i64 (r.staged.size:Int)) = _ from rfl),(setRow_kept wx _ _).mono (fun k _ h=>⟨⟨z10,75,true,(pk_v49 st r)⟩,List.mem_of_getElem? (i:=1) (by kernel_rfl),rfl,h.symm⟩),_,by kernel_rfl,Nat.le_trans hz h2.1,h2.2⟩)
  have pk_g101_R:∀ e_ ∈ (rZs [0,1] ++ [⟨2,⟨false,0,[⟨false,0,9,1⟩]⟩,[],[(w.heap.size,9,1)]⟩]:List RegE),pk_g101C st r w W D z10 z99 e_.i:=certs_reg (by kernel_rfl) _ (fun sz=>by kernel_rfl)
  refine holds_mixG (vs:=(pk_g101v r w z10)) (ms:=(pk_g101m st r w z10)) (stg:=(pk_g101t)) (J:=1) (sl':=[(4,sT ⟨#[]⟩),(5,i6 0),(6,(pt z10 0))]) (bk':=(pk_b29 st r w z10)) (fun _ _ _=>False) [4,5,6] (by kernel_rfl) (by kernel_rfl) (by kernel_rfl) (fun _ _ _ _ h=>h.elim) (certs_mix pk_g101_R [3] ⟨pk_g101_c3,tI⟩ (by kernel_rfl)) (by kernel_rfl) (by kernel_rfl) (by kernel_rfl) (fun z101 hz101=>?_)
  replace hz101:z99 ≤ z101:=hz101
  refine hgE 6 [oh0] [4,5,6,75] [] [] [.ops [1,1,1,1,1,1,1,1,1,1,1,0] [1,2,3],.code [1,1,1,1,1,1,1,1,1,1,1,1]] ⟨[(4,sT ⟨#[]⟩),(5,i6 0),(6,(pt z10 0)),(75,.slice (some ⟨z10,0,none⟩) 61 64)],(pk_b29 st r w z10),[],z101⟩ ?_
  refine holds_opR (dst:=(some 76)) (x:=convert 40 9 (.slice (some ⟨z10,0,none⟩) 61 64)) (.string (bytesI (packH st r))) (by kernel_rfl) (by kernel_rfl) rfl (fun wx hm=>?_) ?_
  ·exact run_bytesAt (P:=Try.prog) wx 40 9 5 _ _ _ _ _ (packH st r) ([0,0,0]) [] (by kernel_rfl) (by kernel_rfl) (by kernel_rfl) (hm.at_ 1 rfl) rfl rfl hby
  refine hgE 3 [] [4,5,6,76] [] [] [.ops [1,1,1,1,1,1,1,1,1,1,1,0] [2,3],.code [1,1,1,1,1,1,1,1,1,1,1,1]] ⟨[(4,sT ⟨#[]⟩),(5,i6 0),(6,(pt z10 0)),(76,sT (bytesI (packH st r)))],(pk_b29 st r w z10),[],z101⟩ ?_
  refine hcp (i6 (sumI (packH st r))) 47 [sT (bytesI (packH st r))] (some 77) [] tI rfl (fun wx hm=>by have h:=sum_any (bytesI (packH st r)) (by rw [size_bytesI,length_packH]; decide) wx; rw [crcS_bytesI hby] at h; exact h) fun z105 hz105=>?_
  replace hz105:z101 ≤ z105:=hz105
  refine hgE 25 [oh0,oh0,oh2,oh2,oh0,oh2,oh3,oh0,oh3,oh0,(oA 1 61 1),oh0,(oA 1 62 1),oh0,(oA 1 63 1),oh0] [4,5,89] [oE ((0:Int) ≤ 16 ∧ (16:Int) ≤ (IntKind.bits .i64:Nat)) (⟨by decide,by decide⟩),n8 (((sumI (packH st r)) / 65536)),oE ((0:Int) ≤ 8 ∧ (8:Int) ≤ (IntKind.bits .i64:Nat)) (⟨by decide,by decide⟩),vV,vV] [(z10,61,1),(z10,62,1),(z10,63,1)] [.ops [1,1,1,1,1,1,1,1,1,1,1,1,1,0] [1,2,3],.code [1,1,1,1,1,1,1,1,1,1,1,1,1,1]] ⟨[(4,sT ⟨#[]⟩),(5,i6 0),(89,.slice (some ⟨z10,0,none⟩) 64 64)],(pk_b30 st r w z10),[],z105⟩ ?_
  refine holds_opR (dst:=(some 90)) (x:=convert 40 9 (.slice (some ⟨z10,0,none⟩) 64 64)) (.string (packS st r)) (by kernel_rfl) (by kernel_rfl) rfl (fun wx hm=>?_) ?_
  ·exact run_bytesAt (P:=Try.prog) wx 40 9 5 _ _ _ _ _ (packH st r ++ tail3 (sumI (packH st r))) ([]) [] (by kernel_rfl) (by kernel_rfl) (by kernel_rfl) (hm.at_ 1 rfl) rfl rfl (hby.append (byts_tail3 hC))
  refine hgE 6 [oh0,oh0] [4,5] [] [] [.code [1,1,1,1,1,1,1,1,1,1,1,1,1,1]] ⟨[(4,sT (packS st r)),(5,i6 0)],(pk_b30 st r w z10),[],z105⟩ ?_
  refine holds_retM [] (Array.getElem?_eq_some_iff.1 hK).1 hK hKT (by kernel_rfl) (pk_r109 st r w z10) (fun wx hm=>?_)
  refine ⟨by rw [eT,eE]; rfl,range_kept hmW hm.kept (fun k hk hT=>?_)⟩
  rcases hT with ⟨b,hb,hr,he⟩ | rfl
  ·simp at hb; rcases hb with rfl | rfl | rfl | rfl <;> simp at he hr <;> omega
  ·omega
end Go.Proofs.Ytpilmccjjbgmiaa
