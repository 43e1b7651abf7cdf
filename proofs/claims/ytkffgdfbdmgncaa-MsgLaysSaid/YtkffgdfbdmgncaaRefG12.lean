import Derived.Test.YtkffgdfbdmgncaaRefP12
import Derived.Test.YtkffgdfbdmgncaaGet12
import Derived.Test.YtkffgdfbdmgncaaUnpackR8
namespace Go.Proofs.Ytkffgdfbdmgncaa
open Go.RowKit
def gvs (fs:List FldM) (i:Nat):List Value:=(List.range i).map fun j=>i6 (gv fs j)
theorem gvs_snoc (fs:List FldM) (i:Nat):gvs fs (i + 1) = gvs fs i ++ [.int .i64 (gv fs i)]:=by unfold gvs; rw [List.range_succ,List.map_append]; rfl
theorem txs_all {fs:List FldM} {d L:Nat} (h:(txs fs d L).all getOk = true) {j:Nat} (h1:d ≤ j) (h2:j < d + L):getOk (tx fs j) = true:=by
 refine List.all_eq_true.1 h (tx fs j) ?_
 unfold txs
 exact List.mem_map.2 ⟨j - d,List.mem_range.2 (by omega),by rw [show d + (j - d) = j by omega]⟩
theorem letterV_num {fs:List FldM} {l:LetM} (h:letterV fs = some l):(fs.length = 7 ∨ fs.length = 12) ∧ (∀ j,j + 1 < fs.length → getOk (tx fs j) = true) ∧ l = if fs.length = 7 then letter7 fs else letter12 fs:=by
 unfold letterV at h
 split at h
 ·rename_i h7
  rw [if_pos h7]
  cases ho:ok7 fs with
  | false=>rw [ho] at h; cases h
  | true=>
   rw [ho] at h
   simp only [cond_true,Option.some.injEq] at h
   unfold ok7 at ho
   simp only [Bool.and_eq_true] at ho
   exact ⟨.inl h7,fun j hj=>if h3:j < 3 then txs_all ho.1 (by omega) (by omega) else txs_all ho.2.1 (by omega) (by omega),h.symm⟩
 ·rename_i h7
  rw [if_neg h7]
  split at h
  ·rename_i h12
   cases ho:ok12 fs with
   | false=>rw [ho] at h; cases h
   | true=>
    rw [ho] at h
    simp only [cond_true,Option.some.injEq] at h
    unfold ok12 at ho
    simp only [Bool.and_eq_true] at ho
    exact ⟨.inr h12,fun j hj=>if h3:j < 3 then txs_all ho.1 (by omega) (by omega) else txs_all ho.2 (by omega) (by omega),h.symm⟩
  ·cases h
theorem getL_bad {s:ByteArray} {fs:List FldM} (ho:openOk s = true) (ht:takeM (intsOf (openT s)) = some fs) (h:∀ l,letterV fs = some l → (rightL l && ((putT l).toList == s.toList)) = false):getL s = none:=by
 cases hl:letterV fs with
 | none=>exact getL_let ho ht hl
 | some l=>rw [getL_some ho ht hl,h l hl]; rfl
def rge_v1:List Value:=rp 3 (.int .i64 0) ++ [.bool false] ++ rp 8 (.int .i64 0) ++ [.string ⟨#[]⟩] ++ rp 3 (.int .i64 0) ++ [.bool false] ++ rp 3 (.int .i64 0) ++ [.string ⟨#[]⟩,.bool false] ++ rp 3 (.int .i64 0) ++ [.string ⟨#[]⟩]
def rge_v2 (fs:List FldM):List Value:=[i6 (gv fs 0),i6 (gv fs 1),i6 (gv fs 2),i6 (gv fs 3),i6 (gv fs 4),i6 (gv fs 5)]
def rge_v3 (fs:List FldM):List Value:=[i6 (gv fs 0),i6 (gv fs 1),i6 (gv fs 2),.bool true] ++ rp 8 (i6 0) ++ [sT ⟨#[]⟩,i6 0,i6 0,i6 0,.bool false,i6 0,i6 0,i6 0,sT ⟨#[]⟩,.bool false,i6 0,i6 0,i6 0,sT ⟨#[]⟩]
def rge_v4 (fs:List FldM):List Value:=[i6 (gv fs 3),i6 (gv fs 4),i6 (gv fs 5),.bool false,i6 0,i6 0,i6 0,sT ⟨#[]⟩,.bool false,i6 0,i6 0,i6 0,sT ⟨#[]⟩]
def rge_v5 (fs:List FldM):List Value:=((((rge_v3 fs).set 13 (i6 (gv fs 3))).set 14 (i6 (gv fs 4))).set 15 (i6 (gv fs 5)))
def rge_v6 (fs:List FldM):List Value:=[i6 (gv fs 0),i6 (gv fs 1),i6 (gv fs 2),i6 (gv fs 3),i6 (gv fs 4),i6 (gv fs 5),i6 (gv fs 6),i6 (gv fs 7),i6 (gv fs 8),i6 (gv fs 9),i6 (gv fs 10)]
def rge_v7 (fs:List FldM):List Value:=((rge_v3 fs).set 3 (.bool false))
def rge_v8 (fs:List FldM):List Value:=[i6 (gv fs 3),i6 (gv fs 4),i6 (gv fs 5),i6 (gv fs 6),i6 (gv fs 7),i6 (gv fs 8),i6 (gv fs 9),i6 (gv fs 10),sT (tx fs 11)]
def rge_v9 (fs:List FldM):List Value:=((((((((((rge_v7 fs).set 4 (i6 (gv fs 3))).set 5 (i6 (gv fs 4))).set 6 (i6 (gv fs 5))).set 7 (i6 (gv fs 6))).set 8 (i6 (gv fs 7))).set 9 (i6 (gv fs 8))).set 10 (i6 (gv fs 9))).set 11 (i6 (gv fs 10))).set 12 (sT (tx fs 11)))
def rge_v10 (fs:List FldM) (u:RecM):List Value:=(((((((((((rge_v5 fs).set 16 (.bool u.used)).set 17 (i6 u.fence)).set 18 (i6 u.de)).set 19 (i6 u.ds)).set 20 (sT u.block)).set 21 (.bool u.op)).set 22 (i6 u.ie)).set 23 (i6 u.is)).set 24 (i6 u.mask)).set 25 (sT u.staged))
def rge_Q (s:ByteArray) (w:World):Exit → Act → World → Prop:=bodyPost Try.prog Try.f13 (RetK (getV_ s) w)
def rge_n1:List Nat:=[1,1,1,1,1,1,0,1,0,0,1,1]
def rge_n2:List Nat:=[1,1,1,1,1,1,1,1,0]
def rge_n3:List Nat:=[1,1,1,1,1,1,1,1,1,1,0]
def rge_n4:List Nat:=[1,1,1,1,1,1,1,1,1,1,1,0,1,0,1]
def rge_n5:List Nat:=[1,1,1,1,1,1,1,1,1,1,1,1,1]
def rge_n6:List Nat:=[1,1,1,1,1,1,1,1,1,1,1,1]
def rge_n7:List Nat:=[1,1,1,1,1,1,1,1,1,1,1]
def rge_n8:List Nat:=[1,1,1,1,1,1,1,1,1,1]
def rge_n9:List Nat:=[1,1,1,1,1,1,1,1,1]
def rge_n10:Array Bool:=#[true,true,true,true,true,true,true,true,true,true,true,true,true,false,false]
def rge_n11:Array Bool:=#[true,true,true,true,true,true,true,true,true,true,true,true,true,true,false]
def rge_n12:Array Bool:=#[true,true,true,true,true,true,true,true,true,true,true,true,true,true,true]
def rge_n13:List (Option Nat):=[none,none,none,none,none,none,none,none,none,none,none,none,none,none,none,none,none,none,none,none,none,none,none,none,none,none,none,none,some 0]
def rge_n14:List (Option Nat):=[none,none,none,none,none,none,none,none,none,none,none,some 0]
def rge_n15:List OH:=[oh0,oh0,oh0,oh0,oh0,oh0,oh0,oh0,oh0,oh0,oh0,⟨false,3,[]⟩,oh0,⟨false,0,[⟨false,1,0,26⟩]⟩,⟨false,0,[⟨false,0,0,26⟩]⟩,oh0]
def rge_n16:List OH:=[oh0,oh0,oh0,oh0,oh0,oh0,oh0,oh0,oh0,oh0,oh0,⟨false,3,[]⟩,oh1,oh0,⟨false,0,[⟨false,0,0,26⟩]⟩,oh0]
def rge_n17:List OH:=[oh0,oh0,oh0,oh0,oh0,oh0,oh0,oh0,oh0,oh0,oh2,oh0,⟨false,0,[⟨true,0,0,1⟩]⟩,oh0]
def rge_n18:List OH:=[oh0,oh0,oh0,oh0,oh0,oh0,oh0,oh0,oh1,oh1,oh1,oh3,oh1,oh0,⟨false,0,[⟨false,0,0,26⟩]⟩,oh0]
def rge_n19:List OH:=[oh0,oh0,oh0,oh0,oh0,oh0,oh0,oh1,oh0,⟨false,0,[⟨false,0,0,26⟩]⟩,oh0]
@[simp] def rge_b1 (fs:List FldM) (w:World) (g24:Nat):List Bk:=[⟨w.heap.size,31,true,(rge_v1)⟩,⟨g24,31,true,(rge_v3 fs)⟩]
@[simp] def rge_b2 (fs:List FldM) (w:World) (g24:Nat):List Bk:=[⟨w.heap.size,31,true,(rge_v1)⟩,⟨g24,31,true,(rge_v5 fs)⟩]
@[simp] def rge_b3 (fs:List FldM) (w:World) (g51:Nat):List Bk:=[⟨w.heap.size,31,true,(rge_v1)⟩,⟨g51,31,true,(rge_v7 fs)⟩]
@[simp] def rge_b4 (fs:List FldM) (w:World) (g51:Nat):List Bk:=[⟨w.heap.size,31,true,(rge_v1)⟩,⟨g51,31,true,(rge_v9 fs)⟩]
@[simp] def rge_b5 (fs:List FldM) (u:RecM) (w:World) (g24:Nat):List Bk:=[⟨w.heap.size,31,true,(rge_v1)⟩,⟨g24,31,true,(rge_v10 fs u)⟩]
def RgeI (s:ByteArray) (A:Option Addr) (cp:Nat) (w:World) (nn:Nat) (fs:List FldM) (W2:World) (m:Nat) (st:St) (W1:World):Prop:=∃ (i:Nat) (A2:Option Addr) (c2 z:Nat),m + i + 1 = nn ∧ (∀ j,j < i → getOk (tx fs j) = true) ∧ OwnR W1 W2.heap.size 3 1 A2 i c2 (gvs fs i) ∧ st = ⟨[(0,sT s),(2,(pt w.heap.size 0)),(3,i6 0),(5,i6 0),(6,.slice A nn cp),(7,.slice A2 i c2),(8,i6 (i:Int))],[⟨w.heap.size,31,true,(rge_v1)⟩],[],z⟩
theorem rge_q24 (s:ByteArray) (fs:List FldM) (cp:Nat) (c2:Nat) (g:Nat) (gn:Nat) (w:World) (W1:World):Out.prune [0,2,3,5,7,11,82] (qList Try.prog 147 W1 (Turned [⟨w.heap.size,31,true,(rge_v1)⟩]) ((opsOf (getCode (bodyOf Try.f13) rge_n2)).toList.take 13) ⟨[(0,sT s),(2,(pt w.heap.size 0)),(3,i6 0),(5,i6 0),(6,.slice (some ⟨g,0,none⟩) 7 cp),(7,.slice (some ⟨gn,0,none⟩) 6 c2),(11,sT (tx fs 6))],[⟨w.heap.size,31,true,(rge_v1)⟩],[⟨g,13,[sT (tx fs 6)]⟩,⟨gn,0,(rge_v2 fs)⟩],W1.heap.size⟩ [.op oh0,.op oh2,.op ⟨false,0,[⟨true,1,0,1⟩]⟩,.op oh0,.op oh2,.op ⟨false,0,[⟨true,1,1,1⟩]⟩,.op oh0,.op oh2,.op ⟨false,0,[⟨true,1,2,1⟩]⟩,.op oh0,.op oh0,.op oh0,.op oh0]) = some ⟨[(0:Int) ≤ 0 ∧ 0 < ((6:Nat):Int),(0:Int) ≤ 1 ∧ 1 < ((6:Nat):Int),(0:Int) ≤ 2 ∧ 2 < ((6:Nat):Int)],dupR [(gn,0,1),(gn,1,1),(gn,2,1)],⟨[(0,sT s),(2,(pt w.heap.size 0)),(3,i6 0),(5,i6 0),(7,.slice (some ⟨gn,0,none⟩) 6 c2),(11,sT (tx fs 6)),(82,.agg (List.toArray (rge_v3 fs)))],[⟨w.heap.size,31,true,(rge_v1)⟩],[⟨g,13,[sT (tx fs 6)]⟩,⟨gn,0,(rge_v2 fs)⟩],W1.heap.size⟩⟩:=by kernel_rfl
theorem rge_t25 (s:ByteArray) (fs:List FldM) (c2:Nat) (g:Nat) (gn:Nat) (w:World) (g24:Nat) (y24:Nat):tailP [0,2,3,5,7,11,12] (tailX Try.prog 147 (opsOf (getCode (bodyOf Try.f13) rge_n2)) 1 rge_n11 ⟨[(12,(pt g24 0)),(0,sT s),(2,(pt w.heap.size 0)),(3,i6 0),(5,i6 0),(7,.slice (some ⟨gn,0,none⟩) 6 c2),(11,sT (tx fs 6)),(82,.agg (List.toArray (rge_v3 fs)))],[⟨w.heap.size,31,true,(rge_v1)⟩,⟨g24,31,true,(rge_v1)⟩],[⟨g,13,[sT (tx fs 6)]⟩,⟨gn,0,(rge_v2 fs)⟩],y24⟩ [(14,false,(oA 1 0 26))]) = some (⟨[],dupR [(g24,0,26)],⟨[(0,sT s),(2,(pt w.heap.size 0)),(3,i6 0),(5,i6 0),(7,.slice (some ⟨gn,0,none⟩) 6 c2),(11,sT (tx fs 6)),(12,(pt g24 0))],(rge_b1 fs w g24),[⟨g,13,[sT (tx fs 6)]⟩,⟨gn,0,(rge_v2 fs)⟩],y24⟩⟩,0,rge_n12):=by kernel_rfl
theorem rge_t26 (s:ByteArray) (fs:List FldM) (c2:Nat) (g:Nat) (gn:Nat) (w:World) (y24:Nat):tailP [0,2,3,5,7,11,12] (tailX Try.prog 147 (opsOf (getCode (bodyOf Try.f13) rge_n2)) 2 rge_n10 ⟨[(0,sT s),(2,(pt w.heap.size 0)),(3,i6 0),(5,i6 0),(7,.slice (some ⟨gn,0,none⟩) 6 c2),(11,sT (tx fs 6)),(82,.agg (List.toArray (rge_v3 fs)))],[⟨w.heap.size,31,true,(rge_v1)⟩],[⟨g,13,[sT (tx fs 6)]⟩,⟨gn,0,(rge_v2 fs)⟩],y24⟩ [(13,false,oh0),(14,false,(oA 1 0 26))]) = some (⟨[],dupR [(y24,0,26)],⟨[(0,sT s),(2,(pt w.heap.size 0)),(3,i6 0),(5,i6 0),(7,.slice (some ⟨gn,0,none⟩) 6 c2),(11,sT (tx fs 6)),(12,(pt y24 0))],[⟨w.heap.size,31,true,(rge_v1)⟩,⟨y24,31,true,(rge_v3 fs)⟩],[⟨g,13,[sT (tx fs 6)]⟩,⟨gn,0,(rge_v2 fs)⟩],y24 + 1⟩⟩,0,rge_n12):=by kernel_rfl
theorem rge_m28 (s:ByteArray) (fs:List FldM) (c2:Nat) (g:Nat) (gn:Nat) (w:World) (g24:Nat) (y24:Nat):MixOk Try.prog (opsOf (getCode (bodyOf Try.f13) [1,1,1,1,1,1,1,1,1,0,1,0,0])) [(0,sT s),(2,(pt w.heap.size 0)),(3,i6 0),(5,i6 0),(7,.slice (some ⟨gn,0,none⟩) 6 c2),(11,sT (tx fs 6)),(12,(pt g24 0))] [.slice (some ⟨gn,0,none⟩) 6 c2,(pt gn 3),i6 (gv fs 3),.slice (some ⟨gn,0,none⟩) 6 c2,(pt gn 4),i6 (gv fs 4),.slice (some ⟨gn,0,none⟩) 6 c2,(pt gn 5),i6 (gv fs 5),.agg (List.toArray (rge_v4 fs)),(pt g24 13),.tuple #[]] [(rge_b1 fs w g24),(rge_b2 fs w g24)] [⟨g,13,[sT (tx fs 6)]⟩,⟨gn,0,(rge_v2 fs)⟩] y24 rge_n14 [oh0,oh2,⟨false,0,[⟨true,1,3,1⟩]⟩,oh0,oh2,⟨false,0,[⟨true,1,4,1⟩]⟩,oh0,oh2,⟨false,0,[⟨true,1,5,1⟩]⟩,oh0,oh0,(oA 1 13 13)] [[],[(0:Int) ≤ 3 ∧ 3 < ((6:Nat):Int)],[],[],[(0:Int) ≤ 4 ∧ 4 < ((6:Nat):Int)],[],[],[(0:Int) ≤ 5 ∧ 5 < ((6:Nat):Int)],[],[],[],[]] [[],[],[(gn,3,1)],[],[],[(gn,4,1)],[],[],[(gn,5,1)],[],[],[(g24,13,13)]] 1:=by unfold MixOk; kernel_rfl
theorem rge_q51 (s:ByteArray) (fs:List FldM) (cp:Nat) (c2:Nat) (g:Nat) (gn:Nat) (w:World) (W1:World):Out.prune [0,2,3,5,7,11,82] (qList Try.prog 147 W1 (Turned [⟨w.heap.size,31,true,(rge_v1)⟩]) ((opsOf (getCode (bodyOf Try.f13) rge_n2)).toList.take 13) ⟨[(0,sT s),(2,(pt w.heap.size 0)),(3,i6 0),(5,i6 0),(6,.slice (some ⟨g,0,none⟩) 12 cp),(7,.slice (some ⟨gn,0,none⟩) 11 c2),(11,sT (tx fs 11))],[⟨w.heap.size,31,true,(rge_v1)⟩],[⟨g,23,[sT (tx fs 11)]⟩,⟨gn,0,(rge_v6 fs)⟩],W1.heap.size⟩ [.op oh0,.op oh2,.op ⟨false,0,[⟨true,1,0,1⟩]⟩,.op oh0,.op oh2,.op ⟨false,0,[⟨true,1,1,1⟩]⟩,.op oh0,.op oh2,.op ⟨false,0,[⟨true,1,2,1⟩]⟩,.op oh0,.op oh0,.op oh0,.op oh0]) = some ⟨[(0:Int) ≤ 0 ∧ 0 < ((11:Nat):Int),(0:Int) ≤ 1 ∧ 1 < ((11:Nat):Int),(0:Int) ≤ 2 ∧ 2 < ((11:Nat):Int)],dupR [(gn,0,1),(gn,1,1),(gn,2,1)],⟨[(0,sT s),(2,(pt w.heap.size 0)),(3,i6 0),(5,i6 0),(7,.slice (some ⟨gn,0,none⟩) 11 c2),(11,sT (tx fs 11)),(82,.agg (List.toArray (rge_v7 fs)))],[⟨w.heap.size,31,true,(rge_v1)⟩],[⟨g,23,[sT (tx fs 11)]⟩,⟨gn,0,(rge_v6 fs)⟩],W1.heap.size⟩⟩:=by kernel_rfl
theorem rge_t52 (s:ByteArray) (fs:List FldM) (c2:Nat) (g:Nat) (gn:Nat) (w:World) (g51:Nat) (y51:Nat):tailP [0,2,3,5,7,11,12] (tailX Try.prog 147 (opsOf (getCode (bodyOf Try.f13) rge_n2)) 1 rge_n11 ⟨[(12,(pt g51 0)),(0,sT s),(2,(pt w.heap.size 0)),(3,i6 0),(5,i6 0),(7,.slice (some ⟨gn,0,none⟩) 11 c2),(11,sT (tx fs 11)),(82,.agg (List.toArray (rge_v7 fs)))],[⟨w.heap.size,31,true,(rge_v1)⟩,⟨g51,31,true,(rge_v1)⟩],[⟨g,23,[sT (tx fs 11)]⟩,⟨gn,0,(rge_v6 fs)⟩],y51⟩ [(14,false,(oA 1 0 26))]) = some (⟨[],dupR [(g51,0,26)],⟨[(0,sT s),(2,(pt w.heap.size 0)),(3,i6 0),(5,i6 0),(7,.slice (some ⟨gn,0,none⟩) 11 c2),(11,sT (tx fs 11)),(12,(pt g51 0))],(rge_b3 fs w g51),[⟨g,23,[sT (tx fs 11)]⟩,⟨gn,0,(rge_v6 fs)⟩],y51⟩⟩,0,rge_n12):=by kernel_rfl
theorem rge_t53 (s:ByteArray) (fs:List FldM) (c2:Nat) (g:Nat) (gn:Nat) (w:World) (y51:Nat):tailP [0,2,3,5,7,11,12] (tailX Try.prog 147 (opsOf (getCode (bodyOf Try.f13) rge_n2)) 2 rge_n10 ⟨[(0,sT s),(2,(pt w.heap.size 0)),(3,i6 0),(5,i6 0),(7,.slice (some ⟨gn,0,none⟩) 11 c2),(11,sT (tx fs 11)),(82,.agg (List.toArray (rge_v7 fs)))],[⟨w.heap.size,31,true,(rge_v1)⟩],[⟨g,23,[sT (tx fs 11)]⟩,⟨gn,0,(rge_v6 fs)⟩],y51⟩ [(13,false,oh0),(14,false,(oA 1 0 26))]) = some (⟨[],dupR [(y51,0,26)],⟨[(0,sT s),(2,(pt w.heap.size 0)),(3,i6 0),(5,i6 0),(7,.slice (some ⟨gn,0,none⟩) 11 c2),(11,sT (tx fs 11)),(12,(pt y51 0))],[⟨w.heap.size,31,true,(rge_v1)⟩,⟨y51,31,true,(rge_v7 fs)⟩],[⟨g,23,[sT (tx fs 11)]⟩,⟨gn,0,(rge_v6 fs)⟩],y51 + 1⟩⟩,0,rge_n12):=by kernel_rfl
theorem rge_m55 (s:ByteArray) (fs:List FldM) (c2:Nat) (g:Nat) (gn:Nat) (w:World) (g51:Nat) (y51:Nat):MixOk Try.prog (opsOf (getCode (bodyOf Try.f13) [1,1,1,1,1,1,1,1,1,0,1,1])) [(0,sT s),(2,(pt w.heap.size 0)),(3,i6 0),(5,i6 0),(7,.slice (some ⟨gn,0,none⟩) 11 c2),(11,sT (tx fs 11)),(12,(pt g51 0))] [.slice (some ⟨gn,0,none⟩) 11 c2,(pt gn 3),i6 (gv fs 3),.slice (some ⟨gn,0,none⟩) 11 c2,(pt gn 4),i6 (gv fs 4),.slice (some ⟨gn,0,none⟩) 11 c2,(pt gn 5),i6 (gv fs 5),.slice (some ⟨gn,0,none⟩) 11 c2,(pt gn 6),i6 (gv fs 6),.slice (some ⟨gn,0,none⟩) 11 c2,(pt gn 7),i6 (gv fs 7),.slice (some ⟨gn,0,none⟩) 11 c2,(pt gn 8),i6 (gv fs 8),.slice (some ⟨gn,0,none⟩) 11 c2,(pt gn 9),i6 (gv fs 9),.slice (some ⟨gn,0,none⟩) 11 c2,(pt gn 10),i6 (gv fs 10),.agg #[i6 (gv fs 9),i6 (gv fs 10)],sT (tx fs 11),.agg (List.toArray (rge_v8 fs)),(pt g51 4),.tuple #[]] [(rge_b3 fs w g51),(rge_b4 fs w g51)] [⟨g,23,[sT (tx fs 11)]⟩,⟨gn,0,(rge_v6 fs)⟩] y51 rge_n13 [oh0,oh2,⟨false,0,[⟨true,1,3,1⟩]⟩,oh0,oh2,⟨false,0,[⟨true,1,4,1⟩]⟩,oh0,oh2,⟨false,0,[⟨true,1,5,1⟩]⟩,oh0,oh2,⟨false,0,[⟨true,1,6,1⟩]⟩,oh0,oh2,⟨false,0,[⟨true,1,7,1⟩]⟩,oh0,oh2,⟨false,0,[⟨true,1,8,1⟩]⟩,oh0,oh2,⟨false,0,[⟨true,1,9,1⟩]⟩,oh0,oh2,⟨false,0,[⟨true,1,10,1⟩]⟩,oh0,oh0,oh0,oh0,(oA 1 4 9)] [[],[(0:Int) ≤ 3 ∧ 3 < ((11:Nat):Int)],[],[],[(0:Int) ≤ 4 ∧ 4 < ((11:Nat):Int)],[],[],[(0:Int) ≤ 5 ∧ 5 < ((11:Nat):Int)],[],[],[(0:Int) ≤ 6 ∧ 6 < ((11:Nat):Int)],[],[],[(0:Int) ≤ 7 ∧ 7 < ((11:Nat):Int)],[],[],[(0:Int) ≤ 8 ∧ 8 < ((11:Nat):Int)],[],[],[(0:Int) ≤ 9 ∧ 9 < ((11:Nat):Int)],[],[],[(0:Int) ≤ 10 ∧ 10 < ((11:Nat):Int)],[],[],[],[],[],[]] [[],[],[(gn,3,1)],[],[],[(gn,4,1)],[],[],[(gn,5,1)],[],[],[(gn,6,1)],[],[],[(gn,7,1)],[],[],[(gn,8,1)],[],[],[(gn,9,1)],[],[],[(gn,10,1)],[],[],[],[],[(g51,4,9)]] 1:=by unfold MixOk; kernel_rfl
set_option maxRecDepth 100000 in
set_option maxHeartbeats 4000000 in
theorem refGetLet_any (s:ByteArray) (hs:(s.size:Int) ≤ 9223372036854775807) (w:World) :
  Calls Try.prog 13 #[.string s] w (RetK (getV_ s) w):=by
 refine calls_of_holds (S:=(fun _=>False)) (l:=[.string s]) (n:=147) Try.func13 (body_of (by kernel_rfl)) rfl (by simp) (MemOk.none w _) ?_
 refine hgE 11 [oh0,oh0,oh0] [0,2,3,15] [] [] [.ops [1,0] [1,2,3,4,5,6],.code [1,1]] ⟨[(0,sT s),(2,(pt w.heap.size 0)),(3,i6 0),(15,sT s)],[⟨w.heap.size,31,true,(rge_v1)⟩],[],w.heap.size + 1⟩ ?_
 rcases Bool.eq_false_or_eq_true (openOk s) with ho | ho
 rotate_left
 ·skip
  refine hcp (.tuple #[sT ⟨#[]⟩,i6 40]) 29 [sT s] (some 16) [] tI rfl (fun wx hm=>by have h:=refOpen_any s hs wx; rw [ho] at h; exact h) fun z2 hz2=>?_
  replace hz2:w.heap.size + 1 ≤ z2:=hz2
  refine hgE 22 rge_n19 [0,2,3,4,5] [tT] [(w.heap.size,0,26)] [.code [1,1,0,1,0,1],.code [1,1,1]] ⟨[(0,sT s),(2,(pt w.heap.size 0)),(3,i6 120),(4,sT ⟨#[]⟩),(5,i6 40)],[⟨w.heap.size,31,true,(rge_v1)⟩],[],z2⟩ ?_
  refine hrt [[⟨false,0,0,26⟩]] [.agg (List.toArray (rge_v1)),i6 120] [(w.heap.size,0,26)] ?_
  intro wx hm
  exact ⟨congrArg _ (getV_none (getL_open ho)),hm.kept⟩
 refine hcp (.tuple #[sT (openT s),i6 0]) 29 [sT s] (some 16) [] tI rfl (fun wx hm=>by have h:=refOpen_any s hs wx; rw [ho] at h; exact h) fun z5 hz5=>?_
 replace hz5:w.heap.size + 1 ≤ z5:=hz5
 have hos:=openT_size ho
 refine hgE 20 [oh0,oh0,oh0,oh0,oh0,oh0,oh0,oh0,oh0] [0,2,3,5,23] [fF] [] [.ops [1,1,1,0] [1,2,3,4,5,6],.code [1,1,1,1]] ⟨[(0,sT s),(2,(pt w.heap.size 0)),(3,i6 0),(5,i6 0),(23,sT (openT s))],[⟨w.heap.size,31,true,(rge_v1)⟩],[],z5⟩ ?_
 rcases Option.eq_none_or_eq_some (takeM (intsOf (openT s))) with ht | ⟨fs,ht⟩
 ·skip
  refine hcp (.tuple #[.slice none 0 0,i6 30]) 30 [sT (openT s)] (some 24) [] tI rfl (fun wx hm=>by have h:=refTake_any (openT s) (by omega) wx; rw [ht] at h; exact h) fun z7 hz7=>?_
  replace hz7:z5 ≤ z7:=hz7
  refine hgE 32 [oh0,oh0,oh0,oh0,oh0,oh0,oh0,oh0,oh1,oh1,oh1,oh1,oh0,oh0,oh0,oh1,oh3,oh1,oh0,(oA 0 0 26),oh0] [0,2,3,5,6] [tT,tT,tT,tT,tT,tT,tT] [(w.heap.size,0,26)] [.code [1,1,1,1,0,1,0,1],.code [1,1,1,1,1]] ⟨[(0,sT s),(2,(pt w.heap.size 0)),(3,i6 120),(5,i6 30),(6,.slice none 0 0)],[⟨w.heap.size,31,true,(rge_v1)⟩],[],z7⟩ ?_
  refine hrt [[⟨false,0,0,26⟩]] [.agg (List.toArray (rge_v1)),i6 120] [(w.heap.size,0,26)] ?_
  intro wx hm
  exact ⟨congrArg _ (getV_none (getL_take ho ht)),hm.kept⟩
 have hfz:=takeF_size _ _ _ ht
 obtain ⟨nn,hnn⟩:∃ nn,fs.length = nn:=⟨_,rfl⟩
 refine holds_callV (w:=w) (S':=(fun _=>False)) (Y:=Option Addr × Nat) (fun yq=>.tuple #[.slice yq.1 nn yq.2,i6 0]) (fun yq=>[⟨w.heap.size,31,true,(rge_v1)⟩]) (fun yq W_=>OwnR W_ w.heap.size 60 2 yq.1 nn yq.2 (fldV fs)) (fun yq=>[(24,.tuple #[.slice yq.1 nn yq.2,i6 0]),(0,sT s),(2,(pt w.heap.size 0)),(3,i6 0),(5,i6 0),(23,sT (openT s))]) (show _ = some (30,[sT (openT s)],some 24,[]) by kernel_rfl) tI (fun _=>rfl) (fun wx hm=>?_) (fun yq W2 hX2 hm2=>?_)
 ·have h:=refTake_any (openT s) (by omega) wx
  rw [ht] at h
  refine h.mono fun e w' ⟨A',cp',h1,h2,h3⟩=>?_
  rw [hnn] at h1 h2
  exact ⟨(A',cp'),h1,h2.below hm.kept.size,hm.offA (fun _ h=>h) h3 (fun _ h=>h.elim) (fun b _ h=>h)⟩
 obtain ⟨A,cp⟩:=yq
 replace hX2:OwnR W2 w.heap.size 60 2 A nn cp (fldV fs):=hX2
 have hcal:=hX2.calm hm2 (by simp)
 by_cases h712:nn = 7 ∨ nn = 12
 rotate_left
 ·skip
  refine hgE 32 [oh0,oh0,oh0,oh0,oh0,oh0,oh0,oh0,oh0,oh0,oh0,oh0,oh1,oh1,oh1,oh3,⟨false,3,[]⟩,oh1,oh0,(oA 0 0 26),oh0] [0,2,3,5,6] [fF,fF,fF,fF,oE (((nn:Int) != 7) = true) (bne_iff_ne.2 (by omega)),oE (((nn:Int) != 7) = true) (bne_iff_ne.2 (by omega)),oE (((nn:Int) != 7) = true) (bne_iff_ne.2 (by omega)),fF,oE (((nn:Int) != 7) = true) (bne_iff_ne.2 (by omega)),fF,oE (((nn:Int) != 12) = true) (bne_iff_ne.2 (by omega))] [(w.heap.size,0,26)] [.code [1,1,1,1,0,1,0,1],.code [1,1,1,1,1]] ⟨[(0,sT s),(2,(pt w.heap.size 0)),(3,i6 120),(5,i6 0),(6,.slice A nn cp)],[⟨w.heap.size,31,true,(rge_v1)⟩],[],W2.heap.size⟩ ?_
  refine hrt [[⟨false,0,0,26⟩]] [.agg (List.toArray (rge_v1)),i6 120] [(w.heap.size,0,26)] ?_
  intro wx hm
  exact ⟨congrArg _ (getV_none (getL_bad ho ht (fun l hl=>absurd (letterV_num hl).1 (by omega)))),(MemOk.bck hm2 hm).kept⟩
 suffices HL:Holds [] Try.prog (bodyOf Try.f13) 147 W2 (Turned [⟨w.heap.size,31,true,(rge_v1)⟩]) (rge_Q s w) [.code [1,1,1,1,1,1,0,1,0],.blk 0,.code [1,1,1,1,1,1,1]] ⟨[(0,.string s),(2,(pt w.heap.size 0)),(3,.int .i64 0),(5,.int .i64 0),(6,.slice A nn cp),(7,.slice none 0 0),(8,.int .i64 0)],[⟨w.heap.size,31,true,(rge_v1)⟩],[],W2.heap.size⟩ by
  by_cases h7:nn = 7
  ·skip
   refine hgE 37 [oh0,oh0,oh0,oh0,oh0,oh0,oh0,oh0,oh0,oh0,oh0,oh0,oh0,oh0,oh0,⟨false,3,[]⟩,⟨false,3,[]⟩,oh0,oh0,oh0] [0,2,3,5,6,7,8] [fF,fF,fF,fF,oE (((nn:Int) != 7) = false) (bne_eq_false_iff_eq.2 (by omega)),oE (((nn:Int) != 7) = false) (bne_eq_false_iff_eq.2 (by omega)),oE (((nn:Int) != 7) = false) (bne_eq_false_iff_eq.2 (by omega)),fF,oE (((nn:Int) != 7) = false) (bne_eq_false_iff_eq.2 (by omega)),fF,fF] [] [.code [1,1,1,1,1,1,0,1,0],.blk 0,.code [1,1,1,1,1,1,1]] ⟨[(0,sT s),(2,(pt w.heap.size 0)),(3,i6 0),(5,i6 0),(6,.slice A nn cp),(7,.slice none 0 0),(8,i6 0)],[⟨w.heap.size,31,true,(rge_v1)⟩],[],W2.heap.size⟩ ?_
   exact HL
  ·skip
   refine hgE 37 [oh0,oh0,oh0,oh0,oh0,oh0,oh0,oh0,oh0,oh0,oh0,oh0,oh1,oh1,oh1,oh3,⟨false,3,[]⟩,oh0,oh0,oh0] [0,2,3,5,6,7,8] [fF,fF,fF,fF,oE (((nn:Int) != 7) = true) (bne_iff_ne.2 (by omega)),oE (((nn:Int) != 7) = true) (bne_iff_ne.2 (by omega)),oE (((nn:Int) != 7) = true) (bne_iff_ne.2 (by omega)),fF,oE (((nn:Int) != 7) = true) (bne_iff_ne.2 (by omega)),fF,oE (((nn:Int) != 12) = false) (bne_eq_false_iff_eq.2 (by omega))] [] [.code [1,1,1,1,1,1,0,1,0],.blk 0,.code [1,1,1,1,1,1,1]] ⟨[(0,sT s),(2,(pt w.heap.size 0)),(3,i6 0),(5,i6 0),(6,.slice A nn cp),(7,.slice none 0 0),(8,i6 0)],[⟨w.heap.size,31,true,(rge_v1)⟩],[],W2.heap.size⟩ ?_
   exact HL
 refine holds_loopW (w:=W2) (S':=Turned [⟨w.heap.size,31,true,(rge_v1)⟩]) (RgeI s A cp w nn fs W2) (nn - 1) (by kernel_rfl) (fun W1 hm=>⟨⟨0,none,0,_,by omega,fun j h=>by omega,OwnR.nil _ _ _ _,rfl⟩,hm⟩) ?_
 rintro m _ W1 ⟨i,A2,c2,z,hmi,hgk,hO,rfl⟩ hm1 J hJ
 have hFW:=hX2.kept hm1.kept hcal
 have hbase:=Nat.le_refl W2.heap.size
 by_cases h1:i + 1 < nn
 ·skip
  obtain ⟨f,hf⟩:∃ f,fs[i]? = some f:=⟨_,List.getElem?_eq_getElem (by omega)⟩
  obtain ⟨g,hA0,_,hgl,hc1⟩:=hFW.cell (fldV_get fs i 1 f hf (by omega))
  obtain ⟨g',hA1,_,_,hc0⟩:=hFW.cell (fldV_get fs i 0 f hf (by omega))
  rw [hA0] at hA1
  simp only [Option.some.injEq,Addr.mk.injEq,and_true] at hA1
  subst hA1
  subst hA0
  have hft:tx fs i = f.text:=by unfold tx; rw [hf]; rfl
  refine holds_wins [⟨g,0 + i * 2,f.cells⟩] (fun _ x hx=>?_) ?_
  ·simp only [List.mem_singleton] at hx
   subst hx
   refine ⟨hcal g ⟨_,rfl,rfl⟩,hgl,fun j v hj=>?_⟩
   match j,hj with
   | 0,hj=>
    rw [Nat.zero_add]
    exact hc0.trans hj
   | 1,hj=>
    rw [Nat.zero_add]
    exact hc1.trans hj
   | j + 2,hj=>simp [FldM.cells] at hj
  have hfs:f.text.size ≤ 9223372036854775807:=Nat.le_trans (hfz f (List.mem_of_getElem? hf)) (by decide)
  refine hgE 23 [oh0,oh0,oh0,oh2,oh0,oh1,oh0,oh0,oh2,oh0,⟨false,0,[⟨true,0,1,1⟩]⟩] [0,2,3,5,6,7,8,52] [n64 (((nn:Int) - 1)),dT (((i:Int):Int) < ((nn:Int) - 1)),oE ((0:Int) ≤ (i:Int) ∧ (i:Int) < ((nn:Nat):Int))] [(g,0 + i * 2 + 1,1)] [.ops [1,1,1,1,1,1,0,1,0,0,1,0,0,0] [5,6,7,8,9,10],.code [1,1,1,1,1,1,0,1,0,0,1,0,0,1],.blk 1,.code rge_n1,.inv J,.blk 0,.code [1,1,1,1,1,1,1]] ⟨[(0,sT s),(2,(pt w.heap.size 0)),(3,i6 0),(5,i6 0),(6,.slice (some ⟨g,0,none⟩) nn cp),(7,.slice A2 i c2),(8,i6 (i:Int)),(52,sT f.text)],[⟨w.heap.size,31,true,(rge_v1)⟩],[⟨g,0 + i * 2,[i6 f.tag,sT f.text]⟩],W1.heap.size⟩ ?_
  rcases Bool.eq_false_or_eq_true (getOk f.text) with hk | hk
  rotate_left
  ·skip
   refine hcp (.tuple #[i6 0,i6 30]) 31 [sT f.text] (some 53) [] tI rfl (fun wx hm=>by have h:=refGet_any f.text (by omega) wx; unfold getI getE at h; rw [hk] at h; exact h) fun z16 hz16=>?_
   replace hz16:W1.heap.size ≤ z16:=hz16
   refine hgE 22 rge_n19 [0,2,3,5,6,7,8,9] [tT] [(w.heap.size,0,26)] [.code [1,1,1,1,1,1,0,1,0,0,1,0,0,1,0,1,0,1],.code [1,1,1,1,1,1,0,1,0,0,1,0,0,1,1],.blk 1,.code rge_n1,.inv J,.blk 0,.code [1,1,1,1,1,1,1]] ⟨[(0,sT s),(2,(pt w.heap.size 0)),(3,i6 120),(5,i6 0),(6,.slice (some ⟨g,0,none⟩) nn cp),(7,.slice A2 i c2),(8,i6 (i:Int)),(9,i6 0)],[⟨w.heap.size,31,true,(rge_v1)⟩],[⟨g,0 + i * 2,[i6 f.tag,sT f.text]⟩],z16⟩ ?_
   refine hrt [[⟨false,0,0,26⟩]] [.agg (List.toArray (rge_v1)),i6 120] [(w.heap.size,0,26)] ?_
   intro wx hm
   exact ⟨congrArg _ (getV_none (getL_bad ho ht (fun l hl=>by have h_:=(letterV_num hl).2.1 i (by omega); rw [hft,hk] at h_; cases h_))),(MemOk.bck hm2 (MemOk.bck hm1 hm)).kept⟩
  ·skip
   refine hcp (.tuple #[i6 (gv fs i),i6 0]) 31 [sT f.text] (some 53) [] tI rfl (fun wx hm=>by have h:=refGet_any f.text (by omega) wx; unfold getI getE at h; rw [hk,← hft] at h; rw [← hft]; exact h) fun z19 hz19=>?_
   replace hz19:W1.heap.size ≤ z19:=hz19
   refine holds_wins [] (fun _ _ h=>by cases h) ?_
   refine hgE 21 [oh0,oh0,oh0,oh0,oh0,oh0,oh0,oh0,oh0,oh0,oh0] [0,2,3,5,6,7,8,59,61] [fF] [] [.ops [1,1,1,1,1,1,0,1,0,0,1,0,0,1,1] [3,4],.blk 1,.code rge_n1,.inv J,.blk 0,.code [1,1,1,1,1,1,1]] ⟨[(0,sT s),(2,(pt w.heap.size 0)),(3,i6 0),(5,i6 0),(6,.slice (some ⟨g,0,none⟩) nn cp),(7,.slice A2 i c2),(8,i6 (i:Int)),(59,.slice A2 i c2),(61,.slice (some ⟨z19,0,none⟩) 1 1)],[⟨w.heap.size,31,true,(rge_v1)⟩,⟨z19,3,true,[i6 (gv fs i)]⟩],[],z19 + 1⟩ ?_
   refine holds_opV (w:=W2) (S':=Turned [⟨w.heap.size,31,true,(rge_v1)⟩]) (Y:=Option Addr × Nat) (dst:=(some 62)) (x:=Builtin.append_ #[67,67] 67 #[.slice A2 i c2,.slice (some ⟨z19,0,none⟩) 1 1]) (fun yq=>.slice yq.1 (i + 1) yq.2) [⟨w.heap.size,31,true,(rge_v1)⟩] (fun yq W_=>OwnR W_ W2.heap.size 3 1 yq.1 (i + 1) yq.2 ((gvs fs i) ++ [.int .i64 (gv fs i)])) (fun yq=>[(62,.slice yq.1 (i + 1) yq.2),(0,.string s),(2,(pt w.heap.size 0)),(3,.int .i64 0),(5,.int .i64 0),(6,.slice (some ⟨g,0,none⟩) nn cp),(7,.slice A2 i c2),(8,.int .i64 (i:Int)),(59,.slice A2 i c2),(61,.slice (some ⟨z19,0,none⟩) 1 1)]) (by kernel_rfl) (by kernel_rfl) (fun _=>rfl) (fun wx hm=>?_) (fun yq W41 hX41 hm41=>?_)
   ·have hO_:=(hO.kept hm.kept (hO.calm hm1 (by simp)))
    obtain ⟨A',cp',w',h1,h2,h3,_⟩:=run_appendR (P:=Try.prog) wx W2.heap.size 67 67 3 (.int .i64 0) 1 8 A2 i c2 (gvs fs i) ⟨z19,0,none⟩ 1 1 [.int .i64 (gv fs i)] (by kernel_rfl) (by kernel_rfl) (by kernel_rfl) (by decide) hO_ rfl (fun j x hj=>by rw [add_norm,Nat.zero_add]; exact (hm.at_ 1 rfl).at_ hj) (ones_all (by kernel_rfl)) (by omega) (by decide) (Nat.le_trans hbase (MemOk.bck hm1 hm).kept.size)
    refine ⟨(A',cp'),w',h1,h2,((MemOk.bck hm1 hm).sub (bk':=[⟨w.heap.size,31,true,(rge_v1)⟩]) (by simp)).offA (fun _ h=>h) h3 (fun x hx=>.inr (hO_.own x hx).1) (by intro b hb; simp at hb; subst hb; exact hO_.apart hm (List.mem_of_getElem? (i:=0) rfl) (by simp))⟩
   obtain ⟨A41,c41⟩:=yq
   replace hX41:OwnR W41 W2.heap.size 3 1 A41 (i + 1) c41 ((gvs fs i) ++ [.int .i64 (gv fs i)]):=hX41
   refine hgE 11 [oh0,oh0,oh2,oh0] [0,2,3,5,6,7,8] [n64 (((i:Int) + 1))] [] [.inv J,.blk 0,.code [1,1,1,1,1,1,1]] ⟨[(0,sT s),(2,(pt w.heap.size 0)),(3,i6 0),(5,i6 0),(6,.slice (some ⟨g,0,none⟩) nn cp),(7,.slice A41 (i + 1) c41),(8,i6 ((i:Int) + 1))],[⟨w.heap.size,31,true,(rge_v1)⟩],[],W41.heap.size⟩ ?_
   intro a_ w4 hf_ hm
   exact hJ (m - 1) _ a_ w4 (by omega) ⟨i + 1,_,_,_,by omega,fun j hj=>if hji:j = i then by rw [hji,hft]; exact hk else hgk j (by omega),by rw [gvs_snoc]; exact (hX41.kept hm.kept (hX41.calm hm41 (by simp))),rfl⟩ hf_ (MemOk.bck hm41 hm)
 ·skip
  have hi:i = nn - 1:=by omega
  obtain ⟨gn,hA2,hgnl,_⟩:=own_some hO (by omega)
  subst hA2
  have hcn:∀ j v,(gvs fs i)[j]? = some v → W1.cell? ⟨gn,j,none⟩ = some v:=fun j v hj=>by
   obtain ⟨g_,h1_,_,_,h2_⟩:=hO.cell hj
   simp only [Option.some.injEq,Addr.mk.injEq,and_true] at h1_
   rw [h1_]
   exact h2_
  have hcalN:=hO.calm hm1 (by simp) gn ⟨_,rfl,rfl⟩
  rcases h712 with rfl | rfl
  ·skip
   obtain rfl:i = 6:=by omega
   obtain ⟨f,hf⟩:∃ f,fs[6]? = some f:=⟨_,List.getElem?_eq_getElem (by omega)⟩
   obtain ⟨g,hA0,_,hgl,hc1⟩:=hFW.cell (fldV_get fs 6 1 f hf (by omega))
   obtain ⟨g',hA1,_,_,hc0⟩:=hFW.cell (fldV_get fs 6 0 f hf (by omega))
   rw [hA0] at hA1
   simp only [Option.some.injEq,Addr.mk.injEq,and_true] at hA1
   subst hA1
   subst hA0
   have hft:tx fs 6 = f.text:=by unfold tx; rw [hf]; rfl
   refine holds_wins [⟨g,13,[sT (tx fs 6)]⟩,⟨gn,0,(rge_v2 fs)⟩] (fun _ x hx=>?_) ?_
   ·simp only [List.mem_cons,List.not_mem_nil,or_false] at hx
    rcases hx with rfl | rfl
    ·refine ⟨hcal g ⟨_,rfl,rfl⟩,hgl,fun j v hj=>?_⟩
     match j,hj with
     | 0,hj=>
      rw [hft] at hj
      exact hc1.trans hj
     | j + 1,hj=>simp at hj
    ·refine ⟨hcalN,hgnl,fun j v hj=>?_⟩
     rw [Nat.zero_add]
     exact hcn j v hj
   refine hgE 26 rge_n17 [0,2,3,5,6,7,11] [fF,oE ((0:Int) ≤ 6 ∧ 6 < ((7:Nat):Int))] [(g,13,1)] [.code rge_n2,.code rge_n9] ⟨[(0,sT s),(2,(pt w.heap.size 0)),(3,i6 0),(5,i6 0),(6,.slice (some ⟨g,0,none⟩) 7 cp),(7,.slice (some ⟨gn,0,none⟩) 6 c2),(11,sT (tx fs 6))],[⟨w.heap.size,31,true,(rge_v1)⟩],[⟨g,13,[sT (tx fs 6)]⟩,⟨gn,0,(rge_v2 fs)⟩],W1.heap.size⟩ ?_
   have HZ:∀ (g24 y24:Nat),W1.heap.size ≤ g24 → W1.heap.size ≤ y24 → Holds [] Try.prog (bodyOf Try.f13) 147 W1 (Turned [⟨w.heap.size,31,true,(rge_v1)⟩]) (rge_Q s w) [.code rge_n9] ⟨[(0,.string s),(2,(pt w.heap.size 0)),(3,.int .i64 0),(5,.int .i64 0),(7,.slice (some ⟨gn,0,none⟩) 6 c2),(11,.string (tx fs 6)),(12,(pt g24 0))],(rge_b1 fs w g24),[⟨g,13,[.string (tx fs 6)]⟩,⟨gn,0,(rge_v2 fs)⟩],y24⟩:=by
    intro g24 y24 hg24 hy24
    refine hgE 11 [oh0,(oA 1 3 1),oh1] [0,2,3,5,7,11,12] [tT] [(g24,3,1)] [.code [1,1,1,1,1,1,1,1,1,0,1,0,0],.code [1,1,1,1,1,1,1,1,1,0,1,0,1],.code rge_n8] ⟨[(0,sT s),(2,(pt w.heap.size 0)),(3,i6 0),(5,i6 0),(7,.slice (some ⟨gn,0,none⟩) 6 c2),(11,sT (tx fs 6)),(12,(pt g24 0))],(rge_b1 fs w g24),[⟨g,13,[sT (tx fs 6)]⟩,⟨gn,0,(rge_v2 fs)⟩],y24⟩ ?_
    refine holds_mix (J:=1) (vs:=[.slice (some ⟨gn,0,none⟩) 6 c2,(pt gn 3),i6 (gv fs 3),.slice (some ⟨gn,0,none⟩) 6 c2,(pt gn 4),i6 (gv fs 4),.slice (some ⟨gn,0,none⟩) 6 c2,(pt gn 5),i6 (gv fs 5),.agg (List.toArray (rge_v4 fs)),(pt g24 13),.tuple #[]]) (stg:=rge_n14) [0,2,3,5,11,12] (by kernel_rfl) (by kernel_rfl) (by kernel_rfl) (rge_m28 s fs c2 g gn w g24 y24) ⟨rfl,by kernel_rfl,by kernel_rfl⟩ ⟨tI,⟨⟨by omega,by omega⟩,tI⟩,tI,tI,⟨⟨by omega,by omega⟩,tI⟩,tI,tI,⟨⟨by omega,by omega⟩,tI⟩,tI,tI,tI,tI,tI⟩ rfl rfl (by kernel_rfl:_ = [(0,sT s),(2,(pt w.heap.size 0)),(3,i6 0),(5,i6 0),(11,sT (tx fs 6)),(12,(pt g24 0))]) ?_
    refine hgE 8 [oh0,oh0] [0,2,3,5,11,12,97] [] [] [.code [1,1,1,1,1,1,1,1,1,0,1,0,1,1],.code rge_n8] ⟨[(0,sT s),(2,(pt w.heap.size 0)),(3,i6 0),(5,i6 0),(11,sT (tx fs 6)),(12,(pt g24 0)),(97,.bool (!(ByteArray.toList (tx fs 6) == ByteArray.toList ⟨#[]⟩)))],(rge_b2 fs w g24),[⟨g,13,[sT (tx fs 6)]⟩,⟨gn,0,(rge_v2 fs)⟩],y24⟩ ?_
    by_cases h6:(tx fs 6).size = 0
    ·skip
     obtain ⟨y,hy⟩:∃ y:LetM,y = ⟨gv fs 0,gv fs 1,gv fs 2,true,zeroQ,⟨gv fs 3,gv fs 4,gv fs 5,blankR 0⟩⟩:=⟨_,rfl⟩
     have hyl:letter7 fs = y:=by rw [hy]; unfold letter7 rc7; rw [decide_eq_true h6]; rfl
     have hbad:(rightL y && ((putT y).toList == s.toList)) = false → getL s = none:=fun h_=>getL_bad ho ht (fun l hl=>by rw [(letterV_num hl).2.2,if_pos hnn,hyl]; exact h_)
     refine hgE 8 [oh0,(oA 1 0 26)] [0,2,3,5,12,134] [oE ((!(ByteArray.toList (tx fs 6) == ByteArray.toList ⟨#[]⟩)) = false) (by rw [show (ByteArray.toList (tx fs 6) == ByteArray.toList ⟨#[]⟩) = true from by rw [empty_text]; exact decide_eq_true h6]; rfl)] [(g24,0,26)] [.ops rge_n3 [1,2,3,4,5,6],.code rge_n7] ⟨[(0,sT s),(2,(pt w.heap.size 0)),(3,i6 0),(5,i6 0),(12,(pt g24 0)),(134,.agg (List.toArray (rge_v5 fs)))],(rge_b2 fs w g24),[⟨g,13,[sT (tx fs 6)]⟩,⟨gn,0,(rge_v2 fs)⟩],y24⟩ ?_
     rcases Bool.eq_false_or_eq_true (rightL y) with hr | hr
     rotate_left
     ·skip
      refine hcp (.tuple #[sT ⟨#[]⟩,i6 120]) 11 [.agg (List.toArray (rge_v5 fs))] (some 135) [] tI rfl (fun wx hm=>by have h:=refPut_any y wx; unfold putT putE at h; rw [hr] at h; rw [hy] at h; exact h) fun z31 hz31=>?_
      replace hz31:y24 ≤ z31:=hz31
      refine hgE 27 rge_n18 [2,3,12] [tT,tT,tT,tT,tT] [(w.heap.size,0,26)] [.code rge_n4,.code rge_n6] ⟨[(2,(pt w.heap.size 0)),(3,i6 120),(12,(pt g24 0))],(rge_b2 fs w g24),[⟨g,13,[sT (tx fs 6)]⟩,⟨gn,0,(rge_v2 fs)⟩],z31⟩ ?_
      refine hrt [[⟨false,0,0,26⟩]] [.agg (List.toArray (rge_v1)),i6 120] [(w.heap.size,0,26)] ?_
      intro wx hm
      exact ⟨congrArg _ (getV_none (hbad (by rw [hr]; rfl))),(MemOk.bck hm2 (MemOk.bck hm1 hm)).kept⟩
     ·skip
      refine hcp (.tuple #[sT (putT y),i6 0]) 11 [.agg (List.toArray (rge_v5 fs))] (some 135) [] tI rfl (fun wx hm=>by have h:=refPut_any y wx; unfold putE at h; rw [hr] at h; rw [hy] at h ⊢; exact h) fun z34 hz34=>?_
      replace hz34:y24 ≤ z34:=hz34
      rcases Bool.eq_false_or_eq_true (ByteArray.toList (putT y) == ByteArray.toList s) with he | he
      ·skip
       refine hgE 28 rge_n15 [2,3] [fF,fF,fF,fF,eD (nF he)] [(g24,0,26),(w.heap.size,0,26)] [.code rge_n5] ⟨[(2,(pt w.heap.size 0)),(3,i6 0)],[⟨w.heap.size,31,true,(rge_v5 fs)⟩,⟨g24,31,true,(rge_v5 fs)⟩],[⟨g,13,[sT (tx fs 6)]⟩,⟨gn,0,(rge_v2 fs)⟩],z34⟩ ?_
       refine hrt [[⟨false,0,0,26⟩]] [.agg (List.toArray (rge_v5 fs)),i6 0] [(w.heap.size,0,26)] ?_
       intro wx hm
       have hgs:getL s = some y:=by
        have h_:=get_put hr
        rw [toList_beq,decide_eq_true_eq] at he
        rwa [he] at h_
       refine ⟨?_,(MemOk.bck hm2 (MemOk.bck hm1 hm)).kept⟩
       rw [← getV_some hgs,hy]
       rfl
      ·skip
       refine hgE 27 rge_n16 [2,3,12] [fF,fF,fF,fF,eD (nT he)] [(w.heap.size,0,26)] [.code rge_n4,.code rge_n6] ⟨[(2,(pt w.heap.size 0)),(3,i6 120),(12,(pt g24 0))],(rge_b2 fs w g24),[⟨g,13,[sT (tx fs 6)]⟩,⟨gn,0,(rge_v2 fs)⟩],z34⟩ ?_
       refine hrt [[⟨false,0,0,26⟩]] [.agg (List.toArray (rge_v1)),i6 120] [(w.heap.size,0,26)] ?_
       intro wx hm
       exact ⟨congrArg _ (getV_none (hbad (by rw [hr,show ((putT y).toList == s.toList) = false from he]; rfl))),(MemOk.bck hm2 (MemOk.bck hm1 hm)).kept⟩
    ·skip
     obtain ⟨u,hu⟩:∃ u,unpackR 0 (tx fs 6) = u:=⟨_,rfl⟩
     refine hgE 6 [oh1,oh0] [0,2,3,5,12,99] [oE ((!(ByteArray.toList (tx fs 6) == ByteArray.toList ⟨#[]⟩)) = true) (by rw [show (ByteArray.toList (tx fs 6) == ByteArray.toList ⟨#[]⟩) = false from by rw [empty_text]; exact decide_eq_false h6]; rfl)] [] [.ops [1,1,1,1,1,1,1,1,1,0,1,0,1,1,0] [1,2,3,4,5,6,7],.code rge_n8] ⟨[(0,sT s),(2,(pt w.heap.size 0)),(3,i6 0),(5,i6 0),(12,(pt g24 0)),(99,sT (tx fs 6))],(rge_b2 fs w g24),[⟨g,13,[sT (tx fs 6)]⟩,⟨gn,0,(rge_v2 fs)⟩],y24⟩ ?_
     refine hcp (.tuple #[.agg #[.bool u.used,i6 u.fence,i6 u.de,i6 u.ds,sT u.block,.bool u.op,i6 u.ie,i6 u.is,i6 u.mask,sT u.staged],i6 (unpackE 0 (tx fs 6))]) 32 [i6 0,sT (tx fs 6)] (some 100) [] tI rfl (fun wx hm=>by have h:=refUnpack_any 0 (tx fs 6) wx; rw [hu] at h; exact h) fun z40 hz40=>?_
     replace hz40:y24 ≤ z40:=hz40
     obtain ⟨y,hy⟩:∃ y:LetM,y = ⟨gv fs 0,gv fs 1,gv fs 2,true,zeroQ,⟨gv fs 3,gv fs 4,gv fs 5,u⟩⟩:=⟨_,rfl⟩
     have hyl:letter7 fs = y:=by rw [hy]; unfold letter7 rc7; rw [decide_eq_false h6,hu]; rfl
     have hbad:(rightL y && ((putT y).toList == s.toList)) = false → getL s = none:=fun h_=>getL_bad ho ht (fun l hl=>by rw [(letterV_num hl).2.2,if_pos hnn,hyl]; exact h_)
     refine hgE 13 [oh0,oh0,oh0,oh0,oh0,(oA 1 16 10),(oA 1 0 26)] [0,2,3,5,12,134] [] [(g24,16,10),(g24,0,26)] [.ops rge_n3 [1,2,3,4,5,6],.code rge_n7] ⟨[(0,sT s),(2,(pt w.heap.size 0)),(3,i6 0),(5,i6 0),(12,(pt g24 0)),(134,.agg (List.toArray (rge_v10 fs u)))],(rge_b5 fs u w g24),[⟨g,13,[sT (tx fs 6)]⟩,⟨gn,0,(rge_v2 fs)⟩],z40⟩ ?_
     rcases Bool.eq_false_or_eq_true (rightL y) with hr | hr
     rotate_left
     ·skip
      refine hcp (.tuple #[sT ⟨#[]⟩,i6 120]) 11 [.agg (List.toArray (rge_v10 fs u))] (some 135) [] tI rfl (fun wx hm=>by have h:=refPut_any y wx; unfold putT putE at h; rw [hr] at h; rw [hy] at h; exact h) fun z42 hz42=>?_
      replace hz42:z40 ≤ z42:=hz42
      refine hgE 27 rge_n18 [2,3,12] [tT,tT,tT,tT,tT] [(w.heap.size,0,26)] [.code rge_n4,.code rge_n6] ⟨[(2,(pt w.heap.size 0)),(3,i6 120),(12,(pt g24 0))],(rge_b5 fs u w g24),[⟨g,13,[sT (tx fs 6)]⟩,⟨gn,0,(rge_v2 fs)⟩],z42⟩ ?_
      refine hrt [[⟨false,0,0,26⟩]] [.agg (List.toArray (rge_v1)),i6 120] [(w.heap.size,0,26)] ?_
      intro wx hm
      exact ⟨congrArg _ (getV_none (hbad (by rw [hr]; rfl))),(MemOk.bck hm2 (MemOk.bck hm1 hm)).kept⟩
     ·skip
      refine hcp (.tuple #[sT (putT y),i6 0]) 11 [.agg (List.toArray (rge_v10 fs u))] (some 135) [] tI rfl (fun wx hm=>by have h:=refPut_any y wx; unfold putE at h; rw [hr] at h; rw [hy] at h ⊢; exact h) fun z45 hz45=>?_
      replace hz45:z40 ≤ z45:=hz45
      rcases Bool.eq_false_or_eq_true (ByteArray.toList (putT y) == ByteArray.toList s) with he | he
      ·skip
       refine hgE 28 rge_n15 [2,3] [fF,fF,fF,fF,eD (nF he)] [(g24,0,26),(w.heap.size,0,26)] [.code rge_n5] ⟨[(2,(pt w.heap.size 0)),(3,i6 0)],[⟨w.heap.size,31,true,(rge_v10 fs u)⟩,⟨g24,31,true,(rge_v10 fs u)⟩],[⟨g,13,[sT (tx fs 6)]⟩,⟨gn,0,(rge_v2 fs)⟩],z45⟩ ?_
       refine hrt [[⟨false,0,0,26⟩]] [.agg (List.toArray (rge_v10 fs u)),i6 0] [(w.heap.size,0,26)] ?_
       intro wx hm
       have hgs:getL s = some y:=by
        have h_:=get_put hr
        rw [toList_beq,decide_eq_true_eq] at he
        rwa [he] at h_
       refine ⟨?_,(MemOk.bck hm2 (MemOk.bck hm1 hm)).kept⟩
       rw [← getV_some hgs,hy]
       rfl
      ·skip
       refine hgE 27 rge_n16 [2,3,12] [fF,fF,fF,fF,eD (nT he)] [(w.heap.size,0,26)] [.code rge_n4,.code rge_n6] ⟨[(2,(pt w.heap.size 0)),(3,i6 120),(12,(pt g24 0))],(rge_b5 fs u w g24),[⟨g,13,[sT (tx fs 6)]⟩,⟨gn,0,(rge_v2 fs)⟩],z45⟩ ?_
       refine hrt [[⟨false,0,0,26⟩]] [.agg (List.toArray (rge_v1)),i6 120] [(w.heap.size,0,26)] ?_
       intro wx hm
       exact ⟨congrArg _ (getV_none (hbad (by rw [hr,show ((putT y).toList == s.toList) = false from he]; rfl))),(MemOk.bck hm2 (MemOk.bck hm1 hm)).kept⟩
   have H1:∀ (g24 y24:Nat),W1.heap.size ≤ g24 → W1.heap.size ≤ y24 → Holds [] Try.prog (bodyOf Try.f13) 147 W1 (Turned [⟨w.heap.size,31,true,(rge_v1)⟩]) (rge_Q s w) (.any rge_n2 1 rge_n11 :: [.code rge_n9]) ⟨[(12,(pt g24 0)),(0,.string s),(2,(pt w.heap.size 0)),(3,.int .i64 0),(5,.int .i64 0),(7,.slice (some ⟨gn,0,none⟩) 6 c2),(11,.string (tx fs 6)),(82,.agg (List.toArray (rge_v3 fs)))],[⟨w.heap.size,31,true,(rge_v1)⟩,⟨g24,31,true,(rge_v1)⟩],[⟨g,13,[.string (tx fs 6)]⟩,⟨gn,0,(rge_v2 fs)⟩],y24⟩:=by
    intro g24 y24 hg24 hy24
    refine holds_tail panicOk_body _ _ (rge_t25 s fs c2 g gn w g24 y24) trivial ?_
    refine holds_done (by kernel_rfl) ?_
    exact HZ g24 _ (by omega) (by omega)
   refine holds_float (fl:=13) (t:=31) (d:=12) (cs:=(rge_v1)) (ls0:=rge_n10) (ls1:=rge_n11) (f:=1) 13 _ _ (by kernel_rfl) (by kernel_rfl) (by kernel_rfl) (by kernel_rfl) (by decide) (by kernel_rfl) (by kernel_rfl) (by kernel_rfl) (rge_q24 s fs cp c2 g gn w W1) ⟨⟨by omega,by omega⟩,⟨by omega,by omega⟩,⟨by omega,by omega⟩,trivial⟩ H1 ?_
   intro y24 hy24
   replace hy24:W1.heap.size ≤ y24:=hy24
   refine holds_tail panicOk_body _ _ (rge_t26 s fs c2 g gn w y24) trivial ?_
   refine holds_done (by kernel_rfl) ?_
   exact HZ _ _ (by omega) (by omega)
  ·skip
   obtain rfl:i = 11:=by omega
   obtain ⟨f,hf⟩:∃ f,fs[11]? = some f:=⟨_,List.getElem?_eq_getElem (by omega)⟩
   obtain ⟨g,hA0,_,hgl,hc1⟩:=hFW.cell (fldV_get fs 11 1 f hf (by omega))
   obtain ⟨g',hA1,_,_,hc0⟩:=hFW.cell (fldV_get fs 11 0 f hf (by omega))
   rw [hA0] at hA1
   simp only [Option.some.injEq,Addr.mk.injEq,and_true] at hA1
   subst hA1
   subst hA0
   have hft:tx fs 11 = f.text:=by unfold tx; rw [hf]; rfl
   refine holds_wins [⟨g,23,[sT (tx fs 11)]⟩,⟨gn,0,(rge_v6 fs)⟩] (fun _ x hx=>?_) ?_
   ·simp only [List.mem_cons,List.not_mem_nil,or_false] at hx
    rcases hx with rfl | rfl
    ·refine ⟨hcal g ⟨_,rfl,rfl⟩,hgl,fun j v hj=>?_⟩
     match j,hj with
     | 0,hj=>
      rw [hft] at hj
      exact hc1.trans hj
     | j + 1,hj=>simp at hj
    ·refine ⟨hcalN,hgnl,fun j v hj=>?_⟩
     rw [Nat.zero_add]
     exact hcn j v hj
   refine hgE 26 rge_n17 [0,2,3,5,6,7,11] [fF,oE ((0:Int) ≤ 11 ∧ 11 < ((12:Nat):Int))] [(g,23,1)] [.code rge_n2,.code rge_n9] ⟨[(0,sT s),(2,(pt w.heap.size 0)),(3,i6 0),(5,i6 0),(6,.slice (some ⟨g,0,none⟩) 12 cp),(7,.slice (some ⟨gn,0,none⟩) 11 c2),(11,sT (tx fs 11))],[⟨w.heap.size,31,true,(rge_v1)⟩],[⟨g,23,[sT (tx fs 11)]⟩,⟨gn,0,(rge_v6 fs)⟩],W1.heap.size⟩ ?_
   have HZ:∀ (g51 y51:Nat),W1.heap.size ≤ g51 → W1.heap.size ≤ y51 → Holds [] Try.prog (bodyOf Try.f13) 147 W1 (Turned [⟨w.heap.size,31,true,(rge_v1)⟩]) (rge_Q s w) [.code rge_n9] ⟨[(0,.string s),(2,(pt w.heap.size 0)),(3,.int .i64 0),(5,.int .i64 0),(7,.slice (some ⟨gn,0,none⟩) 11 c2),(11,.string (tx fs 11)),(12,(pt g51 0))],(rge_b3 fs w g51),[⟨g,23,[.string (tx fs 11)]⟩,⟨gn,0,(rge_v6 fs)⟩],y51⟩:=by
    intro g51 y51 hg51 hy51
    refine hgE 10 [oh0,(oA 1 3 1),oh0] [0,2,3,5,7,11,12] [fF] [(g51,3,1)] [.code [1,1,1,1,1,1,1,1,1,0,1,1],.code rge_n8] ⟨[(0,sT s),(2,(pt w.heap.size 0)),(3,i6 0),(5,i6 0),(7,.slice (some ⟨gn,0,none⟩) 11 c2),(11,sT (tx fs 11)),(12,(pt g51 0))],(rge_b3 fs w g51),[⟨g,23,[sT (tx fs 11)]⟩,⟨gn,0,(rge_v6 fs)⟩],y51⟩ ?_
    refine holds_mix (J:=1) (vs:=[.slice (some ⟨gn,0,none⟩) 11 c2,(pt gn 3),i6 (gv fs 3),.slice (some ⟨gn,0,none⟩) 11 c2,(pt gn 4),i6 (gv fs 4),.slice (some ⟨gn,0,none⟩) 11 c2,(pt gn 5),i6 (gv fs 5),.slice (some ⟨gn,0,none⟩) 11 c2,(pt gn 6),i6 (gv fs 6),.slice (some ⟨gn,0,none⟩) 11 c2,(pt gn 7),i6 (gv fs 7),.slice (some ⟨gn,0,none⟩) 11 c2,(pt gn 8),i6 (gv fs 8),.slice (some ⟨gn,0,none⟩) 11 c2,(pt gn 9),i6 (gv fs 9),.slice (some ⟨gn,0,none⟩) 11 c2,(pt gn 10),i6 (gv fs 10),.agg #[i6 (gv fs 9),i6 (gv fs 10)],sT (tx fs 11),.agg (List.toArray (rge_v8 fs)),(pt g51 4),.tuple #[]]) (stg:=rge_n13) [0,2,3,5,12] (by kernel_rfl) (by kernel_rfl) (by kernel_rfl) (rge_m55 s fs c2 g gn w g51 y51) ⟨rfl,by kernel_rfl,by kernel_rfl⟩ ⟨tI,⟨⟨by omega,by omega⟩,tI⟩,tI,tI,⟨⟨by omega,by omega⟩,tI⟩,tI,tI,⟨⟨by omega,by omega⟩,tI⟩,tI,tI,⟨⟨by omega,by omega⟩,tI⟩,tI,tI,⟨⟨by omega,by omega⟩,tI⟩,tI,tI,⟨⟨by omega,by omega⟩,tI⟩,tI,tI,⟨⟨by omega,by omega⟩,tI⟩,tI,tI,⟨⟨by omega,by omega⟩,tI⟩,tI,tI,tI,tI,tI,tI,tI⟩ rfl rfl (by kernel_rfl:_ = [(0,sT s),(2,(pt w.heap.size 0)),(3,i6 0),(5,i6 0),(12,(pt g51 0))]) ?_
    obtain ⟨y,hy⟩:∃ y:LetM,y = ⟨gv fs 0,gv fs 1,gv fs 2,false,⟨gv fs 3,gv fs 4,gv fs 5,gv fs 6,gv fs 7,gv fs 8,gv fs 9,gv fs 10,tx fs 11⟩,zeroS⟩:=⟨_,rfl⟩
    have hyl:letter12 fs = y:=by rw [hy]; rfl
    have hbad:(rightL y && ((putT y).toList == s.toList)) = false → getL s = none:=fun h_=>getL_bad ho ht (fun l hl=>by rw [(letterV_num hl).2.2,if_neg (by omega),hyl]; exact h_)
    refine hgE 6 [(oA 1 0 26)] [0,2,3,5,12,134] [] [(g51,0,26)] [.ops rge_n3 [1,2,3,4,5,6],.code rge_n7] ⟨[(0,sT s),(2,(pt w.heap.size 0)),(3,i6 0),(5,i6 0),(12,(pt g51 0)),(134,.agg (List.toArray (rge_v9 fs)))],(rge_b4 fs w g51),[⟨g,23,[sT (tx fs 11)]⟩,⟨gn,0,(rge_v6 fs)⟩],y51⟩ ?_
    rcases Bool.eq_false_or_eq_true (rightL y) with hr | hr
    rotate_left
    ·skip
     refine hcp (.tuple #[sT ⟨#[]⟩,i6 120]) 11 [.agg (List.toArray (rge_v9 fs))] (some 135) [] tI rfl (fun wx hm=>by have h:=refPut_any y wx; unfold putT putE at h; rw [hr] at h; rw [hy] at h; exact h) fun z57 hz57=>?_
     replace hz57:y51 ≤ z57:=hz57
     refine hgE 27 rge_n18 [2,3,12] [tT,tT,tT,tT,tT] [(w.heap.size,0,26)] [.code rge_n4,.code rge_n6] ⟨[(2,(pt w.heap.size 0)),(3,i6 120),(12,(pt g51 0))],(rge_b4 fs w g51),[⟨g,23,[sT (tx fs 11)]⟩,⟨gn,0,(rge_v6 fs)⟩],z57⟩ ?_
     refine hrt [[⟨false,0,0,26⟩]] [.agg (List.toArray (rge_v1)),i6 120] [(w.heap.size,0,26)] ?_
     intro wx hm
     exact ⟨congrArg _ (getV_none (hbad (by rw [hr]; rfl))),(MemOk.bck hm2 (MemOk.bck hm1 hm)).kept⟩
    ·skip
     refine hcp (.tuple #[sT (putT y),i6 0]) 11 [.agg (List.toArray (rge_v9 fs))] (some 135) [] tI rfl (fun wx hm=>by have h:=refPut_any y wx; unfold putE at h; rw [hr] at h; rw [hy] at h ⊢; exact h) fun z60 hz60=>?_
     replace hz60:y51 ≤ z60:=hz60
     rcases Bool.eq_false_or_eq_true (ByteArray.toList (putT y) == ByteArray.toList s) with he | he
     ·skip
      refine hgE 28 rge_n15 [2,3] [fF,fF,fF,fF,eD (nF he)] [(g51,0,26),(w.heap.size,0,26)] [.code rge_n5] ⟨[(2,(pt w.heap.size 0)),(3,i6 0)],[⟨w.heap.size,31,true,(rge_v9 fs)⟩,⟨g51,31,true,(rge_v9 fs)⟩],[⟨g,23,[sT (tx fs 11)]⟩,⟨gn,0,(rge_v6 fs)⟩],z60⟩ ?_
      refine hrt [[⟨false,0,0,26⟩]] [.agg (List.toArray (rge_v9 fs)),i6 0] [(w.heap.size,0,26)] ?_
      intro wx hm
      have hgs:getL s = some y:=by
       have h_:=get_put hr
       rw [toList_beq,decide_eq_true_eq] at he
       rwa [he] at h_
      refine ⟨?_,(MemOk.bck hm2 (MemOk.bck hm1 hm)).kept⟩
      rw [← getV_some hgs,hy]
      rfl
     ·skip
      refine hgE 27 rge_n16 [2,3,12] [fF,fF,fF,fF,eD (nT he)] [(w.heap.size,0,26)] [.code rge_n4,.code rge_n6] ⟨[(2,(pt w.heap.size 0)),(3,i6 120),(12,(pt g51 0))],(rge_b4 fs w g51),[⟨g,23,[sT (tx fs 11)]⟩,⟨gn,0,(rge_v6 fs)⟩],z60⟩ ?_
      refine hrt [[⟨false,0,0,26⟩]] [.agg (List.toArray (rge_v1)),i6 120] [(w.heap.size,0,26)] ?_
      intro wx hm
      exact ⟨congrArg _ (getV_none (hbad (by rw [hr,show ((putT y).toList == s.toList) = false from he]; rfl))),(MemOk.bck hm2 (MemOk.bck hm1 hm)).kept⟩
   have H1:∀ (g51 y51:Nat),W1.heap.size ≤ g51 → W1.heap.size ≤ y51 → Holds [] Try.prog (bodyOf Try.f13) 147 W1 (Turned [⟨w.heap.size,31,true,(rge_v1)⟩]) (rge_Q s w) (.any rge_n2 1 rge_n11 :: [.code rge_n9]) ⟨[(12,(pt g51 0)),(0,.string s),(2,(pt w.heap.size 0)),(3,.int .i64 0),(5,.int .i64 0),(7,.slice (some ⟨gn,0,none⟩) 11 c2),(11,.string (tx fs 11)),(82,.agg (List.toArray (rge_v7 fs)))],[⟨w.heap.size,31,true,(rge_v1)⟩,⟨g51,31,true,(rge_v1)⟩],[⟨g,23,[.string (tx fs 11)]⟩,⟨gn,0,(rge_v6 fs)⟩],y51⟩:=by
    intro g51 y51 hg51 hy51
    refine holds_tail panicOk_body _ _ (rge_t52 s fs c2 g gn w g51 y51) trivial ?_
    refine holds_done (by kernel_rfl) ?_
    exact HZ g51 _ (by omega) (by omega)
   refine holds_float (fl:=13) (t:=31) (d:=12) (cs:=(rge_v1)) (ls0:=rge_n10) (ls1:=rge_n11) (f:=1) 13 _ _ (by kernel_rfl) (by kernel_rfl) (by kernel_rfl) (by kernel_rfl) (by decide) (by kernel_rfl) (by kernel_rfl) (by kernel_rfl) (rge_q51 s fs cp c2 g gn w W1) ⟨⟨by omega,by omega⟩,⟨by omega,by omega⟩,⟨by omega,by omega⟩,trivial⟩ H1 ?_
   intro y51 hy51
   replace hy51:W1.heap.size ≤ y51:=hy51
   refine holds_tail panicOk_body _ _ (rge_t53 s fs c2 g gn w y51) trivial ?_
   refine holds_done (by kernel_rfl) ?_
   exact HZ _ _ (by omega) (by omega)
end Go.Proofs.Ytkffgdfbdmgncaa
