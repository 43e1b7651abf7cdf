import Derived.Test.YtpilmccjjbgmiaaPack8
import Derived.Test.YtpilmccjjbgmiaaCrcM
namespace Go.Proofs.Ytpilmccjjbgmiaa
open Go.RowKit
theorem takeR_cells {s:ByteArray} {u v:Bool} (hu:usedS s = u) (hv:openS s = v):(takeR s).cells = [.bool (usedS s),.int .i64 (numAt s 3),.int .i64 (numAt s 6),.int .i64 (numAt s 9),.string (bif u then s.extract 19 35 else noText),.bool (openS s),.int .i64 (numAt s 12),.int .i64 (numAt s 15),.int .i64 (byteAt s 18),.string (bif v then s.extract 35 51 else noText)]:=by
 subst hu hv
 rfl
theorem pack_cells (st:Int) (r:RecM) {cs:List Value} (h:r.cells = cs) (w:World):Calls Try.prog 12 #[.int .i64 st,.agg cs.toArray] w (RetK (.tuple #[.string (packT st r),.int .i64 (packE st r)]) w):=by
 subst h
 exact pack_any st r w
theorem numOff_is (x:Nat):numOff x = 1 ∨ numOff x = 2 ∨ numOff x = 3 ∨ numOff x = 6 ∨ numOff x = 7:=by
 match x with
 | 0=>exact .inl rfl
 | 1=>exact .inr (.inl rfl)
 | 2=>exact .inr (.inr (.inl rfl))
 | 3=>exact .inr (.inr (.inr (.inl rfl)))
 | _ + 4=>exact .inr (.inr (.inr (.inr rfl)))
theorem used_eq (s:ByteArray):(andZ (byteAt s 2) 1 != 0) = usedS s:=by
 have h:=byteAt_bd s 2
 rw [and_one h]
 unfold usedS
 rcases (by omega:byteAt s 2 % 2 = 0 ∨ byteAt s 2 % 2 = 1) with e | e <;> rw [e] <;> rfl
theorem open_eq (s:ByteArray):(andZ (byteAt s 2) 2 != 0) = openS s:=by
 have h:=byteAt_bd s 2
 rw [and_two h]
 unfold openS
 rcases (by omega:byteAt s 2 / 2 % 2 = 0 ∨ byteAt s 2 / 2 % 2 = 1) with e | e <;> rw [e] <;> rfl
theorem or_two {a b:Int} (ha:0 ≤ a ∧ a ≤ 255) (hb:0 ≤ b ∧ b ≤ 255):0 ≤ orZ a (b * 256) ∧ orZ a (b * 256) ≤ 65535:=by
 have h:=or_three ha hb (c:=0) ⟨by decide,by decide⟩
 have e:orZ (orZ a (b * 256)) (0 * 65536) = orZ a (b * 256):=by
  unfold orZ
  simp
 rw [e] at h
 omega
theorem num_or (s:ByteArray) (k:Nat):orZ (orZ (byteAt s (Int.toNat (k:Int))) (byteAt s (Int.toNat ((k:Int) + 1)) * 256)) (byteAt s (Int.toNat ((k:Int) + 2)) * 65536) = numAt s k:=by
 rw [or_three (byteAt_bd _ _) (byteAt_bd _ _) (byteAt_bd _ _)]
 rfl
def nvL (s:ByteArray) (o:Nat):List Nat → Int
 | []=>0
 | x :: l=>if numOff x = o then numAt s (3 + 3 * l.length) else nvL s o l
def nv (s:ByteArray) (pre:List Nat) (o:Nat):Int:=nvL s o pre.reverse
theorem nv_at {s:ByteArray} {pre:List Nat} {x o:Nat} (h:numOff x = o):nv s (pre ++ [x]) o = numAt s (3 + 3 * pre.length):=by
 simp [nv,nvL,h]
theorem nv_ne {s:ByteArray} {pre:List Nat} {x o:Nat} (h:¬ numOff x = o):nv s (pre ++ [x]) o = nv s pre o:=by
 simp [nv,nvL,h]
def unpBk (w:World) (g13:Nat) (y13:Nat) (s:ByteArray) (pre:List Nat):List Bk:=[⟨w.heap.size,9,true,[sT s]⟩,⟨w.heap.size + 1,25,true,[.bool false,i6 0,i6 0,i6 0,sT ⟨#[]⟩,.bool false,i6 0,i6 0,i6 0,sT ⟨#[]⟩]⟩,⟨g13,25,true,[.bool (usedS s),i6 (nv s pre 1),i6 (nv s pre 2),i6 (nv s pre 3),sT ⟨#[]⟩,.bool (openS s),i6 (nv s pre 6),i6 (nv s pre 7),i6 (byteAt s 18),sT ⟨#[]⟩]⟩,⟨y13,3,true,[i6 ((3 + 3 * pre.length:Nat):Int)]⟩,⟨y13 + 1,79,false,[.pointer (some ⟨g13,0,none⟩)]⟩]
def un_v1:List Value:=[.bool false] ++ rp 3 (.int .i64 0) ++ [.string ⟨#[]⟩,.bool false] ++ rp 3 (.int .i64 0) ++ [.string ⟨#[]⟩]
def un_v2 (s:ByteArray):List Value:=[.bool ((andZ (byteAt s 2) 1) != 0),i6 0,i6 0,i6 0,sT ⟨#[]⟩,.bool ((andZ (byteAt s 2) 2) != 0),i6 0,i6 0,i6 (byteAt s 18),sT ⟨#[]⟩]
def un_v3 (s:ByteArray) (k:Nat) (g13:Nat):List Value:=[(pt g13 1),sT s,i6 (k:Int),u6 (byteAt s (Int.toNat (k:Int))),i6 (byteAt s (Int.toNat (k:Int))),sT s,i6 (k:Int),i6 ((k:Int) + 1),u6 (byteAt s (Int.toNat ((k:Int) + 1))),i6 (byteAt s (Int.toNat ((k:Int) + 1))),i6 ((byteAt s (Int.toNat ((k:Int) + 1))) * 256),i6 (orZ (byteAt s (Int.toNat (k:Int))) ((byteAt s (Int.toNat ((k:Int) + 1))) * 256)),sT s,i6 (k:Int),i6 ((k:Int) + 2),u6 (byteAt s (Int.toNat ((k:Int) + 2))),i6 (byteAt s (Int.toNat ((k:Int) + 2))),i6 ((byteAt s (Int.toNat ((k:Int) + 2))) * 65536),i6 (orZ (orZ (byteAt s (Int.toNat (k:Int))) ((byteAt s (Int.toNat ((k:Int) + 1))) * 256)) ((byteAt s (Int.toNat ((k:Int) + 2))) * 65536)),(pt g13 1),.tuple #[]]
def un_v4 (s:ByteArray) (pre:List Nat):List Value:=[.bool (usedS s),i6 (nv s pre 1),i6 (nv s pre 2),i6 (nv s pre 3),sT ⟨#[]⟩,.bool (openS s),i6 (nv s pre 6),i6 (nv s pre 7),i6 (byteAt s 18),sT ⟨#[]⟩]
def un_v5 (s:ByteArray) (pre:List Nat) (k:Nat):List Value:=((un_v4 s pre).set 1 (i6 (orZ (orZ (byteAt s (Int.toNat (k:Int))) ((byteAt s (Int.toNat ((k:Int) + 1))) * 256)) ((byteAt s (Int.toNat ((k:Int) + 2))) * 65536))))
def un_v6 (s:ByteArray) (k:Nat) (g13:Nat):List Value:=(((un_v3 s k g13).set 0 ((pt g13 2))).set 19 ((pt g13 2)))
def un_v7 (s:ByteArray) (pre:List Nat) (k:Nat):List Value:=((un_v4 s pre).set 2 (i6 (orZ (orZ (byteAt s (Int.toNat (k:Int))) ((byteAt s (Int.toNat ((k:Int) + 1))) * 256)) ((byteAt s (Int.toNat ((k:Int) + 2))) * 65536))))
def un_v8 (s:ByteArray) (k:Nat) (g13:Nat):List Value:=(((un_v3 s k g13).set 0 ((pt g13 3))).set 19 ((pt g13 3)))
def un_v9 (s:ByteArray) (pre:List Nat) (k:Nat):List Value:=((un_v4 s pre).set 3 (i6 (orZ (orZ (byteAt s (Int.toNat (k:Int))) ((byteAt s (Int.toNat ((k:Int) + 1))) * 256)) ((byteAt s (Int.toNat ((k:Int) + 2))) * 65536))))
def un_v10 (s:ByteArray) (k:Nat) (g13:Nat):List Value:=(((un_v3 s k g13).set 0 ((pt g13 6))).set 19 ((pt g13 6)))
def un_v11 (s:ByteArray) (pre:List Nat) (k:Nat):List Value:=((un_v4 s pre).set 6 (i6 (orZ (orZ (byteAt s (Int.toNat (k:Int))) ((byteAt s (Int.toNat ((k:Int) + 1))) * 256)) ((byteAt s (Int.toNat ((k:Int) + 2))) * 65536))))
def un_v12 (s:ByteArray) (k:Nat) (g13:Nat):List Value:=(((un_v3 s k g13).set 0 ((pt g13 7))).set 19 ((pt g13 7)))
def un_v13 (s:ByteArray) (pre:List Nat) (k:Nat):List Value:=((un_v4 s pre).set 7 (i6 (orZ (orZ (byteAt s (Int.toNat (k:Int))) ((byteAt s (Int.toNat ((k:Int) + 1))) * 256)) ((byteAt s (Int.toNat ((k:Int) + 2))) * 65536))))
def un_v14 (s:ByteArray):List Value:=[.bool (usedS s),i6 (numAt s 3),i6 (numAt s 6),i6 (numAt s 9),sT (ByteArray.extract s 19 35),.bool (openS s),i6 (numAt s 12),i6 (numAt s 15),i6 (byteAt s 18),sT (ByteArray.extract s 35 51)]
def un_v15 (s:ByteArray):List Value:=((un_v14 s).set 9 (sT ⟨#[]⟩))
def un_v16 (s:ByteArray):List Value:=((un_v14 s).set 4 (sT ⟨#[]⟩))
def un_v17 (s:ByteArray):List Value:=((un_v15 s).set 4 (sT ⟨#[]⟩))
def un_v18 (s:ByteArray):List Value:=(((un_v2 s).set 0 (.bool (usedS s))).set 5 (.bool (openS s)))
def un_n1:List Nat:=[1,1,1,1,1,0,1,0,1,0,0]
def un_n2:List Nat:=[1,1,1,1,1,0,1,0,1,0,1]
def un_n3:List Nat:=[1,1,1,1,1,1,1,1,0,0]
def un_n4:List Nat:=[1,1,1,1,1,1,1,1,0,1,0]
def un_n5:List Nat:=[1,1,1,1,1,1,1,1,0,1,1,0,1]
def un_n6:List Nat:=[1,1,1,1,1,1,1,1,0,1,1]
def un_n7:List Nat:=[1,1,1,1,1,1,1,1,0,1]
def un_n8:List Nat:=[1,1,1,1,1,1,1,1,1,1]
def un_n9:List Nat:=[1,1,1,1,1,1,1,1,1]
def un_n10:Array Bool:=#[true,true,true,true,true,true,true,true,true,true,true,true,false,false]
def un_n11:Array Bool:=#[true,true,true,true,true,true,true,true,true,true,true,true,true,false]
def un_n12:Array Bool:=#[true,true,true,true,true,true,true,true,true,true,true,true,true,true]
def un_n13:List (Option Nat):=[none,none,none,none,none,none,none,none,none,none,none,none,none,none,none,none,none,none,none,none,some 0]
def un_n14:List OH:=[oh0,oh0,oh0,oh0,oh0,oh0,oh0,oh0]
def un_n15:List OH:=[oh0,⟨false,0,[⟨false,0,0,1⟩]⟩,oh0,⟨false,3,[]⟩]
def un_n16:List OH:=[oh0,⟨false,0,[⟨false,2,0,10⟩]⟩,⟨false,0,[⟨false,1,0,10⟩]⟩,oh0]
def un_n17:List OH:=[oh1,oh0,⟨false,0,[⟨false,1,0,10⟩]⟩,oh0]
def un_n18:List OH:=[oh1,oh1,oh1,oh3,oh1,oh0,⟨false,0,[⟨false,1,0,10⟩]⟩,oh0]
def un_n19:List OH:=[oh1,⟨false,0,[⟨false,0,0,1⟩]⟩,oh2,oh0,⟨false,0,[⟨false,2,9,1⟩]⟩,oh0,⟨false,0,[⟨false,2,0,10⟩]⟩]
def un_n20:List OH:=[⟨false,0,[⟨false,3,0,1⟩]⟩,oh2,⟨false,0,[⟨false,3,0,1⟩]⟩]
@[simp] def un_b1 (s:ByteArray) (w:World):List Bk:=[⟨w.heap.size,9,true,[sT s]⟩,⟨w.heap.size + 1,25,true,(un_v1)⟩]
@[simp] def un_b2 (s:ByteArray) (w:World) (g13:Nat):List Bk:=[⟨w.heap.size,9,true,[sT s]⟩,⟨w.heap.size + 1,25,true,(un_v1)⟩,⟨g13,25,true,(un_v1)⟩]
@[simp] def un_b3 (s:ByteArray) (w:World) (g13:Nat):List Bk:=[⟨w.heap.size,9,true,[sT s]⟩,⟨w.heap.size + 1,25,true,(un_v1)⟩,⟨g13,25,true,(un_v2 s)⟩]
@[simp] def un_b4 (s:ByteArray) (w:World) (pre:List Nat) (k:Nat) (g13:Nat) (y13:Nat):List Bk:=[⟨w.heap.size,9,true,[sT s]⟩,⟨w.heap.size + 1,25,true,(un_v1)⟩,⟨g13,25,true,(un_v4 s pre)⟩,⟨y13,3,true,[i6 (k:Int)]⟩,⟨y13 + 1,79,false,[(pt g13 0)]⟩]
@[simp] def un_b5 (s:ByteArray) (w:World) (g13:Nat) (y13:Nat):List Bk:=[⟨w.heap.size,9,true,[sT s]⟩,⟨w.heap.size + 1,25,true,(un_v1)⟩,⟨g13,25,true,(un_v14 s)⟩,⟨y13,3,true,[i6 18]⟩,⟨y13 + 1,79,false,[(pt g13 0)]⟩]
@[simp] def un_b6 (s:ByteArray) (w:World) (g13:Nat) (y13:Nat):List Bk:=[⟨w.heap.size,9,true,[sT s]⟩,⟨w.heap.size + 1,25,true,(un_v14 s)⟩,⟨g13,25,true,(un_v14 s)⟩,⟨y13,3,true,[i6 18]⟩,⟨y13 + 1,79,false,[(pt g13 0)]⟩]
@[simp] def un_b7 (s:ByteArray) (w:World) (g13:Nat) (y13:Nat):List Bk:=[⟨w.heap.size,9,true,[sT s]⟩,⟨w.heap.size + 1,25,true,(un_v1)⟩,⟨g13,25,true,(un_v15 s)⟩,⟨y13,3,true,[i6 18]⟩,⟨y13 + 1,79,false,[(pt g13 0)]⟩]
@[simp] def un_b8 (s:ByteArray) (w:World) (g13:Nat) (y13:Nat):List Bk:=[⟨w.heap.size,9,true,[sT s]⟩,⟨w.heap.size + 1,25,true,(un_v15 s)⟩,⟨g13,25,true,(un_v15 s)⟩,⟨y13,3,true,[i6 18]⟩,⟨y13 + 1,79,false,[(pt g13 0)]⟩]
@[simp] def un_b9 (s:ByteArray) (w:World) (g13:Nat) (y13:Nat):List Bk:=[⟨w.heap.size,9,true,[sT s]⟩,⟨w.heap.size + 1,25,true,(un_v1)⟩,⟨g13,25,true,(un_v16 s)⟩,⟨y13,3,true,[i6 18]⟩,⟨y13 + 1,79,false,[(pt g13 0)]⟩]
@[simp] def un_b10 (s:ByteArray) (w:World) (g13:Nat) (y13:Nat):List Bk:=[⟨w.heap.size,9,true,[sT s]⟩,⟨w.heap.size + 1,25,true,(un_v16 s)⟩,⟨g13,25,true,(un_v16 s)⟩,⟨y13,3,true,[i6 18]⟩,⟨y13 + 1,79,false,[(pt g13 0)]⟩]
@[simp] def un_b11 (s:ByteArray) (w:World) (g13:Nat) (y13:Nat):List Bk:=[⟨w.heap.size,9,true,[sT s]⟩,⟨w.heap.size + 1,25,true,(un_v1)⟩,⟨g13,25,true,(un_v17 s)⟩,⟨y13,3,true,[i6 18]⟩,⟨y13 + 1,79,false,[(pt g13 0)]⟩]
@[simp] def un_b12 (s:ByteArray) (w:World) (g13:Nat) (y13:Nat):List Bk:=[⟨w.heap.size,9,true,[sT s]⟩,⟨w.heap.size + 1,25,true,(un_v17 s)⟩,⟨g13,25,true,(un_v17 s)⟩,⟨y13,3,true,[i6 18]⟩,⟨y13 + 1,79,false,[(pt g13 0)]⟩]
@[simp] def un_b13 (s:ByteArray) (w:World) (g13:Nat) (y13:Nat):List Bk:=[⟨w.heap.size,9,true,[sT s]⟩,⟨w.heap.size + 1,25,true,(un_v1)⟩,⟨g13,25,true,(un_v18 s)⟩,⟨y13,3,true,[i6 3]⟩,⟨y13 + 1,79,false,[(pt g13 0)]⟩]
@[simp] def un_b14 (s:ByteArray) (w:World) (pre:List Nat) (k:Nat) (g13:Nat) (y13:Nat):List Bk:=[⟨w.heap.size,9,true,[sT s]⟩,⟨w.heap.size + 1,25,true,(un_v1)⟩,⟨g13,25,true,(un_v5 s pre k)⟩,⟨y13,3,true,[i6 ((k:Int) + 3)]⟩,⟨y13 + 1,79,false,[(pt g13 0)]⟩]
@[simp] def un_b15 (s:ByteArray) (w:World) (pre:List Nat) (k:Nat) (g13:Nat) (y13:Nat):List Bk:=[⟨w.heap.size,9,true,[sT s]⟩,⟨w.heap.size + 1,25,true,(un_v1)⟩,⟨g13,25,true,(un_v7 s pre k)⟩,⟨y13,3,true,[i6 ((k:Int) + 3)]⟩,⟨y13 + 1,79,false,[(pt g13 0)]⟩]
@[simp] def un_b16 (s:ByteArray) (w:World) (pre:List Nat) (k:Nat) (g13:Nat) (y13:Nat):List Bk:=[⟨w.heap.size,9,true,[sT s]⟩,⟨w.heap.size + 1,25,true,(un_v1)⟩,⟨g13,25,true,(un_v9 s pre k)⟩,⟨y13,3,true,[i6 ((k:Int) + 3)]⟩,⟨y13 + 1,79,false,[(pt g13 0)]⟩]
@[simp] def un_b17 (s:ByteArray) (w:World) (pre:List Nat) (k:Nat) (g13:Nat) (y13:Nat):List Bk:=[⟨w.heap.size,9,true,[sT s]⟩,⟨w.heap.size + 1,25,true,(un_v1)⟩,⟨g13,25,true,(un_v11 s pre k)⟩,⟨y13,3,true,[i6 ((k:Int) + 3)]⟩,⟨y13 + 1,79,false,[(pt g13 0)]⟩]
@[simp] def un_b18 (s:ByteArray) (w:World) (pre:List Nat) (k:Nat) (g13:Nat) (y13:Nat):List Bk:=[⟨w.heap.size,9,true,[sT s]⟩,⟨w.heap.size + 1,25,true,(un_v1)⟩,⟨g13,25,true,(un_v13 s pre k)⟩,⟨y13,3,true,[i6 ((k:Int) + 3)]⟩,⟨y13 + 1,79,false,[(pt g13 0)]⟩]
theorem un_q8 (st:Int) (s:ByteArray) (w:World):Out.prune [0,3,4,5,25] (qListG Try.prog 88 w (fun _=>False) (opsOf (getCode (bodyOf Try.f14) [1,1,0,0])) (opsOf (getCode (bodyOf Try.f14) [1,1,0,0])).toList ⟨[(0,i6 st),(3,(pt w.heap.size 0)),(4,(pt (w.heap.size + 1) 0)),(5,i6 0)],(un_b1 s w),[],w.heap.size + 2⟩ [(false,.op (oA 0 0 1)),(false,.call (sT zeros64)),(false,.op oh0)]) = some ⟨[∀ w',MemC w (fun _=>False) (un_b1 s w) [] (w.heap.size + 2) w' → Calls Try.prog 51 #[sT ⟨#[0]⟩,i6 64] w' (RetK (sT zeros64) w')],dupR [(w.heap.size,0,1)],⟨[(0,i6 st),(3,(pt w.heap.size 0)),(4,(pt (w.heap.size + 1) 0)),(5,i6 0),(25,.bool (ByteArray.toList s == ByteArray.toList zeros64))],(un_b1 s w),[],w.heap.size + 2⟩⟩:=by kernel_rfl
theorem un_q13 (st:Int) (s:ByteArray) (w:World) (z8:Nat):Out.prune [0,3,4,5,38] (qList Try.prog 88 w (fun _=>False) ((opsOf (getCode (bodyOf Try.f14) [1,1,1,0])).toList.take 12) ⟨[(0,i6 st),(3,(pt w.heap.size 0)),(4,(pt (w.heap.size + 1) 0)),(5,i6 0)],(un_b1 s w),[],z8⟩ [.op (oA 0 0 1),.op oh2,.op oh2,.op oh0,.op (oA 0 0 1),.op oh2,.op oh2,.op oh0,.op (oA 0 0 1),.op oh2,.op oh2,.op oh0]) = some ⟨[(0:Int) ≤ 2 ∧ 2 < ((s).size:Int),(0:Int) ≤ (byteAt s 2) ∧ (0:Int) ≤ 1 ∧ (byteAt s 2) ≤ IntKind.max .u8 ∧ 1 ≤ IntKind.max .u8,(0:Int) ≤ 2 ∧ 2 < ((s).size:Int),(0:Int) ≤ (byteAt s 2) ∧ (0:Int) ≤ 2 ∧ (byteAt s 2) ≤ IntKind.max .u8 ∧ 2 ≤ IntKind.max .u8,(0:Int) ≤ 18 ∧ 18 < ((s).size:Int),inR .i64 ((byteAt s 18))],dupR [(w.heap.size,0,1),(w.heap.size,0,1),(w.heap.size,0,1)],⟨[(0,i6 st),(3,(pt w.heap.size 0)),(4,(pt (w.heap.size + 1) 0)),(5,i6 0),(38,.agg (List.toArray (un_v2 s)))],(un_b1 s w),[],z8⟩⟩:=by kernel_rfl
theorem un_t14 (st:Int) (s:ByteArray) (w:World) (g13:Nat) (y13:Nat):tailP [0,3,4,5,6] (tailX Try.prog 88 (opsOf (getCode (bodyOf Try.f14) [1,1,1,0])) 1 un_n11 ⟨[(6,(pt g13 0)),(0,i6 st),(3,(pt w.heap.size 0)),(4,(pt (w.heap.size + 1) 0)),(5,i6 0),(38,.agg (List.toArray (un_v2 s)))],(un_b2 s w g13),[],y13⟩ [(13,false,(oA 2 0 10))]) = some (⟨[],dupR [(g13,0,10)],⟨[(0,i6 st),(3,(pt w.heap.size 0)),(4,(pt (w.heap.size + 1) 0)),(5,i6 0),(6,(pt g13 0))],(un_b3 s w g13),[],y13⟩⟩,0,un_n12):=by kernel_rfl
theorem un_t15 (st:Int) (s:ByteArray) (w:World) (y13:Nat):tailP [0,3,4,5,6] (tailX Try.prog 88 (opsOf (getCode (bodyOf Try.f14) [1,1,1,0])) 2 un_n10 ⟨[(0,i6 st),(3,(pt w.heap.size 0)),(4,(pt (w.heap.size + 1) 0)),(5,i6 0),(38,.agg (List.toArray (un_v2 s)))],(un_b1 s w),[],y13⟩ [(12,false,oh0),(13,false,(oA 2 0 10))]) = some (⟨[],dupR [(y13,0,10)],⟨[(0,i6 st),(3,(pt w.heap.size 0)),(4,(pt (w.heap.size + 1) 0)),(5,i6 0),(6,(pt y13 0))],[⟨w.heap.size,9,true,[sT s]⟩,⟨w.heap.size + 1,25,true,(un_v1)⟩,⟨y13,25,true,(un_v2 s)⟩],[],y13 + 1⟩⟩,0,un_n12):=by kernel_rfl
theorem un_m21 (s:ByteArray) (w:World) (Z:Nat) (pre:List Nat) (k:Nat) (g13:Nat) (y13:Nat):MixOk Try.prog (opsOf (getCode (bodyOf Try.f14) un_n1)) [(3,(pt w.heap.size 0)),(4,(pt (w.heap.size + 1) 0)),(5,i6 0),(7,(pt y13 0)),(8,(pt g13 1))] (un_v3 s k g13) [(un_b4 s w pre k g13 y13),[⟨w.heap.size,9,true,[sT s]⟩,⟨w.heap.size + 1,25,true,(un_v1)⟩,⟨g13,25,true,(un_v5 s pre k)⟩,⟨y13,3,true,[i6 (k:Int)]⟩,⟨y13 + 1,79,false,[(pt g13 0)]⟩]] [] Z un_n13 [oh0,(oA 0 0 1),(oA 3 0 1),oh2,oh2,(oA 0 0 1),(oA 3 0 1),oh2,oh2,oh2,oh2,oh2,(oA 0 0 1),(oA 3 0 1),oh2,oh2,oh2,oh2,oh2,oh0,(oA 2 1 1)] [[],[],[],[(0:Int) ≤ (k:Int) ∧ (k:Int) < ((s).size:Int)],[inR .i64 ((byteAt s (Int.toNat (k:Int))))],[],[],[inR .i64 (((k:Int) + 1))],[(0:Int) ≤ ((k:Int) + 1) ∧ ((k:Int) + 1) < ((s).size:Int)],[inR .i64 ((byteAt s (Int.toNat ((k:Int) + 1))))],[inR .i64 ((byteAt s (Int.toNat ((k:Int) + 1))) * 256) ∧ (0:Int) ≤ 8 ∧ (8:Int) ≤ (IntKind.bits .i64:Nat)],[(0:Int) ≤ (byteAt s (Int.toNat (k:Int))) ∧ (0:Int) ≤ ((byteAt s (Int.toNat ((k:Int) + 1))) * 256) ∧ (byteAt s (Int.toNat (k:Int))) ≤ IntKind.max .i64 ∧ ((byteAt s (Int.toNat ((k:Int) + 1))) * 256) ≤ IntKind.max .i64],[],[],[inR .i64 (((k:Int) + 2))],[(0:Int) ≤ ((k:Int) + 2) ∧ ((k:Int) + 2) < ((s).size:Int)],[inR .i64 ((byteAt s (Int.toNat ((k:Int) + 2))))],[inR .i64 ((byteAt s (Int.toNat ((k:Int) + 2))) * 65536) ∧ (0:Int) ≤ 16 ∧ (16:Int) ≤ (IntKind.bits .i64:Nat)],[(0:Int) ≤ (orZ (byteAt s (Int.toNat (k:Int))) ((byteAt s (Int.toNat ((k:Int) + 1))) * 256)) ∧ (0:Int) ≤ ((byteAt s (Int.toNat ((k:Int) + 2))) * 65536) ∧ (orZ (byteAt s (Int.toNat (k:Int))) ((byteAt s (Int.toNat ((k:Int) + 1))) * 256)) ≤ IntKind.max .i64 ∧ ((byteAt s (Int.toNat ((k:Int) + 2))) * 65536) ≤ IntKind.max .i64],[],[]] [[],[(w.heap.size,0,1)],[(y13,0,1)],[],[],[(w.heap.size,0,1)],[(y13,0,1)],[],[],[],[],[],[(w.heap.size,0,1)],[(y13,0,1)],[],[],[],[],[],[],[(g13,1,1)]] 1:=by unfold MixOk; kernel_rfl
theorem un_m24 (s:ByteArray) (w:World) (Z:Nat) (pre:List Nat) (k:Nat) (g13:Nat) (y13:Nat):MixOk Try.prog (opsOf (getCode (bodyOf Try.f14) un_n1)) [(3,(pt w.heap.size 0)),(4,(pt (w.heap.size + 1) 0)),(5,i6 0),(7,(pt y13 0)),(8,(pt g13 2))] (un_v6 s k g13) [(un_b4 s w pre k g13 y13),[⟨w.heap.size,9,true,[sT s]⟩,⟨w.heap.size + 1,25,true,(un_v1)⟩,⟨g13,25,true,(un_v7 s pre k)⟩,⟨y13,3,true,[i6 (k:Int)]⟩,⟨y13 + 1,79,false,[(pt g13 0)]⟩]] [] Z un_n13 [oh0,(oA 0 0 1),(oA 3 0 1),oh2,oh2,(oA 0 0 1),(oA 3 0 1),oh2,oh2,oh2,oh2,oh2,(oA 0 0 1),(oA 3 0 1),oh2,oh2,oh2,oh2,oh2,oh0,(oA 2 2 1)] [[],[],[],[(0:Int) ≤ (k:Int) ∧ (k:Int) < ((s).size:Int)],[inR .i64 ((byteAt s (Int.toNat (k:Int))))],[],[],[inR .i64 (((k:Int) + 1))],[(0:Int) ≤ ((k:Int) + 1) ∧ ((k:Int) + 1) < ((s).size:Int)],[inR .i64 ((byteAt s (Int.toNat ((k:Int) + 1))))],[inR .i64 ((byteAt s (Int.toNat ((k:Int) + 1))) * 256) ∧ (0:Int) ≤ 8 ∧ (8:Int) ≤ (IntKind.bits .i64:Nat)],[(0:Int) ≤ (byteAt s (Int.toNat (k:Int))) ∧ (0:Int) ≤ ((byteAt s (Int.toNat ((k:Int) + 1))) * 256) ∧ (byteAt s (Int.toNat (k:Int))) ≤ IntKind.max .i64 ∧ ((byteAt s (Int.toNat ((k:Int) + 1))) * 256) ≤ IntKind.max .i64],[],[],[inR .i64 (((k:Int) + 2))],[(0:Int) ≤ ((k:Int) + 2) ∧ ((k:Int) + 2) < ((s).size:Int)],[inR .i64 ((byteAt s (Int.toNat ((k:Int) + 2))))],[inR .i64 ((byteAt s (Int.toNat ((k:Int) + 2))) * 65536) ∧ (0:Int) ≤ 16 ∧ (16:Int) ≤ (IntKind.bits .i64:Nat)],[(0:Int) ≤ (orZ (byteAt s (Int.toNat (k:Int))) ((byteAt s (Int.toNat ((k:Int) + 1))) * 256)) ∧ (0:Int) ≤ ((byteAt s (Int.toNat ((k:Int) + 2))) * 65536) ∧ (orZ (byteAt s (Int.toNat (k:Int))) ((byteAt s (Int.toNat ((k:Int) + 1))) * 256)) ≤ IntKind.max .i64 ∧ ((byteAt s (Int.toNat ((k:Int) + 2))) * 65536) ≤ IntKind.max .i64],[],[]] [[],[(w.heap.size,0,1)],[(y13,0,1)],[],[],[(w.heap.size,0,1)],[(y13,0,1)],[],[],[],[],[],[(w.heap.size,0,1)],[(y13,0,1)],[],[],[],[],[],[],[(g13,2,1)]] 1:=by unfold MixOk; kernel_rfl
theorem un_m27 (s:ByteArray) (w:World) (Z:Nat) (pre:List Nat) (k:Nat) (g13:Nat) (y13:Nat):MixOk Try.prog (opsOf (getCode (bodyOf Try.f14) un_n1)) [(3,(pt w.heap.size 0)),(4,(pt (w.heap.size + 1) 0)),(5,i6 0),(7,(pt y13 0)),(8,(pt g13 3))] (un_v8 s k g13) [(un_b4 s w pre k g13 y13),[⟨w.heap.size,9,true,[sT s]⟩,⟨w.heap.size + 1,25,true,(un_v1)⟩,⟨g13,25,true,(un_v9 s pre k)⟩,⟨y13,3,true,[i6 (k:Int)]⟩,⟨y13 + 1,79,false,[(pt g13 0)]⟩]] [] Z un_n13 [oh0,(oA 0 0 1),(oA 3 0 1),oh2,oh2,(oA 0 0 1),(oA 3 0 1),oh2,oh2,oh2,oh2,oh2,(oA 0 0 1),(oA 3 0 1),oh2,oh2,oh2,oh2,oh2,oh0,(oA 2 3 1)] [[],[],[],[(0:Int) ≤ (k:Int) ∧ (k:Int) < ((s).size:Int)],[inR .i64 ((byteAt s (Int.toNat (k:Int))))],[],[],[inR .i64 (((k:Int) + 1))],[(0:Int) ≤ ((k:Int) + 1) ∧ ((k:Int) + 1) < ((s).size:Int)],[inR .i64 ((byteAt s (Int.toNat ((k:Int) + 1))))],[inR .i64 ((byteAt s (Int.toNat ((k:Int) + 1))) * 256) ∧ (0:Int) ≤ 8 ∧ (8:Int) ≤ (IntKind.bits .i64:Nat)],[(0:Int) ≤ (byteAt s (Int.toNat (k:Int))) ∧ (0:Int) ≤ ((byteAt s (Int.toNat ((k:Int) + 1))) * 256) ∧ (byteAt s (Int.toNat (k:Int))) ≤ IntKind.max .i64 ∧ ((byteAt s (Int.toNat ((k:Int) + 1))) * 256) ≤ IntKind.max .i64],[],[],[inR .i64 (((k:Int) + 2))],[(0:Int) ≤ ((k:Int) + 2) ∧ ((k:Int) + 2) < ((s).size:Int)],[inR .i64 ((byteAt s (Int.toNat ((k:Int) + 2))))],[inR .i64 ((byteAt s (Int.toNat ((k:Int) + 2))) * 65536) ∧ (0:Int) ≤ 16 ∧ (16:Int) ≤ (IntKind.bits .i64:Nat)],[(0:Int) ≤ (orZ (byteAt s (Int.toNat (k:Int))) ((byteAt s (Int.toNat ((k:Int) + 1))) * 256)) ∧ (0:Int) ≤ ((byteAt s (Int.toNat ((k:Int) + 2))) * 65536) ∧ (orZ (byteAt s (Int.toNat (k:Int))) ((byteAt s (Int.toNat ((k:Int) + 1))) * 256)) ≤ IntKind.max .i64 ∧ ((byteAt s (Int.toNat ((k:Int) + 2))) * 65536) ≤ IntKind.max .i64],[],[]] [[],[(w.heap.size,0,1)],[(y13,0,1)],[],[],[(w.heap.size,0,1)],[(y13,0,1)],[],[],[],[],[],[(w.heap.size,0,1)],[(y13,0,1)],[],[],[],[],[],[],[(g13,3,1)]] 1:=by unfold MixOk; kernel_rfl
theorem un_m30 (s:ByteArray) (w:World) (Z:Nat) (pre:List Nat) (k:Nat) (g13:Nat) (y13:Nat):MixOk Try.prog (opsOf (getCode (bodyOf Try.f14) un_n1)) [(3,(pt w.heap.size 0)),(4,(pt (w.heap.size + 1) 0)),(5,i6 0),(7,(pt y13 0)),(8,(pt g13 6))] (un_v10 s k g13) [(un_b4 s w pre k g13 y13),[⟨w.heap.size,9,true,[sT s]⟩,⟨w.heap.size + 1,25,true,(un_v1)⟩,⟨g13,25,true,(un_v11 s pre k)⟩,⟨y13,3,true,[i6 (k:Int)]⟩,⟨y13 + 1,79,false,[(pt g13 0)]⟩]] [] Z un_n13 [oh0,(oA 0 0 1),(oA 3 0 1),oh2,oh2,(oA 0 0 1),(oA 3 0 1),oh2,oh2,oh2,oh2,oh2,(oA 0 0 1),(oA 3 0 1),oh2,oh2,oh2,oh2,oh2,oh0,(oA 2 6 1)] [[],[],[],[(0:Int) ≤ (k:Int) ∧ (k:Int) < ((s).size:Int)],[inR .i64 ((byteAt s (Int.toNat (k:Int))))],[],[],[inR .i64 (((k:Int) + 1))],[(0:Int) ≤ ((k:Int) + 1) ∧ ((k:Int) + 1) < ((s).size:Int)],[inR .i64 ((byteAt s (Int.toNat ((k:Int) + 1))))],[inR .i64 ((byteAt s (Int.toNat ((k:Int) + 1))) * 256) ∧ (0:Int) ≤ 8 ∧ (8:Int) ≤ (IntKind.bits .i64:Nat)],[(0:Int) ≤ (byteAt s (Int.toNat (k:Int))) ∧ (0:Int) ≤ ((byteAt s (Int.toNat ((k:Int) + 1))) * 256) ∧ (byteAt s (Int.toNat (k:Int))) ≤ IntKind.max .i64 ∧ ((byteAt s (Int.toNat ((k:Int) + 1))) * 256) ≤ IntKind.max .i64],[],[],[inR .i64 (((k:Int) + 2))],[(0:Int) ≤ ((k:Int) + 2) ∧ ((k:Int) + 2) < ((s).size:Int)],[inR .i64 ((byteAt s (Int.toNat ((k:Int) + 2))))],[inR .i64 ((byteAt s (Int.toNat ((k:Int) + 2))) * 65536) ∧ (0:Int) ≤ 16 ∧ (16:Int) ≤ (IntKind.bits .i64:Nat)],[(0:Int) ≤ (orZ (byteAt s (Int.toNat (k:Int))) ((byteAt s (Int.toNat ((k:Int) + 1))) * 256)) ∧ (0:Int) ≤ ((byteAt s (Int.toNat ((k:Int) + 2))) * 65536) ∧ (orZ (byteAt s (Int.toNat (k:Int))) ((byteAt s (Int.toNat ((k:Int) + 1))) * 256)) ≤ IntKind.max .i64 ∧ ((byteAt s (Int.toNat ((k:Int) + 2))) * 65536) ≤ IntKind.max .i64],[],[]] [[],[(w.heap.size,0,1)],[(y13,0,1)],[],[],[(w.heap.size,0,1)],[(y13,0,1)],[],[],[],[],[],[(w.heap.size,0,1)],[(y13,0,1)],[],[],[],[],[],[],[(g13,6,1)]] 1:=by unfold MixOk; kernel_rfl
theorem un_m33 (s:ByteArray) (w:World) (Z:Nat) (pre:List Nat) (k:Nat) (g13:Nat) (y13:Nat):MixOk Try.prog (opsOf (getCode (bodyOf Try.f14) un_n1)) [(3,(pt w.heap.size 0)),(4,(pt (w.heap.size + 1) 0)),(5,i6 0),(7,(pt y13 0)),(8,(pt g13 7))] (un_v12 s k g13) [(un_b4 s w pre k g13 y13),[⟨w.heap.size,9,true,[sT s]⟩,⟨w.heap.size + 1,25,true,(un_v1)⟩,⟨g13,25,true,(un_v13 s pre k)⟩,⟨y13,3,true,[i6 (k:Int)]⟩,⟨y13 + 1,79,false,[(pt g13 0)]⟩]] [] Z un_n13 [oh0,(oA 0 0 1),(oA 3 0 1),oh2,oh2,(oA 0 0 1),(oA 3 0 1),oh2,oh2,oh2,oh2,oh2,(oA 0 0 1),(oA 3 0 1),oh2,oh2,oh2,oh2,oh2,oh0,(oA 2 7 1)] [[],[],[],[(0:Int) ≤ (k:Int) ∧ (k:Int) < ((s).size:Int)],[inR .i64 ((byteAt s (Int.toNat (k:Int))))],[],[],[inR .i64 (((k:Int) + 1))],[(0:Int) ≤ ((k:Int) + 1) ∧ ((k:Int) + 1) < ((s).size:Int)],[inR .i64 ((byteAt s (Int.toNat ((k:Int) + 1))))],[inR .i64 ((byteAt s (Int.toNat ((k:Int) + 1))) * 256) ∧ (0:Int) ≤ 8 ∧ (8:Int) ≤ (IntKind.bits .i64:Nat)],[(0:Int) ≤ (byteAt s (Int.toNat (k:Int))) ∧ (0:Int) ≤ ((byteAt s (Int.toNat ((k:Int) + 1))) * 256) ∧ (byteAt s (Int.toNat (k:Int))) ≤ IntKind.max .i64 ∧ ((byteAt s (Int.toNat ((k:Int) + 1))) * 256) ≤ IntKind.max .i64],[],[],[inR .i64 (((k:Int) + 2))],[(0:Int) ≤ ((k:Int) + 2) ∧ ((k:Int) + 2) < ((s).size:Int)],[inR .i64 ((byteAt s (Int.toNat ((k:Int) + 2))))],[inR .i64 ((byteAt s (Int.toNat ((k:Int) + 2))) * 65536) ∧ (0:Int) ≤ 16 ∧ (16:Int) ≤ (IntKind.bits .i64:Nat)],[(0:Int) ≤ (orZ (byteAt s (Int.toNat (k:Int))) ((byteAt s (Int.toNat ((k:Int) + 1))) * 256)) ∧ (0:Int) ≤ ((byteAt s (Int.toNat ((k:Int) + 2))) * 65536) ∧ (orZ (byteAt s (Int.toNat (k:Int))) ((byteAt s (Int.toNat ((k:Int) + 1))) * 256)) ≤ IntKind.max .i64 ∧ ((byteAt s (Int.toNat ((k:Int) + 2))) * 65536) ≤ IntKind.max .i64],[],[]] [[],[(w.heap.size,0,1)],[(y13,0,1)],[],[],[(w.heap.size,0,1)],[(y13,0,1)],[],[],[],[],[],[(w.heap.size,0,1)],[(y13,0,1)],[],[],[],[],[],[],[(g13,7,1)]] 1:=by unfold MixOk; kernel_rfl
theorem un_r41 (s:ByteArray) (w:World) (g13:Nat) (y13:Nat):resL Try.prog [] (un_b5 s w g13 y13) [(4,(pt (w.heap.size + 1) 0)),(5,i6 80),(6,(pt g13 0))] Try.f14.results.toList [[⟨false,1,0,10⟩]] = some ([.agg (List.toArray (un_v1)),i6 80],dupR [(w.heap.size + 1,0,10)]):=by kernel_rfl
theorem un_r44 (s:ByteArray) (w:World) (g13:Nat) (y13:Nat):resL Try.prog [] (un_b6 s w g13 y13) [(4,(pt (w.heap.size + 1) 0)),(5,i6 0)] Try.f14.results.toList [[⟨false,1,0,10⟩]] = some ([.agg (List.toArray (un_v14 s)),i6 0],dupR [(w.heap.size + 1,0,10)]):=by kernel_rfl
theorem un_r46 (s:ByteArray) (w:World) (g13:Nat) (y13:Nat):resL Try.prog [] (un_b5 s w g13 y13) [(4,(pt (w.heap.size + 1) 0)),(5,i6 80),(6,(pt g13 0))] Try.f14.results.toList [[⟨false,1,0,10⟩]] = some ([.agg (List.toArray (un_v1)),i6 80],dupR [(w.heap.size + 1,0,10)]):=by kernel_rfl
theorem un_r51 (s:ByteArray) (w:World) (g13:Nat) (y13:Nat):resL Try.prog [] (un_b7 s w g13 y13) [(4,(pt (w.heap.size + 1) 0)),(5,i6 80),(6,(pt g13 0))] Try.f14.results.toList [[⟨false,1,0,10⟩]] = some ([.agg (List.toArray (un_v1)),i6 80],dupR [(w.heap.size + 1,0,10)]):=by kernel_rfl
theorem un_r54 (s:ByteArray) (w:World) (g13:Nat) (y13:Nat):resL Try.prog [] (un_b8 s w g13 y13) [(4,(pt (w.heap.size + 1) 0)),(5,i6 0)] Try.f14.results.toList [[⟨false,1,0,10⟩]] = some ([.agg (List.toArray (un_v15 s)),i6 0],dupR [(w.heap.size + 1,0,10)]):=by kernel_rfl
theorem un_r56 (s:ByteArray) (w:World) (g13:Nat) (y13:Nat):resL Try.prog [] (un_b7 s w g13 y13) [(4,(pt (w.heap.size + 1) 0)),(5,i6 80),(6,(pt g13 0))] Try.f14.results.toList [[⟨false,1,0,10⟩]] = some ([.agg (List.toArray (un_v1)),i6 80],dupR [(w.heap.size + 1,0,10)]):=by kernel_rfl
theorem un_r62 (s:ByteArray) (w:World) (g13:Nat) (y13:Nat):resL Try.prog [] (un_b9 s w g13 y13) [(4,(pt (w.heap.size + 1) 0)),(5,i6 80),(6,(pt g13 0))] Try.f14.results.toList [[⟨false,1,0,10⟩]] = some ([.agg (List.toArray (un_v1)),i6 80],dupR [(w.heap.size + 1,0,10)]):=by kernel_rfl
theorem un_r65 (s:ByteArray) (w:World) (g13:Nat) (y13:Nat):resL Try.prog [] (un_b10 s w g13 y13) [(4,(pt (w.heap.size + 1) 0)),(5,i6 0)] Try.f14.results.toList [[⟨false,1,0,10⟩]] = some ([.agg (List.toArray (un_v16 s)),i6 0],dupR [(w.heap.size + 1,0,10)]):=by kernel_rfl
theorem un_r67 (s:ByteArray) (w:World) (g13:Nat) (y13:Nat):resL Try.prog [] (un_b9 s w g13 y13) [(4,(pt (w.heap.size + 1) 0)),(5,i6 80),(6,(pt g13 0))] Try.f14.results.toList [[⟨false,1,0,10⟩]] = some ([.agg (List.toArray (un_v1)),i6 80],dupR [(w.heap.size + 1,0,10)]):=by kernel_rfl
theorem un_r72 (s:ByteArray) (w:World) (g13:Nat) (y13:Nat):resL Try.prog [] (un_b11 s w g13 y13) [(4,(pt (w.heap.size + 1) 0)),(5,i6 80),(6,(pt g13 0))] Try.f14.results.toList [[⟨false,1,0,10⟩]] = some ([.agg (List.toArray (un_v1)),i6 80],dupR [(w.heap.size + 1,0,10)]):=by kernel_rfl
theorem un_r75 (s:ByteArray) (w:World) (g13:Nat) (y13:Nat):resL Try.prog [] (un_b12 s w g13 y13) [(4,(pt (w.heap.size + 1) 0)),(5,i6 0)] Try.f14.results.toList [[⟨false,1,0,10⟩]] = some ([.agg (List.toArray (un_v17 s)),i6 0],dupR [(w.heap.size + 1,0,10)]):=by kernel_rfl
theorem un_r77 (s:ByteArray) (w:World) (g13:Nat) (y13:Nat):resL Try.prog [] (un_b11 s w g13 y13) [(4,(pt (w.heap.size + 1) 0)),(5,i6 80),(6,(pt g13 0))] Try.f14.results.toList [[⟨false,1,0,10⟩]] = some ([.agg (List.toArray (un_v1)),i6 80],dupR [(w.heap.size + 1,0,10)]):=by kernel_rfl
set_option maxRecDepth 100000 in
set_option maxHeartbeats 4000000 in
theorem unpack_any (st:Int) (s:ByteArray) (w:World) :
  Calls Try.prog 14 #[.int .i64 st,.string s] w (RetK (.tuple #[.agg (unpackR st s).cells.toArray,.int .i64 (unpackE st s)]) w):=by
 refine calls_of_holdsN (m:=5) (S:=(fun _=>False)) (l:=[.int .i64 st,.string s]) (n:=88) Try.func14 (body_of (by kernel_rfl)) rfl (by simp) (MemOk.none w _) ?_
 by_cases h1:st < 0
 ·skip
  refine hgE 31 [oh0,oh0,oh0,oh0,oh0,oh0,oh1,oh1,oh3,oh0,oh1,oh1,oh1,oh3,oh1,oh0,(oA 1 0 10),oh0] [0,3,4,5] [oE ((decide ((st:Int) < 0)) = true) (decide_eq_true h1),oE ((decide ((st:Int) < 0)) = true) (decide_eq_true h1),oE ((decide ((st:Int) < 0)) = true) (decide_eq_true h1),tT,tT,tT,tT,tT] [(w.heap.size + 1,0,10)] [.code [1,0,1,0,1],.code [1,1]] ⟨[(0,i6 st),(3,(pt w.heap.size 0)),(4,(pt (w.heap.size + 1) 0)),(5,i6 80)],(un_b1 s w),[],w.heap.size + 2⟩ ?_
  refine holds_retN0 [[⟨false,1,0,10⟩]] (by kernel_rfl) (show _ = some ([.agg (List.toArray (un_v1)),.int .i64 80],dupR [(w.heap.size + 1,0,10)]) by kernel_rfl) ?_
  intro wx hm
  exact ⟨by
   have e1:takeGood st s = false:=by
    unfold takeGood
    simp [show ¬ 0 ≤ st by omega]
   have e2:takeNone st s = false:=by
    unfold takeNone
    simp [show ¬ 0 ≤ st by omega]
   unfold unpackR unpackE
   rw [e1,e2]
   rfl,hm.kept⟩
 by_cases h2:st ≥ 8
 ·skip
  refine hgE 31 [oh0,oh0,oh0,oh0,oh0,oh0,oh0,oh0,⟨false,3,[]⟩,oh0,oh1,oh1,oh1,oh3,oh1,oh0,(oA 1 0 10),oh0] [0,3,4,5] [oE ((decide ((st:Int) < 0)) = false) (decide_eq_false h1),oE ((decide ((st:Int) < 0)) = false) (decide_eq_false h1),oE ((decide ((st:Int) < 0)) = false) (decide_eq_false h1),oE ((decide ((st:Int) ≥ 8)) = true) (decide_eq_true h2),oE ((decide ((st:Int) ≥ 8)) = true) (decide_eq_true h2),oE ((decide ((st:Int) ≥ 8)) = true) (decide_eq_true h2),oE ((decide ((st:Int) ≥ 8)) = true) (decide_eq_true h2),tT] [(w.heap.size + 1,0,10)] [.code [1,0,1,0,1],.code [1,1]] ⟨[(0,i6 st),(3,(pt w.heap.size 0)),(4,(pt (w.heap.size + 1) 0)),(5,i6 80)],(un_b1 s w),[],w.heap.size + 2⟩ ?_
  refine holds_retN0 [[⟨false,1,0,10⟩]] (by kernel_rfl) (show _ = some ([.agg (List.toArray (un_v1)),.int .i64 80],dupR [(w.heap.size + 1,0,10)]) by kernel_rfl) ?_
  intro wx hm
  exact ⟨by
   have e1:takeGood st s = false:=by
    unfold takeGood
    simp [show ¬ st < 8 by omega]
   have e2:takeNone st s = false:=by
    unfold takeNone
    simp [show ¬ st < 8 by omega]
   unfold unpackR unpackE
   rw [e1,e2]
   rfl,hm.kept⟩
 by_cases h3:(s.size:Int) = 64
 rotate_left
 ·skip
  refine hgE 31 [oh0,oh0,oh0,oh0,oh0,oh0,oh0,oh0,⟨false,3,[]⟩,oh0,(oA 0 0 1),oh0,oh0,⟨false,3,[]⟩,oh1,oh0,(oA 1 0 10),oh0] [0,3,4,5] [oE ((decide ((st:Int) < 0)) = false) (decide_eq_false h1),oE ((decide ((st:Int) < 0)) = false) (decide_eq_false h1),oE ((decide ((st:Int) < 0)) = false) (decide_eq_false h1),oE ((decide ((st:Int) ≥ 8)) = false) (decide_eq_false h2),oE ((decide ((st:Int) ≥ 8)) = false) (decide_eq_false h2),oE ((decide ((st:Int) ≥ 8)) = false) (decide_eq_false h2),oE ((decide ((st:Int) ≥ 8)) = false) (decide_eq_false h2),oE (((s.size:Int) != 64) = true) (bne_iff_ne.2 h3)] [(w.heap.size,0,1),(w.heap.size + 1,0,10)] [.code [1,0,1,0,1],.code [1,1]] ⟨[(0,i6 st),(3,(pt w.heap.size 0)),(4,(pt (w.heap.size + 1) 0)),(5,i6 80)],(un_b1 s w),[],w.heap.size + 2⟩ ?_
  refine holds_retN0 [[⟨false,1,0,10⟩]] (by kernel_rfl) (show _ = some ([.agg (List.toArray (un_v1)),.int .i64 80],dupR [(w.heap.size + 1,0,10)]) by kernel_rfl) ?_
  intro wx hm
  exact ⟨by
   have e1:takeGood st s = false:=by
    unfold takeGood
    simp [h3]
   have e2:takeNone st s = false:=by
    unfold takeNone
    simp [h3]
   unfold unpackR unpackE
   rw [e1,e2]
   rfl,hm.kept⟩
 refine hgE 28 [oh0,oh0,oh0,oh0,oh0,oh0,oh0,oh0,⟨false,3,[]⟩,oh0,(oA 0 0 1),oh0,oh0,⟨false,3,[]⟩,oh0] [0,3,4,5] [oE ((decide ((st:Int) < 0)) = false) (decide_eq_false h1),oE ((decide ((st:Int) < 0)) = false) (decide_eq_false h1),oE ((decide ((st:Int) < 0)) = false) (decide_eq_false h1),oE ((decide ((st:Int) ≥ 8)) = false) (decide_eq_false h2),oE ((decide ((st:Int) ≥ 8)) = false) (decide_eq_false h2),oE ((decide ((st:Int) ≥ 8)) = false) (decide_eq_false h2),oE ((decide ((st:Int) ≥ 8)) = false) (decide_eq_false h2),oE (((s.size:Int) != 64) = false) (bne_eq_false_iff_eq.2 h3)] [(w.heap.size,0,1)] [.code [1,1,0,0],.code [1,1,0,1],.code [1,1,1]] ⟨[(0,i6 st),(3,(pt w.heap.size 0)),(4,(pt (w.heap.size + 1) 0)),(5,i6 0)],(un_b1 s w),[],w.heap.size + 2⟩ ?_
 refine holds_quietG _ _ (by kernel_rfl) (by kernel_rfl) (by kernel_rfl) (un_q8 st s w) ⟨(fun wx hm=>zeros_any wx),trivial⟩ fun z8 hz8=>?_
 replace hz8:w.heap.size + 2 ≤ z8:=hz8
 refine hgE 3 [] [0,3,4,5,25] [] [] [.code [1,1,0,1],.code [1,1,1]] ⟨[(0,i6 st),(3,(pt w.heap.size 0)),(4,(pt (w.heap.size + 1) 0)),(5,i6 0),(25,.bool (ByteArray.toList s == ByteArray.toList zeros64))],(un_b1 s w),[],z8⟩ ?_
 rcases Bool.eq_false_or_eq_true (ByteArray.toList s == ByteArray.toList zeros64) with hz | hz
 ·skip
  refine hgE 10 un_n17 [0,3,4,5] [oE ((ByteArray.toList s == ByteArray.toList zeros64) = true) hz] [(w.heap.size + 1,0,10)] [.code [1,1,0,1,0,1],.code [1,1,1]] ⟨[(0,i6 st),(3,(pt w.heap.size 0)),(4,(pt (w.heap.size + 1) 0)),(5,i6 0)],(un_b1 s w),[],z8⟩ ?_
  refine holds_retN0 [[⟨false,1,0,10⟩]] (by kernel_rfl) (show _ = some ([.agg (List.toArray (un_v1)),.int .i64 0],dupR [(w.heap.size + 1,0,10)]) by kernel_rfl) ?_
  intro wx hm
  exact ⟨by
   have e1:takeGood st s = false:=by
    unfold takeGood
    simp [hz]
   have e2:takeNone st s = true:=by
    unfold takeNone
    rw [hz,beq_iff_eq.2 h3,decide_eq_true (show 0 ≤ st by omega),decide_eq_true (show st < 8 by omega)]
    rfl
   unfold unpackR unpackE
   rw [e1,e2]
   rfl,hm.kept⟩
 have hs:s.size = 64:=by omega
 have hb2:=byteAt_bd s 2
 have hb18:=byteAt_bd s 18
 refine hgE 6 [oh0] [0,3,4,5] [oE ((ByteArray.toList s == ByteArray.toList zeros64) = false) hz] [] [.code [1,1,1,0],.code [1,1,1,1]] ⟨[(0,i6 st),(3,(pt w.heap.size 0)),(4,(pt (w.heap.size + 1) 0)),(5,i6 0)],(un_b1 s w),[],z8⟩ ?_
 have HZ:∀ (g13 y13:Nat),z8 ≤ g13 → z8 ≤ y13 → Holds [] Try.prog (bodyOf Try.f14) 88 w (fun _=>False) (noPanic (bodyPostM Fence.wide 5 Try.prog Try.f14 (RetK (.tuple #[.agg (unpackR st s).cells.toArray,.int .i64 (unpackE st s)]) w))) [.code [1,1,1,1]] ⟨[(0,.int .i64 st),(3,(pt w.heap.size 0)),(4,(pt (w.heap.size + 1) 0)),(5,.int .i64 0),(6,(pt g13 0))],(un_b3 s w g13),[],y13⟩:=by
  intro g13 y13 hg13 hy13
  refine holds_bk [⟨w.heap.size,9,true,[.string s]⟩,⟨w.heap.size + 1,25,true,(un_v1)⟩,⟨g13,25,true,(un_v18 s)⟩] (by
   have e1:=congr (congrArg (fun u_ v_:Bool=>([⟨w.heap.size,9,true,[.string s]⟩,⟨w.heap.size + 1,25,true,(un_v1)⟩,⟨g13,25,true,[.bool u_,.int .i64 0,.int .i64 0,.int .i64 0,.string ⟨#[]⟩,.bool v_,.int .i64 0,.int .i64 0,.int .i64 (byteAt s 18),.string ⟨#[]⟩]⟩]:List Bk)) (used_eq s)) (open_eq s)
   exact e1) ?_
  refine holds_fact (fun wx hm=>hm.size ▸ (hm.at_ 2 rfl).lt) (fun hgy=>?_)
  replace hgy:g13 < y13:=hgy
  refine hgE 11 [oh0,(oA 3 0 1)] [0,3,4,5,6,7] [] [(y13,0,1)] [.ops [1,1,1,1,1,0,0] [0],.code [1,1,1,1,1,0,1],.code [1,1,1,1,1,1]] ⟨[(0,i6 st),(3,(pt w.heap.size 0)),(4,(pt (w.heap.size + 1) 0)),(5,i6 0),(6,(pt g13 0)),(7,(pt y13 0))],[⟨w.heap.size,9,true,[sT s]⟩,⟨w.heap.size + 1,25,true,(un_v1)⟩,⟨g13,25,true,(un_v18 s)⟩,⟨y13,3,true,[i6 3]⟩],[],y13 + 1⟩ ?_
  refine holds_callM (.func (.func 68) #[] #[(pt (y13 + 1) 0)]) (un_b13 s w g13 y13) (show _ = some (46,[(pt g13 0)],some 39,[]) by kernel_rfl) tI rfl (fun wx hm=>?_) fun z17 hz17=>?_
  ·refine (nums_any _ wx).mono fun e w' he=>?_
   obtain ⟨h7,h8,h9⟩:=he
   rw [hm.size] at h7 h8
   exact ⟨h7,hm.add h9 [⟨y13 + 1,79,false,[(pt g13 0)]⟩] ⟨h8,trivial⟩ (by simp) (by simp)⟩
  replace hz17:y13 + 1 ≤ z17:=hz17
  refine hgE 5 [] [0,3,4,5,6,7,39] [] [] [.code [1,1,1,1,1,0,1,0],.blk 0,.code [1,1,1,1,1,1]] ⟨[(0,i6 st),(3,(pt w.heap.size 0)),(4,(pt (w.heap.size + 1) 0)),(5,i6 0),(6,(pt g13 0)),(7,(pt y13 0)),(39,.func (.func 68) #[] #[(pt (y13 + 1) 0)])],(un_b13 s w g13 y13),[],z17⟩ ?_
  refine holds_range (α:=Nat) (wn:=[]) (Bn:=y13 + 1) (N:=5) (enc:=fun i=>.pointer (some ⟨g13,numOff i,none⟩)) (Sq:=fun xs=>xs = [0,1,2,3,4]) (Spq:=NumsSp) rfl rfl (enters_of Try.func68 (by kernel_rfl) rfl) (fun wx hm=>hm.size ▸ (hm.at_ 4 rfl).lt) (by rintro ⟨b,hb,hr,he⟩; simp at hb; rcases hb with rfl | rfl | rfl | rfl | rfl <;> simp at he hr <;> omega) (fun wx hm=>nums_stops _ _ _ wx (hm.at_ 4 rfl))
   (fun _=>True) (fun _=>False) (fun pre=>(unpBk w g13 y13 s pre)) (fun pre=>(unpBk w g13 y13 s pre)) rfl trivial (fun _=>rfl) (fun _=>rfl) (fun x=>[(8,.pointer (some ⟨g13,numOff x,none⟩)),(40,.pointer (some ⟨g13,numOff x,none⟩)),(0,.int .i64 st),(3,(pt w.heap.size 0)),(4,(pt (w.heap.size + 1) 0)),(5,.int .i64 0),(6,(pt g13 0)),(7,(pt y13 0)),(39,.func (.func 68) #[] #[(pt (y13 + 1) 0)])]) (fun x=>[(40,.pointer (some ⟨g13,numOff x,none⟩)),(0,.int .i64 st),(3,(pt w.heap.size 0)),(4,(pt (w.heap.size + 1) 0)),(5,.int .i64 0),(6,(pt g13 0)),(7,(pt y13 0)),(39,.func (.func 68) #[] #[(pt (y13 + 1) 0)])]) (fun _=>rfl) ?_ ?_ ?_ (fun _ _ _ _ h=>h.elim)
  ·intro x l W
   refine hgER (fun _=>tI) 6 [oh0] [8,40,0,3,4,5,6,7,39] [] [] [] ⟨[(8,.pointer (some ⟨g13,numOff x,none⟩)),(40,.pointer (some ⟨g13,numOff x,none⟩)),(0,i6 st),(3,(pt w.heap.size 0)),(4,(pt (w.heap.size + 1) 0)),(5,i6 0),(6,(pt g13 0)),(7,(pt y13 0)),(39,.func (.func 68) #[] #[(pt (y13 + 1) 0)])],[],[],W.heap.size⟩ ?_
   exact holdsR_end (fun a wx hf hm=>⟨rfl,hm.kept,hf⟩)
  ·intro l pre x W Z hZ _ hlen
   have hx:numOff x = 1 ∨ numOff x = 2 ∨ numOff x = 3 ∨ numOff x = 6 ∨ numOff x = 7:=numOff_is x
   obtain ⟨k,hk⟩:∃ k,3 + 3 * pre.length = k:=⟨_,rfl⟩
   have eb:(unpBk w g13 y13 s pre) = (un_b4 s w pre k g13 y13):=by
    unfold unpBk
    rw [hk]
    rfl
   have c0:=byteAt_bd s (Int.toNat ((k:Int)))
   have c1:=byteAt_bd s (Int.toNat ((k:Int) + 1))
   have c2:=byteAt_bd s (Int.toNat ((k:Int) + 2))
   have h2:=or_two c0 c1
   have h4:=num_or s k
   rcases hx with hx | hx | hx | hx | hx <;> rw [hx,eb]
   ·skip
    refine hgER (fun _=>tI) 5 [] [3,4,5,7,8] [] [] [.code un_n1,.code un_n2,.blk 1] ⟨[(3,(pt w.heap.size 0)),(4,(pt (w.heap.size + 1) 0)),(5,i6 0),(7,(pt y13 0)),(8,(pt g13 1))],(un_b4 s w pre k g13 y13),[],Z⟩ ?_
    refine holdsR_mix (fun _=>tI) (J:=1) (vs:=(un_v3 s k g13)) (stg:=un_n13) [4,5,7] (by kernel_rfl) (by kernel_rfl) (by kernel_rfl) (un_m21 s w Z pre k g13 y13) ⟨rfl,by kernel_rfl,by kernel_rfl⟩ ⟨tI,tI,tI,⟨⟨by omega,by omega⟩,tI⟩,⟨in64 (by omega),tI⟩,tI,tI,⟨in64 (by omega),tI⟩,⟨⟨by omega,by omega⟩,tI⟩,⟨in64 (by omega),tI⟩,⟨⟨in64 (by omega),by decide,by decide⟩,tI⟩,⟨(bits_ob64 (by omega) (by omega)),tI⟩,tI,tI,⟨in64 (by omega),tI⟩,⟨⟨by omega,by omega⟩,tI⟩,⟨in64 (by omega),tI⟩,⟨⟨in64 (by omega),by decide,by decide⟩,tI⟩,⟨(bits_ob64 (by omega) (by omega)),tI⟩,tI,tI,tI⟩ rfl rfl (by kernel_rfl:_ = [(4,(pt (w.heap.size + 1) 0)),(5,i6 0),(7,(pt y13 0))]) ?_
    refine hgER (fun _=>tI) 9 un_n20 [4,5] [n64 (((k:Int) + 3))] [(y13,0,1),(y13,0,1)] [] ⟨[(4,(pt (w.heap.size + 1) 0)),(5,i6 0)],(un_b14 s w pre k g13 y13),[],Z⟩ ?_
    exact holdsR_end (fun a wx hf hm=>.inl ⟨rfl,trivial,by
     have e:(unpBk w g13 y13 s (pre ++ [x])) = (un_b14 s w pre k g13 y13):=by
      have e3:((3 + 3 * (pre ++ [x]).length:Nat):Int) = (k:Int) + 3:=by rw [List.length_append,List.length_singleton]; omega
      unfold unpBk
      rw [e3,nv_at hx,nv_ne (o:=2) (by rw [hx]; decide),nv_ne (o:=3) (by rw [hx]; decide),nv_ne (o:=6) (by rw [hx]; decide),nv_ne (o:=7) (by rw [hx]; decide),hk,← h4]
      rfl
     show MemOk _ _ (unpBk w g13 y13 s (pre ++ [x])) _ _ _
     rw [e]
     exact hm.here⟩)
   ·skip
    refine hgER (fun _=>tI) 5 [] [3,4,5,7,8] [] [] [.code un_n1,.code un_n2,.blk 1] ⟨[(3,(pt w.heap.size 0)),(4,(pt (w.heap.size + 1) 0)),(5,i6 0),(7,(pt y13 0)),(8,(pt g13 2))],(un_b4 s w pre k g13 y13),[],Z⟩ ?_
    refine holdsR_mix (fun _=>tI) (J:=1) (vs:=(un_v6 s k g13)) (stg:=un_n13) [4,5,7] (by kernel_rfl) (by kernel_rfl) (by kernel_rfl) (un_m24 s w Z pre k g13 y13) ⟨rfl,by kernel_rfl,by kernel_rfl⟩ ⟨tI,tI,tI,⟨⟨by omega,by omega⟩,tI⟩,⟨in64 (by omega),tI⟩,tI,tI,⟨in64 (by omega),tI⟩,⟨⟨by omega,by omega⟩,tI⟩,⟨in64 (by omega),tI⟩,⟨⟨in64 (by omega),by decide,by decide⟩,tI⟩,⟨(bits_ob64 (by omega) (by omega)),tI⟩,tI,tI,⟨in64 (by omega),tI⟩,⟨⟨by omega,by omega⟩,tI⟩,⟨in64 (by omega),tI⟩,⟨⟨in64 (by omega),by decide,by decide⟩,tI⟩,⟨(bits_ob64 (by omega) (by omega)),tI⟩,tI,tI,tI⟩ rfl rfl (by kernel_rfl:_ = [(4,(pt (w.heap.size + 1) 0)),(5,i6 0),(7,(pt y13 0))]) ?_
    refine hgER (fun _=>tI) 9 un_n20 [4,5] [n64 (((k:Int) + 3))] [(y13,0,1),(y13,0,1)] [] ⟨[(4,(pt (w.heap.size + 1) 0)),(5,i6 0)],(un_b15 s w pre k g13 y13),[],Z⟩ ?_
    exact holdsR_end (fun a wx hf hm=>.inl ⟨rfl,trivial,by
     have e:(unpBk w g13 y13 s (pre ++ [x])) = (un_b15 s w pre k g13 y13):=by
      have e3:((3 + 3 * (pre ++ [x]).length:Nat):Int) = (k:Int) + 3:=by rw [List.length_append,List.length_singleton]; omega
      unfold unpBk
      rw [e3,nv_ne (o:=1) (by rw [hx]; decide),nv_at hx,nv_ne (o:=3) (by rw [hx]; decide),nv_ne (o:=6) (by rw [hx]; decide),nv_ne (o:=7) (by rw [hx]; decide),hk,← h4]
      rfl
     show MemOk _ _ (unpBk w g13 y13 s (pre ++ [x])) _ _ _
     rw [e]
     exact hm.here⟩)
   ·skip
    refine hgER (fun _=>tI) 5 [] [3,4,5,7,8] [] [] [.code un_n1,.code un_n2,.blk 1] ⟨[(3,(pt w.heap.size 0)),(4,(pt (w.heap.size + 1) 0)),(5,i6 0),(7,(pt y13 0)),(8,(pt g13 3))],(un_b4 s w pre k g13 y13),[],Z⟩ ?_
    refine holdsR_mix (fun _=>tI) (J:=1) (vs:=(un_v8 s k g13)) (stg:=un_n13) [4,5,7] (by kernel_rfl) (by kernel_rfl) (by kernel_rfl) (un_m27 s w Z pre k g13 y13) ⟨rfl,by kernel_rfl,by kernel_rfl⟩ ⟨tI,tI,tI,⟨⟨by omega,by omega⟩,tI⟩,⟨in64 (by omega),tI⟩,tI,tI,⟨in64 (by omega),tI⟩,⟨⟨by omega,by omega⟩,tI⟩,⟨in64 (by omega),tI⟩,⟨⟨in64 (by omega),by decide,by decide⟩,tI⟩,⟨(bits_ob64 (by omega) (by omega)),tI⟩,tI,tI,⟨in64 (by omega),tI⟩,⟨⟨by omega,by omega⟩,tI⟩,⟨in64 (by omega),tI⟩,⟨⟨in64 (by omega),by decide,by decide⟩,tI⟩,⟨(bits_ob64 (by omega) (by omega)),tI⟩,tI,tI,tI⟩ rfl rfl (by kernel_rfl:_ = [(4,(pt (w.heap.size + 1) 0)),(5,i6 0),(7,(pt y13 0))]) ?_
    refine hgER (fun _=>tI) 9 un_n20 [4,5] [n64 (((k:Int) + 3))] [(y13,0,1),(y13,0,1)] [] ⟨[(4,(pt (w.heap.size + 1) 0)),(5,i6 0)],(un_b16 s w pre k g13 y13),[],Z⟩ ?_
    exact holdsR_end (fun a wx hf hm=>.inl ⟨rfl,trivial,by
     have e:(unpBk w g13 y13 s (pre ++ [x])) = (un_b16 s w pre k g13 y13):=by
      have e3:((3 + 3 * (pre ++ [x]).length:Nat):Int) = (k:Int) + 3:=by rw [List.length_append,List.length_singleton]; omega
      unfold unpBk
      rw [e3,nv_ne (o:=1) (by rw [hx]; decide),nv_ne (o:=2) (by rw [hx]; decide),nv_at hx,nv_ne (o:=6) (by rw [hx]; decide),nv_ne (o:=7) (by rw [hx]; decide),hk,← h4]
      rfl
     show MemOk _ _ (unpBk w g13 y13 s (pre ++ [x])) _ _ _
     rw [e]
     exact hm.here⟩)
   ·skip
    refine hgER (fun _=>tI) 5 [] [3,4,5,7,8] [] [] [.code un_n1,.code un_n2,.blk 1] ⟨[(3,(pt w.heap.size 0)),(4,(pt (w.heap.size + 1) 0)),(5,i6 0),(7,(pt y13 0)),(8,(pt g13 6))],(un_b4 s w pre k g13 y13),[],Z⟩ ?_
    refine holdsR_mix (fun _=>tI) (J:=1) (vs:=(un_v10 s k g13)) (stg:=un_n13) [4,5,7] (by kernel_rfl) (by kernel_rfl) (by kernel_rfl) (un_m30 s w Z pre k g13 y13) ⟨rfl,by kernel_rfl,by kernel_rfl⟩ ⟨tI,tI,tI,⟨⟨by omega,by omega⟩,tI⟩,⟨in64 (by omega),tI⟩,tI,tI,⟨in64 (by omega),tI⟩,⟨⟨by omega,by omega⟩,tI⟩,⟨in64 (by omega),tI⟩,⟨⟨in64 (by omega),by decide,by decide⟩,tI⟩,⟨(bits_ob64 (by omega) (by omega)),tI⟩,tI,tI,⟨in64 (by omega),tI⟩,⟨⟨by omega,by omega⟩,tI⟩,⟨in64 (by omega),tI⟩,⟨⟨in64 (by omega),by decide,by decide⟩,tI⟩,⟨(bits_ob64 (by omega) (by omega)),tI⟩,tI,tI,tI⟩ rfl rfl (by kernel_rfl:_ = [(4,(pt (w.heap.size + 1) 0)),(5,i6 0),(7,(pt y13 0))]) ?_
    refine hgER (fun _=>tI) 9 un_n20 [4,5] [n64 (((k:Int) + 3))] [(y13,0,1),(y13,0,1)] [] ⟨[(4,(pt (w.heap.size + 1) 0)),(5,i6 0)],(un_b17 s w pre k g13 y13),[],Z⟩ ?_
    exact holdsR_end (fun a wx hf hm=>.inl ⟨rfl,trivial,by
     have e:(unpBk w g13 y13 s (pre ++ [x])) = (un_b17 s w pre k g13 y13):=by
      have e3:((3 + 3 * (pre ++ [x]).length:Nat):Int) = (k:Int) + 3:=by rw [List.length_append,List.length_singleton]; omega
      unfold unpBk
      rw [e3,nv_ne (o:=1) (by rw [hx]; decide),nv_ne (o:=2) (by rw [hx]; decide),nv_ne (o:=3) (by rw [hx]; decide),nv_at hx,nv_ne (o:=7) (by rw [hx]; decide),hk,← h4]
      rfl
     show MemOk _ _ (unpBk w g13 y13 s (pre ++ [x])) _ _ _
     rw [e]
     exact hm.here⟩)
   ·skip
    refine hgER (fun _=>tI) 5 [] [3,4,5,7,8] [] [] [.code un_n1,.code un_n2,.blk 1] ⟨[(3,(pt w.heap.size 0)),(4,(pt (w.heap.size + 1) 0)),(5,i6 0),(7,(pt y13 0)),(8,(pt g13 7))],(un_b4 s w pre k g13 y13),[],Z⟩ ?_
    refine holdsR_mix (fun _=>tI) (J:=1) (vs:=(un_v12 s k g13)) (stg:=un_n13) [4,5,7] (by kernel_rfl) (by kernel_rfl) (by kernel_rfl) (un_m33 s w Z pre k g13 y13) ⟨rfl,by kernel_rfl,by kernel_rfl⟩ ⟨tI,tI,tI,⟨⟨by omega,by omega⟩,tI⟩,⟨in64 (by omega),tI⟩,tI,tI,⟨in64 (by omega),tI⟩,⟨⟨by omega,by omega⟩,tI⟩,⟨in64 (by omega),tI⟩,⟨⟨in64 (by omega),by decide,by decide⟩,tI⟩,⟨(bits_ob64 (by omega) (by omega)),tI⟩,tI,tI,⟨in64 (by omega),tI⟩,⟨⟨by omega,by omega⟩,tI⟩,⟨in64 (by omega),tI⟩,⟨⟨in64 (by omega),by decide,by decide⟩,tI⟩,⟨(bits_ob64 (by omega) (by omega)),tI⟩,tI,tI,tI⟩ rfl rfl (by kernel_rfl:_ = [(4,(pt (w.heap.size + 1) 0)),(5,i6 0),(7,(pt y13 0))]) ?_
    refine hgER (fun _=>tI) 9 un_n20 [4,5] [n64 (((k:Int) + 3))] [(y13,0,1),(y13,0,1)] [] ⟨[(4,(pt (w.heap.size + 1) 0)),(5,i6 0)],(un_b18 s w pre k g13 y13),[],Z⟩ ?_
    exact holdsR_end (fun a wx hf hm=>.inl ⟨rfl,trivial,by
     have e:(unpBk w g13 y13 s (pre ++ [x])) = (un_b18 s w pre k g13 y13):=by
      have e3:((3 + 3 * (pre ++ [x]).length:Nat):Int) = (k:Int) + 3:=by rw [List.length_append,List.length_singleton]; omega
      unfold unpBk
      rw [e3,nv_ne (o:=1) (by rw [hx]; decide),nv_ne (o:=2) (by rw [hx]; decide),nv_ne (o:=3) (by rw [hx]; decide),nv_ne (o:=6) (by rw [hx]; decide),nv_at hx,hk,← h4]
      rfl
     show MemOk _ _ (unpBk w g13 y13 s (pre ++ [x])) _ _ _
     rw [e]
     exact hm.here⟩)
  ·rintro D xs W rfl _ hmW hD hW hK
   have eb:(unpBk w g13 y13 s [0,1,2,3,4]) = (un_b11 s w g13 y13):=by kernel_rfl
   rw [eb] at hmW ⊢
   have hKT:¬ Turned (un_b11 s w g13 y13) D:=not_turned hmW hK
   refine hgE 10 [oh0,(oA 2 0 1)] [0,3,4,5,6,64] [] [(g13,0,1)] [.code [1,1,1,1,1,1,0,1],.code [1,1,1,1,1,1,1]] ⟨[(0,i6 st),(3,(pt w.heap.size 0)),(4,(pt (w.heap.size + 1) 0)),(5,i6 0),(6,(pt g13 0)),(64,.bool (usedS s))],(un_b11 s w g13 y13),[],W.heap.size⟩ ?_
   rcases Bool.eq_false_or_eq_true (usedS s) with d1 | d1
   ·skip
    refine hgE 16 [oh1,(oA 0 0 1),oh2,oh0,(oA 2 4 1),oh0,(oA 2 5 1)] [0,3,4,5,6,69] [eD d1,oE ((0:Int) ≤ 19 ∧ (19:Int) ≤ 35 ∧ 35 ≤ ((s).size:Int))] [(w.heap.size,0,1),(g13,4,1),(g13,5,1)] [.code [1,1,1,1,1,1,1,0,1],.code [1,1,1,1,1,1,1,1]] ⟨[(0,i6 st),(3,(pt w.heap.size 0)),(4,(pt (w.heap.size + 1) 0)),(5,i6 0),(6,(pt g13 0)),(69,.bool (openS s))],(un_b7 s w g13 y13),[],W.heap.size⟩ ?_
    rcases Bool.eq_false_or_eq_true (openS s) with d2 | d2
    ·skip
     refine hgE 15 un_n19 [3,4,5,6,74,75] [eD d2,oE ((0:Int) ≤ 35 ∧ (35:Int) ≤ 51 ∧ 51 ≤ ((s).size:Int))] [(w.heap.size,0,1),(g13,9,1),(g13,0,10)] [.ops un_n3 [2,3,4,5,6,7],.code un_n7,.code un_n9] ⟨[(3,(pt w.heap.size 0)),(4,(pt (w.heap.size + 1) 0)),(5,i6 0),(6,(pt g13 0)),(74,i6 st),(75,.agg (List.toArray (un_v14 s)))],(un_b5 s w g13 y13),[],W.heap.size⟩ ?_
     have hT:(takeR s).cells = (un_v14 s):=takeR_cells d1 d2
     refine hcp (.tuple #[sT (packT st (takeR s)),i6 (packE st (takeR s))]) 12 [i6 st,.agg (List.toArray (un_v14 s))] (some 76) [] tI rfl (fun wx hm=>pack_cells st (takeR s) hT wx) fun z38 hz38=>?_
     replace hz38:W.heap.size ≤ z38:=hz38
     refine hgE 14 un_n14 [3,4,5,6,9,81] [] [] [.ops un_n4 [3,4,5,6],.code un_n6,.code un_n9] ⟨[(3,(pt w.heap.size 0)),(4,(pt (w.heap.size + 1) 0)),(5,i6 0),(6,(pt g13 0)),(9,sT (packT st (takeR s))),(81,.bool ((packE st (takeR s)) != 0))],(un_b5 s w g13 y13),[],z38⟩ ?_
     rcases Bool.eq_false_or_eq_true ((packE st (takeR s)) != 0) with d3 | d3
     ·skip
      refine hgE 15 un_n18 [4,5,6] [eD d3,eD d3,eD d3,eD d3,tT] [(w.heap.size + 1,0,10)] [.code un_n5,.code un_n9] ⟨[(4,(pt (w.heap.size + 1) 0)),(5,i6 80),(6,(pt g13 0))],(un_b5 s w g13 y13),[],z38⟩ ?_
      refine holds_retN [[⟨false,1,0,10⟩]] (Array.getElem?_eq_some_iff.1 hK).1 hK hKT (by kernel_rfl) (un_r41 s w g13 y13) (fun wx hm=>?_)
      refine ⟨by
       have e2:takeNone st s = false:=by
        unfold takeNone
        rw [hz,Bool.and_false]
       have e1:takeGood st s = false:=by
        unfold takeGood
        rw [show (packE st (takeR s) == 0) = false from beq_eq_false_iff_ne.2 (bne_iff_ne.1 d3),Bool.and_false,Bool.false_and]
       unfold unpackR unpackE
       rw [e1,e2]
       rfl,range_kept hmW hm.kept (fun k hk hT=>?_)⟩
      rcases hT with ⟨b,hb,hr,he⟩ | rfl
      ·simp at hb; rcases hb with rfl | rfl | rfl | rfl | rfl <;> simp at he hr <;> omega
      ·omega
     ·skip
      refine hgE 8 un_n15 [4,5,6,85] [eD d3,eD d3,eD d3,eD d3] [(w.heap.size,0,1)] [.code un_n6,.code un_n9] ⟨[(4,(pt (w.heap.size + 1) 0)),(5,i6 0),(6,(pt g13 0)),(85,.bool (!(ByteArray.toList (packT st (takeR s)) == ByteArray.toList s)))],(un_b5 s w g13 y13),[],z38⟩ ?_
      rcases Bool.eq_false_or_eq_true (ByteArray.toList (packT st (takeR s)) == ByteArray.toList s) with d4 | d4
      ·skip
       refine hgE 11 un_n16 [4,5] [eD (nF d4)] [(g13,0,10),(w.heap.size + 1,0,10)] [.code un_n8] ⟨[(4,(pt (w.heap.size + 1) 0)),(5,i6 0)],(un_b6 s w g13 y13),[],z38⟩ ?_
       refine holds_retN [[⟨false,1,0,10⟩]] (Array.getElem?_eq_some_iff.1 hK).1 hK hKT (by kernel_rfl) (un_r44 s w g13 y13) (fun wx hm=>?_)
       refine ⟨by
        have e2:takeNone st s = false:=by
         unfold takeNone
         rw [hz,Bool.and_false]
        have e1:takeGood st s = true:=by
         unfold takeGood
         rw [hz,beq_iff_eq.2 h3,decide_eq_true (show 0 ≤ st by omega),decide_eq_true (show st < 8 by omega),d4,show (packE st (takeR s) == 0) = true from beq_iff_eq.2 (bne_eq_false_iff_eq.1 d3)]
         rfl
        unfold unpackR unpackE
        rw [e1,e2]
        rw [cond_true,Bool.true_or,cond_true,hT]
        rfl,range_kept hmW hm.kept (fun k hk hT=>?_)⟩
       rcases hT with ⟨b,hb,hr,he⟩ | rfl
       ·simp at hb; rcases hb with rfl | rfl | rfl | rfl | rfl <;> simp at he hr <;> omega
       ·omega
      ·skip
       refine hgE 10 un_n17 [4,5,6] [eD (nT d4)] [(w.heap.size + 1,0,10)] [.code un_n5,.code un_n9] ⟨[(4,(pt (w.heap.size + 1) 0)),(5,i6 80),(6,(pt g13 0))],(un_b5 s w g13 y13),[],z38⟩ ?_
       refine holds_retN [[⟨false,1,0,10⟩]] (Array.getElem?_eq_some_iff.1 hK).1 hK hKT (by kernel_rfl) (un_r46 s w g13 y13) (fun wx hm=>?_)
       refine ⟨by
        have e2:takeNone st s = false:=by
         unfold takeNone
         rw [hz,Bool.and_false]
        have e1:takeGood st s = false:=by
         unfold takeGood
         rw [d4,Bool.and_false]
        unfold unpackR unpackE
        rw [e1,e2]
        rfl,range_kept hmW hm.kept (fun k hk hT=>?_)⟩
       rcases hT with ⟨b,hb,hr,he⟩ | rfl
       ·simp at hb; rcases hb with rfl | rfl | rfl | rfl | rfl <;> simp at he hr <;> omega
       ·omega
    ·skip
     refine hgE 10 [oh0,oh0,(oA 2 0 10)] [3,4,5,6,74,75] [eD d2] [(g13,0,10)] [.ops un_n3 [2,3,4,5,6,7],.code un_n7,.code un_n9] ⟨[(3,(pt w.heap.size 0)),(4,(pt (w.heap.size + 1) 0)),(5,i6 0),(6,(pt g13 0)),(74,i6 st),(75,.agg (List.toArray (un_v15 s)))],(un_b7 s w g13 y13),[],W.heap.size⟩ ?_
     have hT:(takeR s).cells = (un_v15 s):=takeR_cells d1 d2
     refine hcp (.tuple #[sT (packT st (takeR s)),i6 (packE st (takeR s))]) 12 [i6 st,.agg (List.toArray (un_v15 s))] (some 76) [] tI rfl (fun wx hm=>pack_cells st (takeR s) hT wx) fun z48 hz48=>?_
     replace hz48:W.heap.size ≤ z48:=hz48
     refine hgE 14 un_n14 [3,4,5,6,9,81] [] [] [.ops un_n4 [3,4,5,6],.code un_n6,.code un_n9] ⟨[(3,(pt w.heap.size 0)),(4,(pt (w.heap.size + 1) 0)),(5,i6 0),(6,(pt g13 0)),(9,sT (packT st (takeR s))),(81,.bool ((packE st (takeR s)) != 0))],(un_b7 s w g13 y13),[],z48⟩ ?_
     rcases Bool.eq_false_or_eq_true ((packE st (takeR s)) != 0) with d5 | d5
     ·skip
      refine hgE 15 un_n18 [4,5,6] [eD d5,eD d5,eD d5,eD d5,tT] [(w.heap.size + 1,0,10)] [.code un_n5,.code un_n9] ⟨[(4,(pt (w.heap.size + 1) 0)),(5,i6 80),(6,(pt g13 0))],(un_b7 s w g13 y13),[],z48⟩ ?_
      refine holds_retN [[⟨false,1,0,10⟩]] (Array.getElem?_eq_some_iff.1 hK).1 hK hKT (by kernel_rfl) (un_r51 s w g13 y13) (fun wx hm=>?_)
      refine ⟨by
       have e2:takeNone st s = false:=by
        unfold takeNone
        rw [hz,Bool.and_false]
       have e1:takeGood st s = false:=by
        unfold takeGood
        rw [show (packE st (takeR s) == 0) = false from beq_eq_false_iff_ne.2 (bne_iff_ne.1 d5),Bool.and_false,Bool.false_and]
       unfold unpackR unpackE
       rw [e1,e2]
       rfl,range_kept hmW hm.kept (fun k hk hT=>?_)⟩
      rcases hT with ⟨b,hb,hr,he⟩ | rfl
      ·simp at hb; rcases hb with rfl | rfl | rfl | rfl | rfl <;> simp at he hr <;> omega
      ·omega
     ·skip
      refine hgE 8 un_n15 [4,5,6,85] [eD d5,eD d5,eD d5,eD d5] [(w.heap.size,0,1)] [.code un_n6,.code un_n9] ⟨[(4,(pt (w.heap.size + 1) 0)),(5,i6 0),(6,(pt g13 0)),(85,.bool (!(ByteArray.toList (packT st (takeR s)) == ByteArray.toList s)))],(un_b7 s w g13 y13),[],z48⟩ ?_
      rcases Bool.eq_false_or_eq_true (ByteArray.toList (packT st (takeR s)) == ByteArray.toList s) with d6 | d6
      ·skip
       refine hgE 11 un_n16 [4,5] [eD (nF d6)] [(g13,0,10),(w.heap.size + 1,0,10)] [.code un_n8] ⟨[(4,(pt (w.heap.size + 1) 0)),(5,i6 0)],(un_b8 s w g13 y13),[],z48⟩ ?_
       refine holds_retN [[⟨false,1,0,10⟩]] (Array.getElem?_eq_some_iff.1 hK).1 hK hKT (by kernel_rfl) (un_r54 s w g13 y13) (fun wx hm=>?_)
       refine ⟨by
        have e2:takeNone st s = false:=by
         unfold takeNone
         rw [hz,Bool.and_false]
        have e1:takeGood st s = true:=by
         unfold takeGood
         rw [hz,beq_iff_eq.2 h3,decide_eq_true (show 0 ≤ st by omega),decide_eq_true (show st < 8 by omega),d6,show (packE st (takeR s) == 0) = true from beq_iff_eq.2 (bne_eq_false_iff_eq.1 d5)]
         rfl
        unfold unpackR unpackE
        rw [e1,e2]
        rw [cond_true,Bool.true_or,cond_true,hT]
        rfl,range_kept hmW hm.kept (fun k hk hT=>?_)⟩
       rcases hT with ⟨b,hb,hr,he⟩ | rfl
       ·simp at hb; rcases hb with rfl | rfl | rfl | rfl | rfl <;> simp at he hr <;> omega
       ·omega
      ·skip
       refine hgE 10 un_n17 [4,5,6] [eD (nT d6)] [(w.heap.size + 1,0,10)] [.code un_n5,.code un_n9] ⟨[(4,(pt (w.heap.size + 1) 0)),(5,i6 80),(6,(pt g13 0))],(un_b7 s w g13 y13),[],z48⟩ ?_
       refine holds_retN [[⟨false,1,0,10⟩]] (Array.getElem?_eq_some_iff.1 hK).1 hK hKT (by kernel_rfl) (un_r56 s w g13 y13) (fun wx hm=>?_)
       refine ⟨by
        have e2:takeNone st s = false:=by
         unfold takeNone
         rw [hz,Bool.and_false]
        have e1:takeGood st s = false:=by
         unfold takeGood
         rw [d6,Bool.and_false]
        unfold unpackR unpackE
        rw [e1,e2]
        rfl,range_kept hmW hm.kept (fun k hk hT=>?_)⟩
       rcases hT with ⟨b,hb,hr,he⟩ | rfl
       ·simp at hb; rcases hb with rfl | rfl | rfl | rfl | rfl <;> simp at he hr <;> omega
       ·omega
   ·skip
    refine hgE 11 [oh0,oh0,(oA 2 5 1)] [0,3,4,5,6,69] [eD d1] [(g13,5,1)] [.code [1,1,1,1,1,1,1,0,1],.code [1,1,1,1,1,1,1,1]] ⟨[(0,i6 st),(3,(pt w.heap.size 0)),(4,(pt (w.heap.size + 1) 0)),(5,i6 0),(6,(pt g13 0)),(69,.bool (openS s))],(un_b11 s w g13 y13),[],W.heap.size⟩ ?_
    rcases Bool.eq_false_or_eq_true (openS s) with d7 | d7
    ·skip
     refine hgE 15 un_n19 [3,4,5,6,74,75] [eD d7,oE ((0:Int) ≤ 35 ∧ (35:Int) ≤ 51 ∧ 51 ≤ ((s).size:Int))] [(w.heap.size,0,1),(g13,9,1),(g13,0,10)] [.ops un_n3 [2,3,4,5,6,7],.code un_n7,.code un_n9] ⟨[(3,(pt w.heap.size 0)),(4,(pt (w.heap.size + 1) 0)),(5,i6 0),(6,(pt g13 0)),(74,i6 st),(75,.agg (List.toArray (un_v16 s)))],(un_b9 s w g13 y13),[],W.heap.size⟩ ?_
     have hT:(takeR s).cells = (un_v16 s):=takeR_cells d1 d7
     refine hcp (.tuple #[sT (packT st (takeR s)),i6 (packE st (takeR s))]) 12 [i6 st,.agg (List.toArray (un_v16 s))] (some 76) [] tI rfl (fun wx hm=>pack_cells st (takeR s) hT wx) fun z59 hz59=>?_
     replace hz59:W.heap.size ≤ z59:=hz59
     refine hgE 14 un_n14 [3,4,5,6,9,81] [] [] [.ops un_n4 [3,4,5,6],.code un_n6,.code un_n9] ⟨[(3,(pt w.heap.size 0)),(4,(pt (w.heap.size + 1) 0)),(5,i6 0),(6,(pt g13 0)),(9,sT (packT st (takeR s))),(81,.bool ((packE st (takeR s)) != 0))],(un_b9 s w g13 y13),[],z59⟩ ?_
     rcases Bool.eq_false_or_eq_true ((packE st (takeR s)) != 0) with d8 | d8
     ·skip
      refine hgE 15 un_n18 [4,5,6] [eD d8,eD d8,eD d8,eD d8,tT] [(w.heap.size + 1,0,10)] [.code un_n5,.code un_n9] ⟨[(4,(pt (w.heap.size + 1) 0)),(5,i6 80),(6,(pt g13 0))],(un_b9 s w g13 y13),[],z59⟩ ?_
      refine holds_retN [[⟨false,1,0,10⟩]] (Array.getElem?_eq_some_iff.1 hK).1 hK hKT (by kernel_rfl) (un_r62 s w g13 y13) (fun wx hm=>?_)
      refine ⟨by
       have e2:takeNone st s = false:=by
        unfold takeNone
        rw [hz,Bool.and_false]
       have e1:takeGood st s = false:=by
        unfold takeGood
        rw [show (packE st (takeR s) == 0) = false from beq_eq_false_iff_ne.2 (bne_iff_ne.1 d8),Bool.and_false,Bool.false_and]
       unfold unpackR unpackE
       rw [e1,e2]
       rfl,range_kept hmW hm.kept (fun k hk hT=>?_)⟩
      rcases hT with ⟨b,hb,hr,he⟩ | rfl
      ·simp at hb; rcases hb with rfl | rfl | rfl | rfl | rfl <;> simp at he hr <;> omega
      ·omega
     ·skip
      refine hgE 8 un_n15 [4,5,6,85] [eD d8,eD d8,eD d8,eD d8] [(w.heap.size,0,1)] [.code un_n6,.code un_n9] ⟨[(4,(pt (w.heap.size + 1) 0)),(5,i6 0),(6,(pt g13 0)),(85,.bool (!(ByteArray.toList (packT st (takeR s)) == ByteArray.toList s)))],(un_b9 s w g13 y13),[],z59⟩ ?_
      rcases Bool.eq_false_or_eq_true (ByteArray.toList (packT st (takeR s)) == ByteArray.toList s) with d9 | d9
      ·skip
       refine hgE 11 un_n16 [4,5] [eD (nF d9)] [(g13,0,10),(w.heap.size + 1,0,10)] [.code un_n8] ⟨[(4,(pt (w.heap.size + 1) 0)),(5,i6 0)],(un_b10 s w g13 y13),[],z59⟩ ?_
       refine holds_retN [[⟨false,1,0,10⟩]] (Array.getElem?_eq_some_iff.1 hK).1 hK hKT (by kernel_rfl) (un_r65 s w g13 y13) (fun wx hm=>?_)
       refine ⟨by
        have e2:takeNone st s = false:=by
         unfold takeNone
         rw [hz,Bool.and_false]
        have e1:takeGood st s = true:=by
         unfold takeGood
         rw [hz,beq_iff_eq.2 h3,decide_eq_true (show 0 ≤ st by omega),decide_eq_true (show st < 8 by omega),d9,show (packE st (takeR s) == 0) = true from beq_iff_eq.2 (bne_eq_false_iff_eq.1 d8)]
         rfl
        unfold unpackR unpackE
        rw [e1,e2]
        rw [cond_true,Bool.true_or,cond_true,hT]
        rfl,range_kept hmW hm.kept (fun k hk hT=>?_)⟩
       rcases hT with ⟨b,hb,hr,he⟩ | rfl
       ·simp at hb; rcases hb with rfl | rfl | rfl | rfl | rfl <;> simp at he hr <;> omega
       ·omega
      ·skip
       refine hgE 10 un_n17 [4,5,6] [eD (nT d9)] [(w.heap.size + 1,0,10)] [.code un_n5,.code un_n9] ⟨[(4,(pt (w.heap.size + 1) 0)),(5,i6 80),(6,(pt g13 0))],(un_b9 s w g13 y13),[],z59⟩ ?_
       refine holds_retN [[⟨false,1,0,10⟩]] (Array.getElem?_eq_some_iff.1 hK).1 hK hKT (by kernel_rfl) (un_r67 s w g13 y13) (fun wx hm=>?_)
       refine ⟨by
        have e2:takeNone st s = false:=by
         unfold takeNone
         rw [hz,Bool.and_false]
        have e1:takeGood st s = false:=by
         unfold takeGood
         rw [d9,Bool.and_false]
        unfold unpackR unpackE
        rw [e1,e2]
        rfl,range_kept hmW hm.kept (fun k hk hT=>?_)⟩
       rcases hT with ⟨b,hb,hr,he⟩ | rfl
       ·simp at hb; rcases hb with rfl | rfl | rfl | rfl | rfl <;> simp at he hr <;> omega
       ·omega
    ·skip
     refine hgE 10 [oh0,oh0,(oA 2 0 10)] [3,4,5,6,74,75] [eD d7] [(g13,0,10)] [.ops un_n3 [2,3,4,5,6,7],.code un_n7,.code un_n9] ⟨[(3,(pt w.heap.size 0)),(4,(pt (w.heap.size + 1) 0)),(5,i6 0),(6,(pt g13 0)),(74,i6 st),(75,.agg (List.toArray (un_v17 s)))],(un_b11 s w g13 y13),[],W.heap.size⟩ ?_
     have hT:(takeR s).cells = (un_v17 s):=takeR_cells d1 d7
     refine hcp (.tuple #[sT (packT st (takeR s)),i6 (packE st (takeR s))]) 12 [i6 st,.agg (List.toArray (un_v17 s))] (some 76) [] tI rfl (fun wx hm=>pack_cells st (takeR s) hT wx) fun z69 hz69=>?_
     replace hz69:W.heap.size ≤ z69:=hz69
     refine hgE 14 un_n14 [3,4,5,6,9,81] [] [] [.ops un_n4 [3,4,5,6],.code un_n6,.code un_n9] ⟨[(3,(pt w.heap.size 0)),(4,(pt (w.heap.size + 1) 0)),(5,i6 0),(6,(pt g13 0)),(9,sT (packT st (takeR s))),(81,.bool ((packE st (takeR s)) != 0))],(un_b11 s w g13 y13),[],z69⟩ ?_
     rcases Bool.eq_false_or_eq_true ((packE st (takeR s)) != 0) with d10 | d10
     ·skip
      refine hgE 15 un_n18 [4,5,6] [eD d10,eD d10,eD d10,eD d10,tT] [(w.heap.size + 1,0,10)] [.code un_n5,.code un_n9] ⟨[(4,(pt (w.heap.size + 1) 0)),(5,i6 80),(6,(pt g13 0))],(un_b11 s w g13 y13),[],z69⟩ ?_
      refine holds_retN [[⟨false,1,0,10⟩]] (Array.getElem?_eq_some_iff.1 hK).1 hK hKT (by kernel_rfl) (un_r72 s w g13 y13) (fun wx hm=>?_)
      refine ⟨by
       have e2:takeNone st s = false:=by
        unfold takeNone
        rw [hz,Bool.and_false]
       have e1:takeGood st s = false:=by
        unfold takeGood
        rw [show (packE st (takeR s) == 0) = false from beq_eq_false_iff_ne.2 (bne_iff_ne.1 d10),Bool.and_false,Bool.false_and]
       unfold unpackR unpackE
       rw [e1,e2]
       rfl,range_kept hmW hm.kept (fun k hk hT=>?_)⟩
      rcases hT with ⟨b,hb,hr,he⟩ | rfl
      ·simp at hb; rcases hb with rfl | rfl | rfl | rfl | rfl <;> simp at he hr <;> omega
      ·omega
     ·skip
      refine hgE 8 un_n15 [4,5,6,85] [eD d10,eD d10,eD d10,eD d10] [(w.heap.size,0,1)] [.code un_n6,.code un_n9] ⟨[(4,(pt (w.heap.size + 1) 0)),(5,i6 0),(6,(pt g13 0)),(85,.bool (!(ByteArray.toList (packT st (takeR s)) == ByteArray.toList s)))],(un_b11 s w g13 y13),[],z69⟩ ?_
      rcases Bool.eq_false_or_eq_true (ByteArray.toList (packT st (takeR s)) == ByteArray.toList s) with d11 | d11
      ·skip
       refine hgE 11 un_n16 [4,5] [eD (nF d11)] [(g13,0,10),(w.heap.size + 1,0,10)] [.code un_n8] ⟨[(4,(pt (w.heap.size + 1) 0)),(5,i6 0)],(un_b12 s w g13 y13),[],z69⟩ ?_
       refine holds_retN [[⟨false,1,0,10⟩]] (Array.getElem?_eq_some_iff.1 hK).1 hK hKT (by kernel_rfl) (un_r75 s w g13 y13) (fun wx hm=>?_)
       refine ⟨by
        have e2:takeNone st s = false:=by
         unfold takeNone
         rw [hz,Bool.and_false]
        have e1:takeGood st s = true:=by
         unfold takeGood
         rw [hz,beq_iff_eq.2 h3,decide_eq_true (show 0 ≤ st by omega),decide_eq_true (show st < 8 by omega),d11,show (packE st (takeR s) == 0) = true from beq_iff_eq.2 (bne_eq_false_iff_eq.1 d10)]
         rfl
        unfold unpackR unpackE
        rw [e1,e2]
        rw [cond_true,Bool.true_or,cond_true,hT]
        rfl,range_kept hmW hm.kept (fun k hk hT=>?_)⟩
       rcases hT with ⟨b,hb,hr,he⟩ | rfl
       ·simp at hb; rcases hb with rfl | rfl | rfl | rfl | rfl <;> simp at he hr <;> omega
       ·omega
      ·skip
       refine hgE 10 un_n17 [4,5,6] [eD (nT d11)] [(w.heap.size + 1,0,10)] [.code un_n5,.code un_n9] ⟨[(4,(pt (w.heap.size + 1) 0)),(5,i6 80),(6,(pt g13 0))],(un_b11 s w g13 y13),[],z69⟩ ?_
       refine holds_retN [[⟨false,1,0,10⟩]] (Array.getElem?_eq_some_iff.1 hK).1 hK hKT (by kernel_rfl) (un_r77 s w g13 y13) (fun wx hm=>?_)
       refine ⟨by
        have e2:takeNone st s = false:=by
         unfold takeNone
         rw [hz,Bool.and_false]
        have e1:takeGood st s = false:=by
         unfold takeGood
         rw [d11,Bool.and_false]
        unfold unpackR unpackE
        rw [e1,e2]
        rfl,range_kept hmW hm.kept (fun k hk hT=>?_)⟩
       rcases hT with ⟨b,hb,hr,he⟩ | rfl
       ·simp at hb; rcases hb with rfl | rfl | rfl | rfl | rfl <;> simp at he hr <;> omega
       ·omega
 have H1:∀ (g13 y13:Nat),z8 ≤ g13 → z8 ≤ y13 → Holds [] Try.prog (bodyOf Try.f14) 88 w (fun _=>False) (noPanic (bodyPostM Fence.wide 5 Try.prog Try.f14 (RetK (.tuple #[.agg (unpackR st s).cells.toArray,.int .i64 (unpackE st s)]) w))) (.any [1,1,1,0] 1 un_n11 :: [.code [1,1,1,1]]) ⟨[(6,(pt g13 0)),(0,.int .i64 st),(3,(pt w.heap.size 0)),(4,(pt (w.heap.size + 1) 0)),(5,.int .i64 0),(38,.agg (List.toArray (un_v2 s)))],(un_b2 s w g13),[],y13⟩:=by
  intro g13 y13 hg13 hy13
  refine holds_tail panicOk_no _ _ (un_t14 st s w g13 y13) trivial ?_
  refine holds_done (by kernel_rfl) ?_
  exact HZ g13 _ (by omega) (by omega)
 refine holds_float (fl:=12) (t:=25) (d:=6) (cs:=(un_v1)) (ls0:=un_n10) (ls1:=un_n11) (f:=1) 12 _ _ (by kernel_rfl) (by kernel_rfl) (by kernel_rfl) (by kernel_rfl) (by decide) (by kernel_rfl) (by kernel_rfl) (by kernel_rfl) (un_q13 st s w z8) ⟨⟨by omega,by omega⟩,(bits_ob8 (by omega) (by omega)),⟨by omega,by omega⟩,(bits_ob8 (by omega) (by omega)),⟨by omega,by omega⟩,in64 (by omega),trivial⟩ H1 ?_
 intro y13 hy13
 replace hy13:z8 ≤ y13:=hy13
 refine holds_tail panicOk_no _ _ (un_t15 st s w y13) trivial ?_
 refine holds_done (by kernel_rfl) ?_
 exact HZ _ _ (by omega) (by omega)
end Go.Proofs.Ytpilmccjjbgmiaa
