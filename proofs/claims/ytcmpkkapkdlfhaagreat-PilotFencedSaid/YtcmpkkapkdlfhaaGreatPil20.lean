import Derived.Test.YtcmpkkapkdlfhaaGreatPil2
namespace Go.Proofs.YtcmpkkapkdlfhaaGreat
open Go.RowKit
set_option maxHeartbeats 4000000
set_option maxRecDepth 100000
section
variable (x:PilC) (pb:Nat) (w:World) (at_:Int)
def pbr_v1:List Value:=[i6 3,i6 at_,sT ⟨#[]⟩,i6 at_,i6 0,.nilFunc,.bool false,i6 0,i6 0,i6 (-1),.bool false,i6 0,i6 0,.slice none 0 0,.slice none 0 0,.bool false,.slice none 0 0,.slice none 0 0] ++ rp 6 (sT ⟨#[]⟩) ++ [.pointer none]
def pbr_v2:List Value:=[i6 0,i6 0,sT ⟨#[]⟩,i6 0,i6 0,.nilFunc,.bool false] ++ rp 3 (i6 0) ++ [.bool false,i6 0,i6 0,.slice none 0 0,.slice none 0 0,.bool false,.slice none 0 0,.slice none 0 0] ++ rp 6 (sT ⟨#[]⟩) ++ [.pointer none]
def pbr_n1:List Nat:=[1,1,0,0,1,0,1,0]
@[simp] def pbr_b1:List Bk:=[⟨pb,98,false,(PilC.cells x)⟩,⟨w.heap.size,38,true,[i6 3,i6 at_,sT ⟨#[]⟩]⟩,⟨w.heap.size + 1,96,true,(pbr_v2)⟩,⟨w.heap.size + 2,96,true,(pbr_v1 at_)⟩]
@[simp] def pbr_b2:List Bk:=[⟨pb,98,false,(PilC.cells x)⟩,⟨w.heap.size,38,true,[i6 3,i6 at_,sT ⟨#[]⟩]⟩,⟨w.heap.size + 1,96,true,(pbr_v1 at_)⟩,⟨w.heap.size + 2,96,true,(pbr_v1 at_)⟩]
def pbr_g2s:List (Nat × Value):=[(0,(pt pb 0)),(3,(pt w.heap.size 0)),(4,(pt (w.heap.size + 1) 0)),(5,.bool false),(6,(pt (w.heap.size + 2) 0))]
def pbr_g2v:List (Option Value):=[some (.agg (List.toArray (pbr_v1 at_))),some ((pt w.heap.size 2)),some (sT ⟨#[]⟩),some (.bool (ByteArray.toList ⟨#[]⟩ == ByteArray.toList ⟨#[]⟩)),some (.bool (ByteArray.toList ⟨#[]⟩ == ByteArray.toList ⟨#[]⟩)),some ((pt w.heap.size 1)),some (i6 at_),some (.bool (decide ((at_:Int) ≥ 0))),some (.bool (decide ((at_:Int) ≥ 0))),some (.bool (decide ((at_:Int) ≥ 0))),some ((pt w.heap.size 1)),some (i6 at_),some ((pt pb 0)),some ((pt pb 0)),some ((pt pb 0)),some ((pt pb 1)),some (i6 x.S),some (.bool (decide ((at_:Int) < x.S))),some (.bool (decide ((at_:Int) < x.S))),some (.tuple #[]),some (.bool (decide ((at_:Int) < x.S)))]
def pbr_g2m:List (List Bk):=[(pbr_b1 x pb w at_),(pbr_b2 x pb w at_)]
def pbr_g2t:List (Option Nat):=[none,none,none,none,none,none,none,none,none,none,none,none,none,none,none,none,none,none,none,some 0,none]
theorem pbr_g2_19:∀ sz,opG Tryz.prog (opsOf (getCode (bodyOf Tryz.f30) pbr_n1)) ⟨slG (opsOf (getCode (bodyOf Tryz.f30) pbr_n1)) (pbr_g2v x pb w at_) (slI (opsOf (getCode (bodyOf Tryz.f30) pbr_n1)) (pbr_g2s pb w) 19) (needsOf (opsOf (getCode (bodyOf Tryz.f30) pbr_n1)) 19),(pbr_b1 x pb w at_),[],sz⟩ 19 (oA 2 0 25) = some ([],dupR [(w.heap.size + 1,0,25)],undef,(pbr_b2 x pb w at_),sz):=fun sz=>by kernel_rfl
def pbr_g2C (i_:Nat):Prop:=CertG (wpOp Tryz.prog (opsOf (getCode (bodyOf Tryz.f30) pbr_n1)) (sem Tryz.prog (bodyOf Tryz.f30) (bodyPost Tryz.prog Tryz.f30 (RetK (.tuple #[.agg (List.toArray (pbr_v1 at_)),.bool true]) w)) [.code [1,1,0,0,1,0,1,1],.blk 0,.code [1,1,1]])) [] 75 (opsOf (getCode (bodyOf Tryz.f30) pbr_n1)) (slI (opsOf (getCode (bodyOf Tryz.f30) pbr_n1)) (pbr_g2s pb w) i_) (pbr_g2t) 1 (MG w (fun _=>False) (pbr_g2m x pb w at_) [] (w.heap.size + 3)) (Turned (pbr_b1 x pb w at_)) (PvG (pbr_g2v x pb w at_) (fun _ _ _=>False)) i_
end
theorem pil_begunReb (x:PilC) (pb:Nat) (at_:Int)  (hat:0 ≤ at_ ∧ at_ < x.S) (w:World) (hP:Blk w pb 98 (PilC.cells x)) :
  Calls Tryz.prog 30 #[.pointer (some ⟨pb,0,none⟩),.agg #[i6 3,i6 at_,sT ⟨#[]⟩]] w (RetK (.tuple #[.agg #[i6 3,i6 at_,sT ⟨#[]⟩,i6 at_,i6 0,.nilFunc,.bool false,i6 0,i6 0,i6 (-1),.bool false,i6 0,i6 0,.slice none 0 0,.slice none 0 0,.bool false,.slice none 0 0,.slice none 0 0,sT ⟨#[]⟩,sT ⟨#[]⟩,sT ⟨#[]⟩,sT ⟨#[]⟩,sT ⟨#[]⟩,sT ⟨#[]⟩,.pointer none],.bool true]) w):=by
 refine cH (S:=(fun _=>False)) (n:=75) Tryz.func30 (MemOk.start (bk:=[⟨pb,98,false,(PilC.cells x)⟩]) (wn:=[]) (fun b hb=>by obtain rfl:=List.mem_singleton.1 hb; exact hP) (fun b hb _=>by obtain rfl:=List.mem_singleton.1 hb; cases ‹_›) (by simp) (by simp)) ?_
 refine hgE 34 (dz 16 0x1033800101180100010018019003800030018000) [0,3,4,5,6] [tT] [(w.heap.size,0,3),(w.heap.size + 2,0,25),(w.heap.size,0,1),(w.heap.size,1,1),(w.heap.size + 2,3,1)] [.code pbr_n1,.code [1,1,0,0,1,0,1,1],.blk 0,.code [1,1,1]] ⟨[(0,(pt pb 0)),(3,(pt w.heap.size 0)),(4,(pt (w.heap.size + 1) 0)),(5,.bool false),(6,(pt (w.heap.size + 2) 0))],(pbr_b1 x pb w at_),[],w.heap.size + 3⟩ ?_
 have pbr_g2_c19:pbr_g2C x pb w at_ 19:=cert_store (s:=0) (v:=undef) (by kernel_rfl) (by kernel_rfl) (by kernel_rfl) (by kernel_rfl) (by kernel_rfl) (pbr_g2_19 x pb w at_) trivial
 have pbr_g2_R:∀ e_ ∈ (rZs [1,3,4,9,20] ++ [⟨0,(oA 3 0 25),[],[(w.heap.size + 2,0,25)]⟩,rG 2 1 2 1 w.heap.size,⟨5,oh1,[oE ((ByteArray.toList ⟨#[]⟩ == ByteArray.toList ⟨#[]⟩) = true) (beq_self_eq_true _)],[]⟩,⟨6,⟨true,0,[⟨false,1,1,1⟩]⟩,[oE ((ByteArray.toList ⟨#[]⟩ == ByteArray.toList ⟨#[]⟩) = true) (beq_self_eq_true _)],[(w.heap.size,1,1)]⟩,⟨7,oh1,[oE ((ByteArray.toList ⟨#[]⟩ == ByteArray.toList ⟨#[]⟩) = true) (beq_self_eq_true _)],[]⟩,⟨8,oh3,[oE ((ByteArray.toList ⟨#[]⟩ == ByteArray.toList ⟨#[]⟩) = true) (beq_self_eq_true _)],[]⟩,⟨10,oh1,[dT ((at_:Int) ≥ 0)],[]⟩,⟨11,⟨true,0,[⟨false,1,1,1⟩]⟩,[dT ((at_:Int) ≥ 0)],[(w.heap.size,1,1)]⟩,⟨12,oh1,[dT ((at_:Int) ≥ 0)],[]⟩,⟨13,oh1,[dT ((at_:Int) ≥ 0)],[]⟩,⟨14,oh1,[dT ((at_:Int) ≥ 0)],[]⟩,⟨15,oh1,[dT ((at_:Int) ≥ 0)],[]⟩,⟨16,⟨true,0,[⟨false,0,1,1⟩]⟩,[dT ((at_:Int) ≥ 0)],[(pb,1,1)]⟩,⟨17,oh1,[dT ((at_:Int) ≥ 0)],[]⟩,⟨18,oh3,[dT ((at_:Int) ≥ 0)],[]⟩]:List RegE),pbr_g2C x pb w at_ e_.i:=certs_reg (by kernel_rfl) _ (fun sz=>by kernel_rfl)
 refine holds_mixG (vs:=(pbr_g2v x pb w at_)) (ms:=(pbr_g2m x pb w at_)) (stg:=(pbr_g2t)) (J:=1) (sl':=[(4,(pt (w.heap.size + 1) 0)),(5,.bool (decide ((at_:Int) < x.S))),(6,(pt (w.heap.size + 2) 0))]) (bk':=(pbr_b2 x pb w at_)) (fun _ _ _=>False) [4,5,6] (by kernel_rfl) (by kernel_rfl) (by kernel_rfl) (fun _ _ _ _ h=>h.elim) (certs_mix pbr_g2_R [19] ⟨pbr_g2_c19,tI⟩ (by kernel_rfl)) (by kernel_rfl) (by kernel_rfl) (by kernel_rfl) (fun z2 hz2=>?_)
 replace hz2:w.heap.size + 3 ≤ z2:=hz2
 refine hgS 3 [] [4,5,6] [] [] [.code [1,1,0,0,1,0,1,1],.blk 0,.code [1,1,1]] (pbr_b2 x pb w at_) [] z2 ?_
 refine hrt [[⟨false,2,0,25⟩]] [.agg (List.toArray (pbr_v1 at_)),.bool (decide ((at_:Int) < x.S))] [(w.heap.size + 1,0,25)] ?_
 intro wx hm
 exact ⟨by rw [show decide (at_ < x.S) = true from decide_eq_true (by omega)]; rfl,hm.kept⟩
section
variable (x:PilC) (pb:Nat) (w:World) (at_:Int) (da:ByteArray) (kd:Int) (g:Nat)
def pbd_v1:List Value:=[i6 (at_ / (x.N - 1)),i6 (at_ % (x.N - 1)),i6 ((at_ % (x.N - 1) + at_ / (x.N - 1)) % x.N)]
def pbd_v2:List Value:=pbr_v2
def pbd_v3:List Value:=((((pbr_v1 at_).set 0 (i6 kd)).set 2 (sT da)).set 3 (i6 0))
def pbd_v4:List Value:=(((pbd_v3 at_ da kd).set 3 (i6 (at_ / (x.N - 1)))).set 4 (i6 (at_ % (x.N - 1))))
def pbd_v5:List Value:=((pbd_v4 x at_ da kd).set 4 (i6 0))
def pbd_n1:List Nat:=[1,1,0,0,1,1,1,0,0]
def pbd_n2:List Nat:=[1,1,0,0,1,1,1,0,1,0]
def pbd_n3:List Nat:=[1,1,0,0,1,1,1,0,1]
@[simp] def pbd_b1:List Bk:=[⟨pb,98,false,(PilC.cells x)⟩,⟨w.heap.size,38,true,[i6 kd,i6 at_,sT da]⟩,⟨w.heap.size + 1,96,true,(pbd_v2)⟩,⟨w.heap.size + 2,96,true,(pbd_v3 at_ da kd)⟩]
@[simp] def pbd_b2 (d:Option Nat):List Bk:=[⟨pb,98,false,(PilC.cells x)⟩,⟨w.heap.size,38,true,[i6 kd,i6 at_,sT da]⟩,⟨w.heap.size + 1,96,true,(pbd_v2)⟩,⟨w.heap.size + 2,96,true,(pbd_v3 at_ da kd)⟩,⟨(d.getD 0),126,true,(pbd_v1 x at_)⟩]
@[simp] def pbd_b3:List Bk:=[⟨pb,98,false,(PilC.cells x)⟩,⟨w.heap.size,38,true,[i6 kd,i6 at_,sT da]⟩,⟨w.heap.size + 1,96,true,(pbd_v2)⟩,⟨w.heap.size + 2,96,true,(pbd_v3 at_ da kd)⟩,⟨g,126,true,(pbd_v1 x at_)⟩]
@[simp] def pbd_b4:List Bk:=[⟨pb,98,false,(PilC.cells x)⟩,⟨w.heap.size,38,true,[i6 kd,i6 at_,sT da]⟩,⟨w.heap.size + 1,96,true,(pbd_v2)⟩,⟨w.heap.size + 2,96,true,(pbd_v5 x at_ da kd)⟩,⟨g,126,true,(pbd_v1 x at_)⟩]
@[simp] def pbd_b5:List Bk:=[⟨pb,98,false,(PilC.cells x)⟩,⟨w.heap.size,38,true,[i6 kd,i6 at_,sT da]⟩,⟨w.heap.size + 1,96,true,(pbd_v2)⟩,⟨w.heap.size + 2,96,true,(pbd_v4 x at_ da kd)⟩,⟨g,126,true,(pbd_v1 x at_)⟩]
def pbd_Q:Exit → Act → World → Prop:=bodyPost Tryz.prog Tryz.f30 (RetK (.tuple #[.agg (List.toArray (pbd_v4 x at_ da kd)),.bool true]) w)
def pbd_y2s:List (Nat × Value):=[(0,(pt pb 0)),(3,(pt w.heap.size 0)),(4,(pt (w.heap.size + 1) 0)),(5,.bool false),(6,(pt (w.heap.size + 2) 0))]
def pbd_y2v (d:Option Nat):List (Option Value):=[some ((pt pb 0)),some ((pt pb 0)),some ((pt pb 0)),some (.agg #[i6 x.N,i6 x.S]),some ((pt w.heap.size 1)),some (i6 at_),some (.tuple #[.agg (List.toArray (pbd_v1 x at_)),i6 0]),some (.tuple #[.agg (List.toArray (pbd_v1 x at_)),i6 0]),some (.agg (List.toArray (pbd_v1 x at_))),some (i6 0),some (.pointer (some ⟨(d.getD 0),0,none⟩)),some (.tuple #[]),some (i6 0)]
def pbd_y2F (d:Option Nat) (k:Nat):Bool:=([true,true,true,true,true,true,true,true,true,true,d.isSome,true,true]:List Bool)[k]?.getD true
def pbd_y2m (d:Option Nat):List (List Bk):=[(pbd_b1 x pb w at_ da kd),(pbd_b2 x pb w at_ da kd d)]
abbrev pbd_y2X (w:World) (c_:Nat) (d:Option Nat) (W_:World):Prop:=match c_ with | 0=>(True) ∧ (∀ g_,d = some g_ → (w.heap.size + 3) ≤ g_ ∧ Blk W_ g_ 126 [i6 0,i6 0,i6 0]) | 1=>(w.heap.size + 3 ≤ d.getD 0) ∧ True | _=>True
def pbd_y2C (i_:Nat):Prop:=cY Tryz.prog Tryz.f30 pbd_n1 75 [] (pbd_Q x w at_ da kd) [.code pbd_n3,.blk 0,.code [1,1,1]] (pbd_y2s pb w) [none,none,none,none,none,none,none,none,none,none,none,some 0,none] 1 (pbd_y2v x pb w at_) pbd_y2F w (fun _=>False) (pbd_y2m x pb w at_ da kd) (w.heap.size + 3) (pbd_y2X w) i_
def pbd_g4s:List (Nat × Value):=[(4,(pt (w.heap.size + 1) 0)),(5,.bool false),(6,(pt (w.heap.size + 2) 0)),(7,(pt g 0)),(8,i6 0)]
def pbd_g4v:List (Option Value):=[some ((pt g 0)),some (i6 (at_ / (x.N - 1))),some ((pt g 1)),some (i6 (at_ % (x.N - 1))),some ((pt (w.heap.size + 2) 3)),some (.tuple #[]),some ((pt (w.heap.size + 2) 4)),some (.tuple #[])]
def pbd_g4m:List (List Bk):=[(pbd_b3 x pb w at_ da kd g),(pbd_b4 x pb w at_ da kd g),(pbd_b5 x pb w at_ da kd g)]
def pbd_g4t:List (Option Nat):=[none,none,none,none,none,some 0,none,some 1]
theorem pbd_g4_5:∀ sz,opG Tryz.prog (opsOf (getCode (bodyOf Tryz.f30) pbd_n2)) ⟨slG (opsOf (getCode (bodyOf Tryz.f30) pbd_n2)) (pbd_g4v x w at_ g) (slI (opsOf (getCode (bodyOf Tryz.f30) pbd_n2)) (pbd_g4s w g) 5) (needsOf (opsOf (getCode (bodyOf Tryz.f30) pbd_n2)) 5),(pbd_b3 x pb w at_ da kd g),[],sz⟩ 5 (oA 3 3 1) = some ([],dupR [(w.heap.size + 2,3,1)],undef,(pbd_b4 x pb w at_ da kd g),sz):=fun sz=>by kernel_rfl
theorem pbd_g4_7:∀ sz,opG Tryz.prog (opsOf (getCode (bodyOf Tryz.f30) pbd_n2)) ⟨slG (opsOf (getCode (bodyOf Tryz.f30) pbd_n2)) (pbd_g4v x w at_ g) (slI (opsOf (getCode (bodyOf Tryz.f30) pbd_n2)) (pbd_g4s w g) 7) (needsOf (opsOf (getCode (bodyOf Tryz.f30) pbd_n2)) 7),(pbd_b4 x pb w at_ da kd g),[],sz⟩ 7 (oA 3 4 1) = some ([],dupR [(w.heap.size + 2,4,1)],undef,(pbd_b5 x pb w at_ da kd g),sz):=fun sz=>by kernel_rfl
def pbd_g4C (W1:World) (at_:Int) (da:ByteArray) (kd:Int) (g:Nat) (i_:Nat):Prop:=CertG (wpOp Tryz.prog (opsOf (getCode (bodyOf Tryz.f30) pbd_n2)) (sem Tryz.prog (bodyOf Tryz.f30) (pbd_Q x w at_ da kd) [.code [1,1,0,0,1,1,1,0,1,1],.blk 0,.code [1,1,1]])) [] 75 (opsOf (getCode (bodyOf Tryz.f30) pbd_n2)) (slI (opsOf (getCode (bodyOf Tryz.f30) pbd_n2)) (pbd_g4s w g) i_) (pbd_g4t) 2 (MG W1 (Turned (pbd_b3 x pb w at_ da kd g)) (pbd_g4m x pb w at_ da kd g) [] W1.heap.size) (Turned (pbd_b3 x pb w at_ da kd g)) (PvG (pbd_g4v x w at_ g) (fun _ _ _=>False)) i_
end
theorem pil_begunRW (x:PilC) (pb:Nat) (at_:Int) (kd:Int) (da:ByteArray) (hkd:(kd = 1 ∧ da = ⟨#[]⟩) ∨ (kd = 2 ∧ da.size = 16)) (hg:3 ≤ x.N ∧ x.N ≤ 6 ∧ 1 ≤ x.S ∧ x.S ≤ 8) (hat:0 ≤ at_ ∧ at_ < x.S * (x.N - 1)) (w:World) (hP:Blk w pb 98 (PilC.cells x)) :
  Calls Tryz.prog 30 #[.pointer (some ⟨pb,0,none⟩),.agg #[i6 kd,i6 at_,sT da]] w (RetK (.tuple #[.agg #[i6 kd,i6 at_,sT da,i6 (at_ / (x.N - 1)),i6 (at_ % (x.N - 1)),.nilFunc,.bool false,i6 0,i6 0,i6 (-1),.bool false,i6 0,i6 0,.slice none 0 0,.slice none 0 0,.bool false,.slice none 0 0,.slice none 0 0,sT ⟨#[]⟩,sT ⟨#[]⟩,sT ⟨#[]⟩,sT ⟨#[]⟩,sT ⟨#[]⟩,sT ⟨#[]⟩,.pointer none],.bool true]) w):=by
 refine cH (S:=(fun _=>False)) (n:=75) Tryz.func30 (MemOk.start (bk:=[⟨pb,98,false,(PilC.cells x)⟩]) (wn:=[]) (fun b hb=>by obtain rfl:=List.mem_singleton.1 hb; exact hP) (fun b hb _=>by obtain rfl:=List.mem_singleton.1 hb; cases ‹_›) (by simp) (by simp)) ?_
 suffices HZ:Holds [] Tryz.prog (bodyOf Tryz.f30) 75 w (fun _=>False) (pbd_Q x w at_ da kd) [.code pbd_n1,.code pbd_n3,.blk 0,.code [1,1,1]] ⟨[(0,(pt pb 0)),(3,(pt w.heap.size 0)),(4,(pt (w.heap.size + 1) 0)),(5,.bool false),(6,(pt (w.heap.size + 2) 0))],(pbd_b1 x pb w at_ da kd),[],w.heap.size + 3⟩ by
  rcases hkd with ⟨hk1,hd1⟩ | ⟨hk1,hd1⟩
  ·skip
   refine hgE 43 (dz 23 0x110310102191000100180000010018019003800030018000) [0,3,4,5,6] ([oE ((kd == 3) = false) (by rw [hk1]; decide)] ++ rE 4 (oE ((kd == 1) = true) (by rw [hk1]; decide)) ++ rE 2 (oE ((ByteArray.toList da == ByteArray.toList ⟨#[]⟩) = true) (by rw [hd1]; exact beq_self_eq_true _))) [(w.heap.size,0,3),(w.heap.size + 2,0,25),(w.heap.size,0,1),(w.heap.size,0,1),(w.heap.size,2,1)] [.code pbd_n1,.code pbd_n3,.blk 0,.code [1,1,1]] ⟨[(0,(pt pb 0)),(3,(pt w.heap.size 0)),(4,(pt (w.heap.size + 1) 0)),(5,.bool false),(6,(pt (w.heap.size + 2) 0))],(pbd_b1 x pb w at_ da kd),[],w.heap.size + 3⟩ ?_
   exact HZ
  ·skip
   refine hgE 54 (dz 33 0x103110102191000100180004000000100180000010018019003800030018000) [0,3,4,5,6] ([oE ((kd == 3) = false) (by rw [hk1]; decide)] ++ rE 4 (oE ((kd == 1) = false) (by rw [hk1]; decide)) ++ [fF] ++ rE 5 (oE ((kd == 2) = true) (by rw [hk1]; decide)) ++ [oE (((da.size:Int) == 16) = true) (by rw [hd1]; rfl)]) [(w.heap.size,0,3),(w.heap.size + 2,0,25),(w.heap.size,0,1),(w.heap.size,0,1),(w.heap.size,0,1),(w.heap.size,2,1)] [.code pbd_n1,.code pbd_n3,.blk 0,.code [1,1,1]] ⟨[(0,(pt pb 0)),(3,(pt w.heap.size 0)),(4,(pt (w.heap.size + 1) 0)),(5,.bool false),(6,(pt (w.heap.size + 2) 0))],(pbd_b1 x pb w at_ da kd),[],w.heap.size + 3⟩ ?_
   exact HZ
 have pbd_y2_X:StayY w (fun _=>False) (pbd_y2m x pb w at_ da kd) (pbd_y2X w):=by
  intro c_ d wx w' bk hb hm hx hk
  match c_,hb,hx with
  | 0,hb,hx=>
   obtain rfl:=Option.some.inj hb
   refine ⟨trivial,fun g_ hg_=>⟨(hx.2 g_ hg_).1,(hx.2 g_ hg_).2.kept hk (fun ⟨b,hb,hr,he⟩=>?_)⟩⟩
   have h9:=(hx.2 g_ hg_).1
   simp at hb
   rcases hb with rfl | rfl | rfl | rfl
   ·cases hr
   ·dsimp only at he
    omega
   ·dsimp only at he
    omega
   ·dsimp only at he
    omega
  | 1,hb,hx=>
   obtain rfl:=Option.some.inj hb
   exact ⟨hx.1,trivial⟩
  | c_ + 2,hb,hx=>exact trivial
 have pbd_y2_c6:pbd_y2C x pb w at_ da kd 6:=certY_call (B:=1) (f:=45) (args:=fun d=>[.agg #[i6 x.N,i6 x.S],i6 at_]) (ob:=fun d=>[]) (fun d=>.tuple #[.agg (List.toArray (pbd_v1 x at_)),i6 0]) (by kernel_rfl) (.inl rfl) (fun d=>by kernel_rfl) (fun d=>by kernel_rfl) (fun d=>by kernel_rfl) (fun d=>trivial) (fun c_ d wx bk hc hb hm hx=>plat_of x.N x.S at_ hg hat wx) pbd_y2_X
 have pbd_y2_c10:pbd_y2C x pb w at_ da kd 10:=cyN 0 126 [i6 0,i6 0,i6 0] (fun _ g=>some g) (fun g=>(pt g 0)) (fun c_ d wx w' bk hcB hb hm hx hk hz hBl=>by
  have hs:=pbd_y2_X c_ d wx w' bk hb hm hx hk
  match c_,hb,hx,hs,hcB with
  | 0,hb,hx,hs,hcB=>exact ⟨hs.1,(fun g_ hg_=>by obtain rfl:=Option.some.inj hg_; exact ⟨hz,hBl⟩)⟩
  | c_ + 1,hb,hx,hs,hcB=>exact absurd hcB (by omega))
 have pbd_y2_c11:pbd_y2C x pb w at_ da kd 11:=cyS (s:=0) (x:=fun d=>Instr.storeAt 126 (.pointer (some ⟨(d.getD 0),0,none⟩)) (.agg (List.toArray (pbd_v1 x at_)))) (fun (d:Option Nat) (_:Unit)=>d) (fun d wx bk hb hm hx hcame=>by
  obtain rfl:=Option.some.inj hb
  obtain ⟨g_,rfl⟩:∃ g_,d = some g_:=Option.isSome_iff_exists.1 (hcame 10 (List.mem_of_getElem? (i:=0) (by kernel_rfl)) (dst_ne (k:=7) (by kernel_rfl)))
  obtain ⟨hzg,hBg⟩:=hx.2 g_ rfl
  obtain ⟨w',h1,hB1,hk1,hz1⟩:=store_to (P:=Tryz.prog) (t:=126) (v:=.agg (List.toArray (pbd_v1 x at_))) (by kernel_rfl) hBg rfl (by show 0 + 3 ≤ 3; omega) (ones_all rfl) rfl
  refine ⟨(),w',h1,rfl,⟨hzg,trivial⟩,hm.adopt (g:=g_) hk1 hB1 (by omega) (fun b hb e=>?_),Nat.le_of_eq hz1.symm⟩
  have h8:=blk_ty (hm.blk b hb)
  simp at hb
  rcases hb with rfl | rfl | rfl | rfl <;> exact ty_off (blk_ty hBg) e h8 rfl)
 have pbd_y2_R:∀ e_ ∈ (rZsY 1 [0,1,2,4,7,8,9,12] ++ [rY 3 1 0 0 2 pb,rY 5 1 1 1 1 w.heap.size]:List (RegY (Option Nat))),pbd_y2C x pb w at_ da kd e_.i:=certsY_reg _ pbd_y2_X (fun d=>by kernel_rfl) (by kernel_rfl) (fun d sz=>by kernel_rfl)
 have pbd_y2_A:∀ i_,i_ < 13 → pbd_y2C x pb w at_ da kd i_:=allY (l:=[6,10,11]) (by kernel_rfl) pbd_y2_R ⟨pbd_y2_c6,pbd_y2_c10,pbd_y2_c11,trivial⟩
 refine holds_mixY (Δ:=Option Nat) (fun _=>False) (pbd_y2v x pb w at_) pbd_y2F (pbd_y2m x pb w at_ da kd) (pbd_y2X w) [4,5,6,7,8] (fun d=>[(4,(pt (w.heap.size + 1) 0)),(5,.bool false),(6,(pt (w.heap.size + 2) 0)),(7,.pointer (some ⟨(d.getD 0),0,none⟩)),(8,i6 0)]) (fun d=>(pbd_b2 x pb w at_ da kd d)) none (fun _ h=>h) (by kernel_rfl) (by kernel_rfl) (by kernel_rfl) (fun wx hm=>⟨tI,fun _ h=>by cases h⟩) (by kernel_rfl) pbd_y2_A (fun d=>by kernel_rfl) (fun d=>by kernel_rfl) (fun d W1 hfin hX1 hz1 hm1=>?_)
 obtain ⟨g,rfl⟩:∃ g,d = some g:=Option.isSome_iff_exists.1 (hfin 10 (Nat.le_of_ble_eq_true (by kernel_rfl)) (dst_ne (k:=7) (by kernel_rfl)))
 replace hX1:w.heap.size + 3 ≤ g:=hX1.1
 replace hm1:MemOk w (fun _=>False) (pbd_b3 x pb w at_ da kd g) [] W1.heap.size W1:=hm1
 change Holds _ _ _ _ W1 (Turned (pbd_b3 x pb w at_ da kd g)) _ [.code pbd_n3,.blk 0,.code [1,1,1]] ⟨[(4,(pt (w.heap.size + 1) 0)),(5,.bool false),(6,(pt (w.heap.size + 2) 0)),(7,(pt g 0)),(8,i6 0)],(pbd_b3 x pb w at_ da kd g),[],W1.heap.size⟩
 refine hgE 4 [] [4,5,6,7,8] [] [] [.code pbd_n2,.code [1,1,0,0,1,1,1,0,1,1],.blk 0,.code [1,1,1]] ⟨[(4,(pt (w.heap.size + 1) 0)),(5,.bool false),(6,(pt (w.heap.size + 2) 0)),(7,(pt g 0)),(8,i6 0)],(pbd_b3 x pb w at_ da kd g),[],W1.heap.size⟩ ?_
 have pbd_g4_c5:pbd_g4C x pb w W1 at_ da kd g 5:=cert_store (s:=0) (v:=undef) (by kernel_rfl) (by kernel_rfl) (by kernel_rfl) (by kernel_rfl) (by kernel_rfl) (pbd_g4_5 x pb w at_ da kd g) trivial
 have pbd_g4_c7:pbd_g4C x pb w W1 at_ da kd g 7:=cert_store (s:=1) (v:=undef) (by kernel_rfl) (by kernel_rfl) (by kernel_rfl) (by kernel_rfl) (by kernel_rfl) (pbd_g4_7 x pb w at_ da kd g) trivial
 have pbd_g4_R:∀ e_ ∈ (rZs [0,2,4,6] ++ [rG 1 4 0 1 g,rG 3 4 1 1 g]:List RegE),pbd_g4C x pb w W1 at_ da kd g e_.i:=certs_reg (by kernel_rfl) _ (fun sz=>by kernel_rfl)
 refine holds_mixG (vs:=(pbd_g4v x w at_ g)) (ms:=(pbd_g4m x pb w at_ da kd g)) (stg:=(pbd_g4t)) (J:=2) (sl':=[(4,(pt (w.heap.size + 1) 0)),(5,.bool false),(6,(pt (w.heap.size + 2) 0)),(8,i6 0)]) (bk':=(pbd_b5 x pb w at_ da kd g)) (fun _ _ _=>False) [4,5,6,8] (by kernel_rfl) (by kernel_rfl) (by kernel_rfl) (fun _ _ _ _ h=>h.elim) (certs_mix pbd_g4_R [5,7] ⟨pbd_g4_c5,pbd_g4_c7,tI⟩ (by kernel_rfl)) (by kernel_rfl) (by kernel_rfl) (by kernel_rfl) (fun z4 hz4=>?_)
 replace hz4:W1.heap.size ≤ z4:=hz4
 refine hgS 11 (dz 5 0x19002800190038) [4,5,6] [] [(w.heap.size + 2,0,25),(w.heap.size + 1,0,25)] [.code [1,1,0,0,1,1,1,0,1,1,1],.blk 0,.code [1,1,1]] [⟨pb,98,false,(PilC.cells x)⟩,⟨w.heap.size,38,true,[i6 kd,i6 at_,sT da]⟩,⟨w.heap.size + 1,96,true,(pbd_v4 x at_ da kd)⟩,⟨w.heap.size + 2,96,true,(pbd_v4 x at_ da kd)⟩,⟨g,126,true,(pbd_v1 x at_)⟩] [] z4 ?_
 refine hrt [[⟨false,2,0,25⟩]] [.agg (List.toArray (pbd_v4 x at_ da kd)),.bool true] [(w.heap.size + 1,0,25)] ?_
 intro wx hm
 exact ⟨rfl,(MemOk.bck hm1 hm).kept⟩
end Go.Proofs.YtcmpkkapkdlfhaaGreat
