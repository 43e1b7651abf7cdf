import Derived.Test.YtcmpkkapkdlfhaaGreatSim2
import Derived.Test.YtcmpkkapkdlfhaaGreatPil2
namespace Go.Proofs.YtcmpkkapkdlfhaaGreat
open Go.RowKit
set_option maxHeartbeats 4000000
set_option maxRecDepth 100000
section
variable (x:PilC)(pb:Nat)(w:World)(at_:Int)
def pbr_v1:List Value:=[i6 3,i6 at_,sT ⟨#[]⟩,i6 at_,i6 0,.nilFunc,.bool false,i6 0,i6 0,i6 (-1),.bool false,i6 0,i6 0,.slice none 0 0,.slice none 0 0,.bool false,.slice none 0 0,.slice none 0 0]++rp 6 (sT ⟨#[]⟩)++[.pointer none]
def pbr_v2:List Value:=[i6 0,i6 0,sT ⟨#[]⟩,i6 0,i6 0,.nilFunc,.bool false]++rp 3 (i6 0)++[.bool false,i6 0,i6 0,.slice none 0 0,.slice none 0 0,.bool false,.slice none 0 0,.slice none 0 0]++rp 6 (sT ⟨#[]⟩)++[.pointer none]
def pbr_n1:List Nat:=[1,1,0,0,1,0,1,0]
@[simp] def pbr_b1:List Bk:=[⟨pb,98,false,(PilC.cells x)⟩,⟨w.heap.size,38,true,[i6 3,i6 at_,sT ⟨#[]⟩]⟩,⟨w.heap.size+1,96,true,(pbr_v2)⟩,⟨w.heap.size+2,96,true,(pbr_v1 at_)⟩]
@[simp] def pbr_b2:List Bk:=[⟨pb,98,false,(PilC.cells x)⟩,⟨w.heap.size,38,true,[i6 3,i6 at_,sT ⟨#[]⟩]⟩,⟨w.heap.size+1,96,true,(pbr_v1 at_)⟩,⟨w.heap.size+2,96,true,(pbr_v1 at_)⟩]
def pbr_g2s:List (Nat×Value):=[(0,(pt pb 0)),(3,(pt w.heap.size 0)),(4,(pt (w.heap.size+1) 0)),(5,.bool false),(6,(pt (w.heap.size+2) 0))]
def pbr_g2v:List (Option Value):=[some (.agg (List.toArray (pbr_v1 at_))),some ((pt w.heap.size 2)),some (sT ⟨#[]⟩),some (.bool (ByteArray.toList ⟨#[]⟩==ByteArray.toList ⟨#[]⟩)),some (.bool (ByteArray.toList ⟨#[]⟩==ByteArray.toList ⟨#[]⟩)),some ((pt w.heap.size 1)),some (i6 at_),some (.bool (decide ((at_:Int)>=0))),some (.bool (decide ((at_:Int)>=0))),some (.bool (decide ((at_:Int)>=0))),some ((pt w.heap.size 1)),some (i6 at_),some ((pt pb 0)),some ((pt pb 0)),some ((pt pb 0)),some ((pt pb 1)),some (i6 x.S),some (.bool (decide ((at_:Int)<x.S))),some (.bool (decide ((at_:Int)<x.S))),some (.tuple #[]),some (.bool (decide ((at_:Int)<x.S)))]
def pbr_g2m:List (List Bk):=[(pbr_b1 x pb w at_),(pbr_b2 x pb w at_)]
def pbr_g2t:List (Option Nat):=[none,none,none,none,none,none,none,none,none,none,none,none,none,none,none,none,none,none,none,some 0,none]
theorem pbr_g2_19:∀sz,opG Tryz.prog (opsOf (getCode (bodyOf Tryz.f30) pbr_n1)) ⟨slG (opsOf (getCode (bodyOf Tryz.f30) pbr_n1)) (pbr_g2v x pb w at_) (slI (opsOf (getCode (bodyOf Tryz.f30) pbr_n1)) (pbr_g2s pb w) 19) (needsOf (opsOf (getCode (bodyOf Tryz.f30) pbr_n1)) 19),(pbr_b1 x pb w at_),[],sz⟩ 19 (oA 2 0 25)=some ([],dupR [(w.heap.size+1,0,25)],undef,(pbr_b2 x pb w at_),sz):=fun sz=>by kernel_rfl
def pbr_g2C(i_:Nat):Prop:=CertG (wpOp Tryz.prog (opsOf (getCode (bodyOf Tryz.f30) pbr_n1)) (sem Tryz.prog (bodyOf Tryz.f30) (bodyPost Tryz.prog Tryz.f30 (RetK (.tuple #[.agg (List.toArray (pbr_v1 at_)),.bool true]) w)) [.code [1,1,0,0,1,0,1,1],.blk 0,.code [1,1,1]])) [] 75 (opsOf (getCode (bodyOf Tryz.f30) pbr_n1)) (slI (opsOf (getCode (bodyOf Tryz.f30) pbr_n1)) (pbr_g2s pb w) i_) (pbr_g2t) 1 (MG w (fun _=>False) (pbr_g2m x pb w at_) [] (w.heap.size+3)) (Turned (pbr_b1 x pb w at_)) (PvG (pbr_g2v x pb w at_) (fun _ _ _=>False)) i_
end
theorem pil_begunReb(x:PilC)(pb:Nat)(at_:Int)  (hat:0<=at_∧at_<x.S) (w:World) (hP:Blk w pb 98 (PilC.cells x)) :
  Calls Tryz.prog 30 #[.pointer (some ⟨pb,0,none⟩),.agg #[i6 3,i6 at_,sT ⟨#[]⟩]] w (RetK (.tuple #[.agg #[i6 3,i6 at_,sT ⟨#[]⟩,i6 at_,i6 0,.nilFunc,.bool false,i6 0,i6 0,i6 (-1),.bool false,i6 0,i6 0,.slice none 0 0,.slice none 0 0,.bool false,.slice none 0 0,.slice none 0 0,sT ⟨#[]⟩,sT ⟨#[]⟩,sT ⟨#[]⟩,sT ⟨#[]⟩,sT ⟨#[]⟩,sT ⟨#[]⟩,.pointer none],.bool true]) w):=by
 refine cH (S:=(fun _=>False)) (n:=75) Tryz.func30 (MemOk.start (bk:=[⟨pb,98,false,(PilC.cells x)⟩]) (wn:=[]) (fun b hb=>by obtain rfl:=List.mem_singleton.1 hb; exact hP) (fun b hb _=>by obtain rfl:=List.mem_singleton.1 hb; cases ‹_›) (by simp) (by simp)) ?_
 refine hgE 34 (dz 16 0x1033800101180100010018019003800030018000) [0,3,4,5,6] [tT] [(w.heap.size,0,3),(w.heap.size+2,0,25),(w.heap.size,0,1),(w.heap.size,1,1),(w.heap.size+2,3,1)] [.code pbr_n1,.code [1,1,0,0,1,0,1,1],.blk 0,.code [1,1,1]] ⟨[(0,(pt pb 0)),(3,(pt w.heap.size 0)),(4,(pt (w.heap.size+1) 0)),(5,.bool false),(6,(pt (w.heap.size+2) 0))],(pbr_b1 x pb w at_),[],w.heap.size+3⟩ ?_
 have pbr_g2_c19:pbr_g2C x pb w at_ 19:=cert_store (s:=0) (v:=undef) (by kernel_rfl) (by kernel_rfl) (by kernel_rfl) (by kernel_rfl) (by kernel_rfl) (pbr_g2_19 x pb w at_) trivial
 have pbr_g2_R:∀e_∈(rZs [1,3,4,9,20]++[⟨0,(oA 3 0 25),[],[(w.heap.size+2,0,25)]⟩,rG 2 1 2 1 w.heap.size,⟨5,oh1,[oE ((ByteArray.toList ⟨#[]⟩==ByteArray.toList ⟨#[]⟩)=true) (beq_self_eq_true _)],[]⟩,⟨6,⟨true,0,[⟨false,1,1,1⟩]⟩,[oE ((ByteArray.toList ⟨#[]⟩==ByteArray.toList ⟨#[]⟩)=true) (beq_self_eq_true _)],[(w.heap.size,1,1)]⟩,⟨7,oh1,[oE ((ByteArray.toList ⟨#[]⟩==ByteArray.toList ⟨#[]⟩)=true) (beq_self_eq_true _)],[]⟩,⟨8,oh3,[oE ((ByteArray.toList ⟨#[]⟩==ByteArray.toList ⟨#[]⟩)=true) (beq_self_eq_true _)],[]⟩,⟨10,oh1,[dT ((at_:Int)>=0)],[]⟩,⟨11,⟨true,0,[⟨false,1,1,1⟩]⟩,[dT ((at_:Int)>=0)],[(w.heap.size,1,1)]⟩,⟨12,oh1,[dT ((at_:Int)>=0)],[]⟩,⟨13,oh1,[dT ((at_:Int)>=0)],[]⟩,⟨14,oh1,[dT ((at_:Int)>=0)],[]⟩,⟨15,oh1,[dT ((at_:Int)>=0)],[]⟩,⟨16,⟨true,0,[⟨false,0,1,1⟩]⟩,[dT ((at_:Int)>=0)],[(pb,1,1)]⟩,⟨17,oh1,[dT ((at_:Int)>=0)],[]⟩,⟨18,oh3,[dT ((at_:Int)>=0)],[]⟩]:List RegE),pbr_g2C x pb w at_ e_.i:=certs_reg (by kernel_rfl) _ (fun sz=>by kernel_rfl)
 refine holds_mixG (vs:=(pbr_g2v x pb w at_)) (ms:=(pbr_g2m x pb w at_)) (stg:=(pbr_g2t)) (J:=1) (sl':=[(4,(pt (w.heap.size+1) 0)),(5,.bool (decide ((at_:Int)<x.S))),(6,(pt (w.heap.size+2) 0))]) (bk':=(pbr_b2 x pb w at_)) (fun _ _ _=>False) [4,5,6] (by kernel_rfl) (by kernel_rfl) (by kernel_rfl) (fun _ _ _ _ h=>h.elim) (certs_mix pbr_g2_R [19] ⟨pbr_g2_c19,tI⟩ (by kernel_rfl)) (by kernel_rfl) (by kernel_rfl) (by kernel_rfl) (fun z2 hz2=>?_)
 replace hz2:w.heap.size+3<=z2:=hz2
 refine hgS 3 [] [4,5,6] [] [] [.code [1,1,0,0,1,0,1,1],.blk 0,.code [1,1,1]] (pbr_b2 x pb w at_) [] z2 ?_
 refine hrt [[⟨false,2,0,25⟩]] [.agg (List.toArray (pbr_v1 at_)),.bool (decide ((at_:Int)<x.S))] [(w.heap.size+1,0,25)] ?_
 intro wx hm
 exact⟨by rw[show decide (at_<x.S)=true from decide_eq_true (by omega)]; rfl,hm.kept⟩
section
variable (x:PilC)(pb:Nat)(w:World)(at_:Int)(da:ByteArray)(kd:Int)(g:Nat)
def pbd_v1:List Value:=[i6 (at_/(x.N-1)),i6 (at_%(x.N-1)),i6 ((at_%(x.N-1)+at_/(x.N-1))%x.N)]
def pbd_v2:List Value:=pbr_v2
def pbd_v3:List Value:=((((pbr_v1 at_).set 0 (i6 kd)).set 2 (sT da)).set 3 (i6 0))
def pbd_v4:List Value:=(((pbd_v3 at_ da kd).set 3 (i6 (at_/(x.N-1)))).set 4 (i6 (at_%(x.N-1))))
def pbd_v5:List Value:=((pbd_v4 x at_ da kd).set 4 (i6 0))
def pbd_n1:List Nat:=[1,1,0,0,1,1,1,0,0]
def pbd_n2:List Nat:=[1,1,0,0,1,1,1,0,1,0]
def pbd_n3:List Nat:=[1,1,0,0,1,1,1,0,1]
@[simp] def pbd_b1:List Bk:=[⟨pb,98,false,(PilC.cells x)⟩,⟨w.heap.size,38,true,[i6 kd,i6 at_,sT da]⟩,⟨w.heap.size+1,96,true,(pbd_v2)⟩,⟨w.heap.size+2,96,true,(pbd_v3 at_ da kd)⟩]
@[simp] def pbd_b2(d:Option Nat):List Bk:=[⟨pb,98,false,(PilC.cells x)⟩,⟨w.heap.size,38,true,[i6 kd,i6 at_,sT da]⟩,⟨w.heap.size+1,96,true,(pbd_v2)⟩,⟨w.heap.size+2,96,true,(pbd_v3 at_ da kd)⟩,⟨(d.getD 0),126,true,(pbd_v1 x at_)⟩]
@[simp] def pbd_b3:List Bk:=[⟨pb,98,false,(PilC.cells x)⟩,⟨w.heap.size,38,true,[i6 kd,i6 at_,sT da]⟩,⟨w.heap.size+1,96,true,(pbd_v2)⟩,⟨w.heap.size+2,96,true,(pbd_v3 at_ da kd)⟩,⟨g,126,true,(pbd_v1 x at_)⟩]
@[simp] def pbd_b4:List Bk:=[⟨pb,98,false,(PilC.cells x)⟩,⟨w.heap.size,38,true,[i6 kd,i6 at_,sT da]⟩,⟨w.heap.size+1,96,true,(pbd_v2)⟩,⟨w.heap.size+2,96,true,(pbd_v5 x at_ da kd)⟩,⟨g,126,true,(pbd_v1 x at_)⟩]
@[simp] def pbd_b5:List Bk:=[⟨pb,98,false,(PilC.cells x)⟩,⟨w.heap.size,38,true,[i6 kd,i6 at_,sT da]⟩,⟨w.heap.size+1,96,true,(pbd_v2)⟩,⟨w.heap.size+2,96,true,(pbd_v4 x at_ da kd)⟩,⟨g,126,true,(pbd_v1 x at_)⟩]
def pbd_Q:Exit->Act->World->Prop:=bodyPost Tryz.prog Tryz.f30 (RetK (.tuple #[.agg (List.toArray (pbd_v4 x at_ da kd)),.bool true]) w)
def pbd_y2s:List (Nat×Value):=[(0,(pt pb 0)),(3,(pt w.heap.size 0)),(4,(pt (w.heap.size+1) 0)),(5,.bool false),(6,(pt (w.heap.size+2) 0))]
def pbd_y2v(d:Option Nat):List (Option Value):=[some ((pt pb 0)),some ((pt pb 0)),some ((pt pb 0)),some (.agg #[i6 x.N,i6 x.S]),some ((pt w.heap.size 1)),some (i6 at_),some (.tuple #[.agg (List.toArray (pbd_v1 x at_)),i6 0]),some (.tuple #[.agg (List.toArray (pbd_v1 x at_)),i6 0]),some (.agg (List.toArray (pbd_v1 x at_))),some (i6 0),some (.pointer (some ⟨(d.getD 0),0,none⟩)),some (.tuple #[]),some (i6 0)]
def pbd_y2F(d:Option Nat)(k:Nat):Bool:=([true,true,true,true,true,true,true,true,true,true,d.isSome,true,true]:List Bool)[k]?.getD true
def pbd_y2m(d:Option Nat):List (List Bk):=[(pbd_b1 x pb w at_ da kd),(pbd_b2 x pb w at_ da kd d)]
abbrev pbd_y2X(w:World)(c_:Nat)(d:Option Nat)(W_:World):Prop:=match c_ with|0=>(True)∧(∀g_,d=some g_->(w.heap.size+3)<=g_∧Blk W_ g_ 126 [i6 0,i6 0,i6 0])|1=>(w.heap.size+3<=d.getD 0)∧True|_=>True
def pbd_y2C(i_:Nat):Prop:=cY Tryz.prog Tryz.f30 pbd_n1 75 [] (pbd_Q x w at_ da kd) [.code pbd_n3,.blk 0,.code [1,1,1]] (pbd_y2s pb w) [none,none,none,none,none,none,none,none,none,none,none,some 0,none] 1 (pbd_y2v x pb w at_) pbd_y2F w (fun _=>False) (pbd_y2m x pb w at_ da kd) (w.heap.size+3) (pbd_y2X w) i_
def pbd_g4s:List (Nat×Value):=[(4,(pt (w.heap.size+1) 0)),(5,.bool false),(6,(pt (w.heap.size+2) 0)),(7,(pt g 0)),(8,i6 0)]
def pbd_g4v:List (Option Value):=[some ((pt g 0)),some (i6 (at_/(x.N-1))),some ((pt g 1)),some (i6 (at_%(x.N-1))),some ((pt (w.heap.size+2) 3)),some (.tuple #[]),some ((pt (w.heap.size+2) 4)),some (.tuple #[])]
def pbd_g4m:List (List Bk):=[(pbd_b3 x pb w at_ da kd g),(pbd_b4 x pb w at_ da kd g),(pbd_b5 x pb w at_ da kd g)]
def pbd_g4t:List (Option Nat):=[none,none,none,none,none,some 0,none,some 1]
theorem pbd_g4_5:∀sz,opG Tryz.prog (opsOf (getCode (bodyOf Tryz.f30) pbd_n2)) ⟨slG (opsOf (getCode (bodyOf Tryz.f30) pbd_n2)) (pbd_g4v x w at_ g) (slI (opsOf (getCode (bodyOf Tryz.f30) pbd_n2)) (pbd_g4s w g) 5) (needsOf (opsOf (getCode (bodyOf Tryz.f30) pbd_n2)) 5),(pbd_b3 x pb w at_ da kd g),[],sz⟩ 5 (oA 3 3 1)=some ([],dupR [(w.heap.size+2,3,1)],undef,(pbd_b4 x pb w at_ da kd g),sz):=fun sz=>by kernel_rfl
theorem pbd_g4_7:∀sz,opG Tryz.prog (opsOf (getCode (bodyOf Tryz.f30) pbd_n2)) ⟨slG (opsOf (getCode (bodyOf Tryz.f30) pbd_n2)) (pbd_g4v x w at_ g) (slI (opsOf (getCode (bodyOf Tryz.f30) pbd_n2)) (pbd_g4s w g) 7) (needsOf (opsOf (getCode (bodyOf Tryz.f30) pbd_n2)) 7),(pbd_b4 x pb w at_ da kd g),[],sz⟩ 7 (oA 3 4 1)=some ([],dupR [(w.heap.size+2,4,1)],undef,(pbd_b5 x pb w at_ da kd g),sz):=fun sz=>by kernel_rfl
def pbd_g4C(W1:World)(at_:Int)(da:ByteArray)(kd:Int)(g:Nat)(i_:Nat):Prop:=CertG (wpOp Tryz.prog (opsOf (getCode (bodyOf Tryz.f30) pbd_n2)) (sem Tryz.prog (bodyOf Tryz.f30) (pbd_Q x w at_ da kd) [.code [1,1,0,0,1,1,1,0,1,1],.blk 0,.code [1,1,1]])) [] 75 (opsOf (getCode (bodyOf Tryz.f30) pbd_n2)) (slI (opsOf (getCode (bodyOf Tryz.f30) pbd_n2)) (pbd_g4s w g) i_) (pbd_g4t) 2 (MG W1 (Turned (pbd_b3 x pb w at_ da kd g)) (pbd_g4m x pb w at_ da kd g) [] W1.heap.size) (Turned (pbd_b3 x pb w at_ da kd g)) (PvG (pbd_g4v x w at_ g) (fun _ _ _=>False)) i_
end
theorem pil_begunRW(x:PilC)(pb:Nat)(at_:Int)(kd:Int)(da:ByteArray)(hkd:(kd=1∧da=⟨#[]⟩)∨(kd=2∧da.size=16))(hg:3<=x.N∧x.N<=6∧1<=x.S∧x.S<=8)(hat:0<=at_∧at_<x.S*(x.N-1))(w:World)(hP:Blk w pb 98 (PilC.cells x)) :
  Calls Tryz.prog 30 #[.pointer (some ⟨pb,0,none⟩),.agg #[i6 kd,i6 at_,sT da]] w (RetK (.tuple #[.agg #[i6 kd,i6 at_,sT da,i6 (at_/(x.N-1)),i6 (at_%(x.N-1)),.nilFunc,.bool false,i6 0,i6 0,i6 (-1),.bool false,i6 0,i6 0,.slice none 0 0,.slice none 0 0,.bool false,.slice none 0 0,.slice none 0 0,sT ⟨#[]⟩,sT ⟨#[]⟩,sT ⟨#[]⟩,sT ⟨#[]⟩,sT ⟨#[]⟩,sT ⟨#[]⟩,.pointer none],.bool true]) w):=by
 refine cH (S:=(fun _=>False)) (n:=75) Tryz.func30 (MemOk.start (bk:=[⟨pb,98,false,(PilC.cells x)⟩]) (wn:=[]) (fun b hb=>by obtain rfl:=List.mem_singleton.1 hb; exact hP) (fun b hb _=>by obtain rfl:=List.mem_singleton.1 hb; cases ‹_›) (by simp) (by simp)) ?_
 suffices HZ:Holds [] Tryz.prog (bodyOf Tryz.f30) 75 w (fun _=>False) (pbd_Q x w at_ da kd) [.code pbd_n1,.code pbd_n3,.blk 0,.code [1,1,1]] ⟨[(0,(pt pb 0)),(3,(pt w.heap.size 0)),(4,(pt (w.heap.size+1) 0)),(5,.bool false),(6,(pt (w.heap.size+2) 0))],(pbd_b1 x pb w at_ da kd),[],w.heap.size+3⟩by
  rcases hkd with⟨hk1,hd1⟩|⟨hk1,hd1⟩
  ·skip
   refine hgE 43 (dz 23 0x110310102191000100180000010018019003800030018000) [0,3,4,5,6] ([oE ((kd==3)=false) (by rw[hk1]; decide)]++rE 4 (oE ((kd==1)=true) (by rw[hk1]; decide))++rE 2 (oE ((ByteArray.toList da==ByteArray.toList ⟨#[]⟩)=true) (by rw[hd1]; exact beq_self_eq_true _))) [(w.heap.size,0,3),(w.heap.size+2,0,25),(w.heap.size,0,1),(w.heap.size,0,1),(w.heap.size,2,1)] [.code pbd_n1,.code pbd_n3,.blk 0,.code [1,1,1]] ⟨[(0,(pt pb 0)),(3,(pt w.heap.size 0)),(4,(pt (w.heap.size+1) 0)),(5,.bool false),(6,(pt (w.heap.size+2) 0))],(pbd_b1 x pb w at_ da kd),[],w.heap.size+3⟩ ?_
   exact HZ
  ·skip
   refine hgE 54 (dz 33 0x103110102191000100180004000000100180000010018019003800030018000) [0,3,4,5,6] ([oE ((kd==3)=false) (by rw[hk1]; decide)]++rE 4 (oE ((kd==1)=false) (by rw[hk1]; decide))++[fF]++rE 5 (oE ((kd==2)=true) (by rw[hk1]; decide))++[oE (((da.size:Int)==16)=true) (by rw[hd1]; rfl)]) [(w.heap.size,0,3),(w.heap.size+2,0,25),(w.heap.size,0,1),(w.heap.size,0,1),(w.heap.size,0,1),(w.heap.size,2,1)] [.code pbd_n1,.code pbd_n3,.blk 0,.code [1,1,1]] ⟨[(0,(pt pb 0)),(3,(pt w.heap.size 0)),(4,(pt (w.heap.size+1) 0)),(5,.bool false),(6,(pt (w.heap.size+2) 0))],(pbd_b1 x pb w at_ da kd),[],w.heap.size+3⟩ ?_
   exact HZ
 have pbd_y2_X:StayY w (fun _=>False) (pbd_y2m x pb w at_ da kd) (pbd_y2X w):=by
  intro c_ d wx w' bk hb hm hx hk
  match c_,hb,hx with
  |0,hb,hx=>
   obtain rfl:=Option.some.inj hb
   refine⟨trivial,fun g_ hg_=>⟨(hx.2 g_ hg_).1,(hx.2 g_ hg_).2.kept hk (fun⟨b,hb,hr,he⟩=>?_)⟩⟩
   have h9:=(hx.2 g_ hg_).1
   simp at hb
   rcases hb with rfl|rfl|rfl|rfl
   ·cases hr
   ·dsimp only at he
    omega
   ·dsimp only at he
    omega
   ·dsimp only at he
    omega
  |1,hb,hx=>
   obtain rfl:=Option.some.inj hb
   exact⟨hx.1,trivial⟩
  |c_+2,hb,hx=>exact trivial
 have pbd_y2_c6:pbd_y2C x pb w at_ da kd 6:=certY_call (B:=1) (f:=45) (args:=fun d=>[.agg #[i6 x.N,i6 x.S],i6 at_]) (ob:=fun d=>[]) (fun d=>.tuple #[.agg (List.toArray (pbd_v1 x at_)),i6 0]) (by kernel_rfl) (.inl rfl) (fun d=>by kernel_rfl) (fun d=>by kernel_rfl) (fun d=>by kernel_rfl) (fun d=>trivial) (fun c_ d wx bk hc hb hm hx=>plat_of x.N x.S at_ hg hat wx) pbd_y2_X
 have pbd_y2_c10:pbd_y2C x pb w at_ da kd 10:=cyN 0 126 [i6 0,i6 0,i6 0] (fun _ g=>some g) (fun g=>(pt g 0)) (fun c_ d wx w' bk hcB hb hm hx hk hz hBl=>by
  have hs:=pbd_y2_X c_ d wx w' bk hb hm hx hk
  match c_,hb,hx,hs,hcB with
  |0,hb,hx,hs,hcB=>exact⟨hs.1,(fun g_ hg_=>by obtain rfl:=Option.some.inj hg_; exact⟨hz,hBl⟩)⟩
  |c_+1,hb,hx,hs,hcB=>exact absurd hcB (by omega))
 have pbd_y2_c11:pbd_y2C x pb w at_ da kd 11:=cyS (s:=0) (x:=fun d=>Instr.storeAt 126 (.pointer (some ⟨(d.getD 0),0,none⟩)) (.agg (List.toArray (pbd_v1 x at_)))) (fun(d:Option Nat)(_:Unit)=>d) (fun d wx bk hb hm hx hcame=>by
  obtain rfl:=Option.some.inj hb
  obtain⟨g_,rfl⟩:∃g_,d=some g_:=Option.isSome_iff_exists.1 (hcame 10 (List.mem_of_getElem? (i:=0) (by kernel_rfl)) (dst_ne (k:=7) (by kernel_rfl)))
  obtain⟨hzg,hBg⟩:=hx.2 g_ rfl
  obtain⟨w',h1,hB1,hk1,hz1⟩:=store_to (P:=Tryz.prog) (t:=126) (v:=.agg (List.toArray (pbd_v1 x at_))) (by kernel_rfl) hBg rfl (by show 0+3<=3; omega) (ones_all rfl) rfl
  refine⟨(),w',h1,rfl,⟨hzg,trivial⟩,hm.adopt (g:=g_) hk1 hB1 (by omega) (fun b hb e=>?_),Nat.le_of_eq hz1.symm⟩
  have h8:=blk_ty (hm.blk b hb)
  simp at hb
  rcases hb with rfl|rfl|rfl|rfl<;>exact ty_off (blk_ty hBg) e h8 rfl)
 have pbd_y2_R:∀e_∈(rZsY 1 [0,1,2,4,7,8,9,12]++[rY 3 1 0 0 2 pb,rY 5 1 1 1 1 w.heap.size]:List (RegY (Option Nat))),pbd_y2C x pb w at_ da kd e_.i:=certsY_reg _ pbd_y2_X (fun d=>by kernel_rfl) (by kernel_rfl) (fun d sz=>by kernel_rfl)
 have pbd_y2_A:∀i_,i_<13->pbd_y2C x pb w at_ da kd i_:=allY (l:=[6,10,11]) (by kernel_rfl) pbd_y2_R ⟨pbd_y2_c6,pbd_y2_c10,pbd_y2_c11,trivial⟩
 refine holds_mixY (Δ:=Option Nat) (fun _=>False) (pbd_y2v x pb w at_) pbd_y2F (pbd_y2m x pb w at_ da kd) (pbd_y2X w) [4,5,6,7,8] (fun d=>[(4,(pt (w.heap.size+1) 0)),(5,.bool false),(6,(pt (w.heap.size+2) 0)),(7,.pointer (some ⟨(d.getD 0),0,none⟩)),(8,i6 0)]) (fun d=>(pbd_b2 x pb w at_ da kd d)) none (fun _ h=>h) (by kernel_rfl) (by kernel_rfl) (by kernel_rfl) (fun wx hm=>⟨tI,fun _ h=>by cases h⟩) (by kernel_rfl) pbd_y2_A (fun d=>by kernel_rfl) (fun d=>by kernel_rfl) (fun d W1 hfin hX1 hz1 hm1=>?_)
 obtain⟨g,rfl⟩:∃g,d=some g:=Option.isSome_iff_exists.1 (hfin 10 (Nat.le_of_ble_eq_true (by kernel_rfl)) (dst_ne (k:=7) (by kernel_rfl)))
 replace hX1:w.heap.size+3<=g:=hX1.1
 replace hm1:MemOk w (fun _=>False) (pbd_b3 x pb w at_ da kd g) [] W1.heap.size W1:=hm1
 change Holds _ _ _ _ W1 (Turned (pbd_b3 x pb w at_ da kd g)) _ [.code pbd_n3,.blk 0,.code [1,1,1]] ⟨[(4,(pt (w.heap.size+1) 0)),(5,.bool false),(6,(pt (w.heap.size+2) 0)),(7,(pt g 0)),(8,i6 0)],(pbd_b3 x pb w at_ da kd g),[],W1.heap.size⟩
 refine hgE 4 [] [4,5,6,7,8] [] [] [.code pbd_n2,.code [1,1,0,0,1,1,1,0,1,1],.blk 0,.code [1,1,1]] ⟨[(4,(pt (w.heap.size+1) 0)),(5,.bool false),(6,(pt (w.heap.size+2) 0)),(7,(pt g 0)),(8,i6 0)],(pbd_b3 x pb w at_ da kd g),[],W1.heap.size⟩ ?_
 have pbd_g4_c5:pbd_g4C x pb w W1 at_ da kd g 5:=cert_store (s:=0) (v:=undef) (by kernel_rfl) (by kernel_rfl) (by kernel_rfl) (by kernel_rfl) (by kernel_rfl) (pbd_g4_5 x pb w at_ da kd g) trivial
 have pbd_g4_c7:pbd_g4C x pb w W1 at_ da kd g 7:=cert_store (s:=1) (v:=undef) (by kernel_rfl) (by kernel_rfl) (by kernel_rfl) (by kernel_rfl) (by kernel_rfl) (pbd_g4_7 x pb w at_ da kd g) trivial
 have pbd_g4_R:∀e_∈(rZs [0,2,4,6]++[rG 1 4 0 1 g,rG 3 4 1 1 g]:List RegE),pbd_g4C x pb w W1 at_ da kd g e_.i:=certs_reg (by kernel_rfl) _ (fun sz=>by kernel_rfl)
 refine holds_mixG (vs:=(pbd_g4v x w at_ g)) (ms:=(pbd_g4m x pb w at_ da kd g)) (stg:=(pbd_g4t)) (J:=2) (sl':=[(4,(pt (w.heap.size+1) 0)),(5,.bool false),(6,(pt (w.heap.size+2) 0)),(8,i6 0)]) (bk':=(pbd_b5 x pb w at_ da kd g)) (fun _ _ _=>False) [4,5,6,8] (by kernel_rfl) (by kernel_rfl) (by kernel_rfl) (fun _ _ _ _ h=>h.elim) (certs_mix pbd_g4_R [5,7] ⟨pbd_g4_c5,pbd_g4_c7,tI⟩ (by kernel_rfl)) (by kernel_rfl) (by kernel_rfl) (by kernel_rfl) (fun z4 hz4=>?_)
 replace hz4:W1.heap.size<=z4:=hz4
 refine hgS 11 (dz 5 0x19002800190038) [4,5,6] [] [(w.heap.size+2,0,25),(w.heap.size+1,0,25)] [.code [1,1,0,0,1,1,1,0,1,1,1],.blk 0,.code [1,1,1]] [⟨pb,98,false,(PilC.cells x)⟩,⟨w.heap.size,38,true,[i6 kd,i6 at_,sT da]⟩,⟨w.heap.size+1,96,true,(pbd_v4 x at_ da kd)⟩,⟨w.heap.size+2,96,true,(pbd_v4 x at_ da kd)⟩,⟨g,126,true,(pbd_v1 x at_)⟩] [] z4 ?_
 refine hrt [[⟨false,2,0,25⟩]] [.agg (List.toArray (pbd_v4 x at_ da kd)),.bool true] [(w.heap.size+1,0,25)] ?_
 intro wx hm
 exact⟨rfl,(MemOk.bck hm1 hm).kept⟩
theorem letters_one(frm:Int)(l:List OneM):∀u∈lettersC frm l,u.oneCell'=true:=fun u hu=>by
 unfold lettersC at hu
 obtain⟨x,hx,hu⟩:=List.mem_flatten.1 hu
 obtain⟨o,_,rfl⟩:=List.mem_map.1 hx
 exact(ones_all (l:=letC frm o) rfl) u hu
section
variable (sb pb:Nat)(now frm kd at_:Int)(da:ByteArray)(Q:Nat->List OneM->World->Prop)(w:World)(o:OneM)(sy:SayR)
def pls_v1:List Value:=[i6 frm,i6 o.to,i6 o.id,.bool false,i6 o.q.kind,i6 o.q.stripe,i6 o.q.epoch,i6 o.q.seq,i6 o.q.mask,i6 o.q.node,i6 o.q.oe,i6 o.q.os,sT o.q.block,i6 0,i6 0,i6 0,.bool false,i6 0,i6 0,i6 0,sT ⟨#[]⟩,.bool false,i6 0,i6 0,i6 0,sT ⟨#[]⟩]
def pls_v2:List Value:=[i6 o.to,i6 frm,i6 o.id,.bool true]++rp 8 (i6 0)++[sT ⟨#[]⟩,i6 sy.st,i6 sy.ep,i6 sy.ou,.bool sy.rc.used,i6 sy.rc.fence,i6 sy.rc.de,i6 sy.rc.ds,sT sy.rc.block,.bool sy.rc.op,i6 sy.rc.ie,i6 sy.rc.is,i6 sy.rc.mask,sT sy.rc.staged]
def pls_n1:List Nat:=[0,1,2,8,9,10,11,12,13,14,15,67,68,71,72]
def pls_n2:List Nat:=[1,1,0,1,0,0,1,0,0,1,1,0,0,1,0,0,1,0,1,0,0,1,0,0,1,1,0]
def pls_n3:List Nat:=[1,1,0,1,0,0,1,0,0,1,1,0,0,1,0,0,1,0,1,0,0,1,1]
def pls_n4:List Nat:=[1,1,0,1,0,0,1,0,0,1,1,0,0,1,0,0,1,1]
def pls_n5:List Nat:=[1,1,0,1,0,0,1,0,0,1,1,0,0,1,1]
def pls_n6:List Nat:=[1,1,0,1,0,0,1,1]
@[simp] def pls_b1:List Bk:=[⟨w.heap.size,38,true,[i6 kd,i6 at_,sT da]⟩]
@[simp] def pls_b2(W10:World):List Bk:=[⟨w.heap.size,38,true,[i6 kd,i6 at_,sT da]⟩,⟨W10.heap.size,65,false,(pls_v2 frm o sy)⟩]
def pls_T(Q1:World->Prop)(Q:Nat->List OneM->World->Prop)(w:World)(m:Nat)(st:St)(W0:World):Prop:=
 ∃(t:Nat)(z:Nat),((t=0∧m=1∧Q1 W0)∨(t=1∧m=0∧∃m_,Q m_ [] W0))∧st=⟨[(0,(pt sb 0)),(1,(pt pb 0)),(2,i6 now),(8,i6 0),(9,sT ⟨#[]⟩),(10,.bool false),(11,i6 (t:Int))],(pls_b1 kd at_ da w),[],z⟩
def pls_J(M0:Nat)(Q:Nat->List OneM->World->Prop)(w:World)(m:Nat)(st:St)(W0:World):Prop:=
 ∃(j:Nat)(mm:Nat)(ls:List OneM)(A:Option Addr)(ca:Nat)(z:Nat),(m=mm∧mm+j<=M0)∧Q mm ls W0∧OwnR W0 w.heap.size 65 26 A ls.length ca (lettersC frm ls)∧st=⟨[(0,(pt sb 0)),(1,(pt pb 0)),(2,i6 now),(8,i6 0),(9,sT ⟨#[]⟩),(10,.bool false),(11,i6 0),(12,.slice A ls.length ca),(13,i6 (j:Int))],(pls_b1 kd at_ da w),[],z⟩
def pls_K(ls:List OneM)(mm:Nat)(j:Nat)(A:Option Addr)(ca:Nat)(W4:World)(m:Nat)(st:St)(W0:World):Prop:=
 ∃(k:Nat)(m2:Nat)(nx:List OneM)(B:Option Addr)(cb:Nat)(z:Nat),(m+k=ls.length∧k<=ls.length∧m2+k<=mm)∧Q m2 (ls.drop k++nx) W0∧W4.heap.size<=W0.heap.size∧OwnR W0 w.heap.size 65 26 A ls.length ca (lettersC frm ls)∧OwnR W0 W4.heap.size 65 26 B nx.length cb (lettersC frm nx)∧st=⟨[(0,(pt sb 0)),(1,(pt pb 0)),(2,i6 now),(8,i6 0),(9,sT ⟨#[]⟩),(10,.bool false),(11,i6 0),(12,.slice A ls.length ca),(13,i6 (j:Int)),(14,.slice B nx.length cb),(15,i6 (k:Int))],(pls_b1 kd at_ da w),[],z⟩
end
theorem plays_any(lo sb pb:Nat)(now frm kd at_ er ed:Int)(da dt:ByteArray)(M0:Nat)(hM0:M0<=30)(hnow:0<=now∧now<=1099511627776)(Q0 Q1:World->Prop)(Q:Nat->List OneM->World->Prop)(QA:Nat->OneM->List OneM->SayR->World->Prop)(w:World)(hS0:Stb Q0)(hS1:Stb1 Q1)(hSQ:∀m ls,Stb (Q m ls))(hSA:∀m o ls sy,Stb (QA m o ls sy))(hlen:∀m ls wx,Q m ls wx->ls.length<=20)(hsub:∀wx,Q0 wx->Calls Tryz.prog 14 #[.pointer (some ⟨pb,0,none⟩),i6 now,.agg #[i6 kd,i6 at_,sT da]] wx (fun e w'=>e=.returned (i6 0)∧Q1 w'∧Kept (LawL lo wx) wx w'))(hbz1:∀wx,Q1 wx->Calls Tryz.prog 15 #[.pointer (some ⟨pb,0,none⟩)] wx (RetK (.bool true) wx))(hbz0:∀m wx,Q m [] wx->Calls Tryz.prog 15 #[.pointer (some ⟨pb,0,none⟩)] wx (RetK (.bool false) wx))(hstep:∀wx,Q1 wx->Calls Tryz.prog 16 #[.pointer (some ⟨pb,0,none⟩),i6 (now+0)] wx (fun e w'=>∃A ca ls mm,e=.returned (.slice A ls.length ca)∧Q mm ls w'∧mm<=M0∧OwnR w' w.heap.size 65 26 A ls.length ca (lettersC frm ls)∧Kept (fun y=>LawL lo wx y∨(w.heap.size<=y∧TyIn wx 65 y)) wx w'))(hans:∀m o ls wx,Q m (o::ls) wx->Calls Tryz.prog 18 #[.pointer (some ⟨sb,0,none⟩),i6 (now+0),.agg #[i6 frm,i6 o.to,i6 o.id,.bool false,i6 o.q.kind,i6 o.q.stripe,i6 o.q.epoch,i6 o.q.seq,i6 o.q.mask,i6 o.q.node,i6 o.q.oe,i6 o.q.os,sT o.q.block,i6 0,i6 0,i6 0,.bool false,i6 0,i6 0,i6 0,sT ⟨#[]⟩,.bool false,i6 0,i6 0,i6 0,sT ⟨#[]⟩]] wx (fun e w'=>∃sy:SayR,e=.returned (.tuple #[.agg #[i6 o.to,i6 frm,i6 o.id,.bool true,i6 0,i6 0,i6 0,i6 0,i6 0,i6 0,i6 0,i6 0,sT ⟨#[]⟩,i6 sy.st,i6 sy.ep,i6 sy.ou,.bool sy.rc.used,i6 sy.rc.fence,i6 sy.rc.de,i6 sy.rc.ds,sT sy.rc.block,.bool sy.rc.op,i6 sy.rc.ie,i6 sy.rc.is,i6 sy.rc.mask,sT sy.rc.staged],.bool true])∧QA m o ls sy w'∧Kept (LawL lo wx) wx w'))(hrec:∀m o ls sy wx,QA m o ls sy wx->Calls Tryz.prog 19 #[.pointer (some ⟨pb,0,none⟩),i6 (now+0),.agg #[i6 o.to,i6 frm,i6 o.id,.bool true,i6 0,i6 0,i6 0,i6 0,i6 0,i6 0,i6 0,i6 0,sT ⟨#[]⟩,i6 sy.st,i6 sy.ep,i6 sy.ou,.bool sy.rc.used,i6 sy.rc.fence,i6 sy.rc.de,i6 sy.rc.ds,sT sy.rc.block,.bool sy.rc.op,i6 sy.rc.ie,i6 sy.rc.is,i6 sy.rc.mask,sT sy.rc.staged]] wx (fun e w'=>∃A ca nx m',e=.returned (.slice A (List.length nx) ca)∧Q m' (ls++nx) w'∧m'<m∧OwnR w' wx.heap.size 65 26 A nx.length ca (lettersC frm nx)∧Kept (LawL lo wx) wx w'))(hlast:∀m wx,Q m [] wx->Calls Tryz.prog 20 #[.pointer (some ⟨pb,0,none⟩)] wx (RetK (.tuple #[i6 er,sT dt,i6 ed]) wx))(hQ0:Q0 w) :
  Calls Tryz.prog 23 #[.pointer (some ⟨sb,0,none⟩),.pointer (some ⟨pb,0,none⟩),i6 now,.agg #[i6 kd,i6 at_,sT da]] w (fun e w'=>e=.returned (.tuple #[i6 er,sT dt,.bool true])∧(∃m_,Q m_ [] w')∧Kept (LawL lo w) w w'):=by
 refine cH (S:=(fun _=>False)) (n:=87) Tryz.func23 (MemOk.none w _) ?_
 refine hgS 16 (dz 7 0x30008000000) [0,1,2,8,9,10,21,22,23] [] [(w.heap.size,0,3)] [.ops [1,0,0] [3,4],.code [1,0,1],.code [1,1]] (pls_b1 kd at_ da w) [] (w.heap.size+1) ?_
 refine hcV (w:=w) (S':=(LawL lo w)) (Y:=Unit) (fun _=>i6 0) (fun _=>(pls_b1 kd at_ da w)) (fun _ W_=>Q1 W_) (show _=some (14,[(pt pb 0),i6 now,.agg #[i6 kd,i6 at_,sT da]],some 24,[])by kernel_rfl) tI (fun wx hm=>?_) (fun y_ W1 hX1 hm1=>?_)
 ·have hm0_:=(hm.wide (S':=LawL lo w) (fun _ h=>h.elim))
  have f_q:=(hS0 _ _ _ [] hQ0 hm.kept (fun _ h=>h.elim) rfl)
  refine(hsub wx f_q).mono fun e w' hq_=>?_
  obtain⟨he_,nf_q,h3_⟩:=hq_
  exact⟨(),he_,nf_q,hm0_.offA (fun _ h=>h) h3_ (lawL_up hm0_.kept) (off_tys hm (es:=TL17) (fun _ h=>h.1) rfl)⟩
 have f1_q:=hX1
 refine hgE 13 (dz 3 0) [0,1,2,8,9,10,11] [fF] [] [.code [1,1,0,1,0],.blk 0,.code [1,1,1]] ⟨[(0,(pt sb 0)),(1,(pt pb 0)),(2,i6 now),(8,i6 0),(9,sT ⟨#[]⟩),(10,.bool false),(11,i6 0)],(pls_b1 kd at_ da w),[],W1.heap.size⟩ ?_
 refine holds_loopW (w:=w) (S':=LawL lo w) (pls_T sb pb now kd at_ da Q1 Q w) 1 (by kernel_rfl) (fun W0 hm=>⟨⟨0,_,.inl ⟨rfl,rfl,(hS1 _ _ _ _ f1_q hm.kept (turned_tys hm1) rfl)⟩,rfl⟩,(MemOk.bck hm1 hm)⟩) ?_
 rintro m _ W2 ⟨t,z,hh2,rfl⟩ hm2 J2 hJ2
 rcases hh2 with⟨rfl,hmz,f_q⟩|⟨rfl,hmz,mm,f_q⟩
 rotate_left
 ·skip
  change Holds _ _ _ _ W2 (Turned (pls_b1 kd at_ da w)) _ [.code [1,1,0,1,0,0],.inv J2,.blk 0,.code [1,1,1]] ⟨[(0,(pt sb 0)),(1,(pt pb 0)),(2,i6 now),(8,i6 0),(9,sT ⟨#[]⟩),(10,.bool false),(11,i6 1)],(pls_b1 kd at_ da w),[],W2.heap.size⟩
  refine hgS 10 (dz 4 4096) [0,1,2,8,9,10,11,28,29] [tT] [] [.ops [1,1,0,1,0,0,0,0] [4,5],.code [1,1,0,1,0,0,0,1],.code [1,1,0,1,0,0,1],.inv J2,.blk 0,.code [1,1,1]] (pls_b1 kd at_ da w) [] W2.heap.size ?_
  refine hcp (.bool false) 15 [(pt pb 0)] (some 30) [true=true] ⟨rfl,tI⟩ rfl (fun wx hm=>by
   have f_q:=((hSQ _ _) _ _ _ _ f_q hm.kept (turned_tys hm2) rfl)
   exact hbz0 mm wx f_q) fun z5 hz5=>?_
  replace hz5:W2.heap.size<=z5:=hz5
  refine hgS 10 (dz 3 3) [1,8,9,10,77] [tT,fF] [] [.ops [1,1,1,0] [1,2,3,4,5,6,7,8],.code [1,1,1,1]] (pls_b1 kd at_ da w) [] z5 ?_
  refine hcp (.tuple #[i6 er,sT dt,i6 ed]) 20 [(pt pb 0)] (some 78) [] tI rfl (fun wx hm=>by
   have f_q:=((hSQ _ _) _ _ _ _ f_q hm.kept (turned_tys hm2) rfl)
   exact hlast mm wx f_q) fun z7 hz7=>?_
  replace hz7:z5<=z7:=hz7
  refine hgS 16 (dz 10 0) [8,9,10,82,83,84] [] [] [.ops [1,1,1,1,0] [3,4,5,6,7],.code [1,1,1,1,1]] (pls_b1 kd at_ da w) [] z7 ?_
  refine hcp (.bool false) 15 [(pt pb 0)] (some 85) [] tI rfl (fun wx hm=>by
   have f_q:=((hSQ _ _) _ _ _ _ f_q hm.kept (turned_tys hm2) rfl)
   exact hbz0 mm wx f_q) fun z9 hz9=>?_
  replace hz9:z7<=z9:=hz9
  refine hgS 8 (dz 4 0) [8,9,10] [] [] [.code [1,1,1,1,1]] (pls_b1 kd at_ da w) [] z9 ?_
  refine hrt [] [i6 er,sT dt,.bool true] [] ?_
  intro wx hm
  exact⟨rfl,⟨mm,((hSQ _ _) _ _ _ _ f_q hm.kept (turned_tys hm2) rfl)⟩,(MemOk.bck hm2 hm).kept⟩
 change Holds _ _ _ _ W2 (Turned (pls_b1 kd at_ da w)) _ [.code [1,1,0,1,0,0],.inv J2,.blk 0,.code [1,1,1]] ⟨[(0,(pt sb 0)),(1,(pt pb 0)),(2,i6 now),(8,i6 0),(9,sT ⟨#[]⟩),(10,.bool false),(11,i6 0)],(pls_b1 kd at_ da w),[],W2.heap.size⟩
 refine hgS 10 (dz 4 4096) [0,1,2,8,9,10,11,28,29] [tT] [] [.ops [1,1,0,1,0,0,0,0] [4,5],.code [1,1,0,1,0,0,0,1],.code [1,1,0,1,0,0,1],.inv J2,.blk 0,.code [1,1,1]] (pls_b1 kd at_ da w) [] W2.heap.size ?_
 refine hcp (.bool true) 15 [(pt pb 0)] (some 30) [true=true] ⟨rfl,tI⟩ rfl (fun wx hm=>by
  have f_q:=(hS1 _ _ _ _ f_q hm.kept (turned_tys hm2) rfl)
  exact hbz1 wx f_q) fun z13 hz13=>?_
 replace hz13:W2.heap.size<=z13:=hz13
 refine hgS 15 (dz 6 2097171) [0,1,2,8,9,10,11,34,37] [tT,tT,n64 ((now+0))] [] [.ops [1,1,0,1,0,0,1,0,0,0] [4,5],.code [1,1,0,1,0,0,1,0,0,1],.blk 1,.code pls_n6,.inv J2,.blk 0,.code [1,1,1]] (pls_b1 kd at_ da w) [] z13 ?_
 refine hcV (w:=w) (S':=(LawL lo w)) (Y:=(Option Addr)×Nat×(List OneM)×Nat) (fun yq=>.slice yq.1 yq.2.2.1.length yq.2.1) (fun yq=>(pls_b1 kd at_ da w)) (fun yq W_=>Q yq.2.2.2 yq.2.2.1 W_∧yq.2.2.2<=M0∧OwnR W_ w.heap.size 65 26 yq.1 yq.2.2.1.length yq.2.1 (lettersC frm yq.2.2.1)) (show _=some (16,[(pt pb 0),i6 (now+0)],some 38,[])by kernel_rfl) tI (fun wx hm=>?_) (fun yq W3 hX3 hm3=>?_)
 ·have hm0_:=(MemOk.bck hm2 hm)
  have f_q:=(hS1 _ _ _ _ f_q hm.kept (turned_tys hm2) rfl)
  refine(hstep wx f_q).mono fun e w' hq_=>?_
  obtain⟨A,ca,ls,mm,he_,nf_q,nf_le,no_l,h3_⟩:=hq_
  exact⟨(A,ca,ls,mm),he_,⟨nf_q,nf_le,no_l⟩,hm0_.offA (fun _ h=>h) h3_ (fun y hy=>hy.elim (lawL_up hm0_.kept y) (fun h=>.inr h.1)) (off_tys hm (es:=65::TL17) (fun y hy=>law8L_ty y hy) rfl)⟩
 obtain⟨A,ca,ls,mm⟩:=yq
 obtain⟨f3_q,f3_le,o3_l⟩:=hX3
 replace f3_q:Q mm ls W3:=f3_q
 replace f3_le:mm<=M0:=f3_le
 refine hgE 10 (dz 2 0) [0,1,2,8,9,10,11,12,13] [] [] [.code [1,1,0,1,0,0,1,0,0,1,1,0],.blk 2,.blk 1,.code pls_n6,.inv J2,.blk 0,.code [1,1,1]] ⟨[(0,(pt sb 0)),(1,(pt pb 0)),(2,i6 now),(8,i6 0),(9,sT ⟨#[]⟩),(10,.bool false),(11,i6 0),(12,.slice A ls.length ca),(13,i6 0)],(pls_b1 kd at_ da w),[],W3.heap.size⟩ ?_
 refine holds_loopW (w:=w) (S':=LawL lo w) (pls_J sb pb now frm kd at_ da M0 Q w) mm (by kernel_rfl) (fun W0 hm=>⟨⟨0,mm,ls,A,ca,_,⟨rfl,by omega⟩,((hSQ _ _) _ _ _ _ f3_q hm.kept (turned_tys hm3) rfl),(o3_l.keptT hm.kept (turned_tys hm3) rfl),rfl⟩,(MemOk.bck hm3 hm)⟩) ?_
 rintro m _ W4 ⟨j,mm,ls,A,ca,z,hh4,f4_q,o4_l,rfl⟩ hm4 J4 hJ4
 obtain⟨hme,hmj⟩:=hh4
 have hlz:∀y,ownS A y->y<W4.heap.size:=fun y hy=>(o4_l.own y hy).2
 have hwz:w.heap.size<=W4.heap.size:=hm4.kept.size
 have hln:=hlen _ _ _ f4_q
 by_cases hls:ls.length=0
 ·skip
  refine holds_go (f:=22) (hs:=[oh0,oh0,oh0,oh1,oh1,oh1,oh3,oh0,oh0,oh0,oh0]) [0,1,2,8,9,10,11] [true] (show _=some (Res.mk [(decide (((j:Int):Int)<40))=true,(decide (((j:Int):Int)<40))=true,(decide (((j:Int):Int)<40))=true,(decide (((j:Int):Int)<40))=true,(decide ((((ls.length:Nat):Int):Int)>0))=false] (dupR []) [.inv J2,.blk 0,.code [1,1,1]] ⟨[(0,(pt sb 0)),(1,(pt pb 0)),(2,i6 now),(8,i6 0),(9,sT ⟨#[]⟩),(10,.bool false),(11,i6 1)],(pls_b1 kd at_ da w),[],W4.heap.size⟩)by kernel_rfl) ⟨decide_eq_true (by omega),decide_eq_true (by omega),decide_eq_true (by omega),decide_eq_true (by omega),decide_eq_false (by omega),trivial⟩ ?_
  obtain rfl:=List.length_eq_zero_iff.1 hls
  intro a_ w9 hf hm
  exact hJ2 (0) _ a_ w9 (by omega) ⟨1,_,.inr ⟨rfl,rfl,_,((hSQ _ _) _ _ _ _ f4_q hm.kept (turned_tys hm4) rfl)⟩,rfl⟩ hf (MemOk.bck hm4 hm)
 refine hgE 28 (dz 10 319885312) [0,1,2,8,9,10,11,12,13,14,15] (rE 4 (dT (((j:Int):Int)<40))++[dT ((((ls.length:Nat):Int):Int)>0)]) [] [.code [1,1,0,1,0,0,1,0,0,1,1,0,0,1,0,0,1,0,1,0],.blk 4,.code pls_n4,.blk 3,.code pls_n5,.inv J4,.blk 2,.blk 1,.code pls_n6,.inv J2,.blk 0,.code [1,1,1]] ⟨[(0,(pt sb 0)),(1,(pt pb 0)),(2,i6 now),(8,i6 0),(9,sT ⟨#[]⟩),(10,.bool false),(11,i6 0),(12,.slice A ls.length ca),(13,i6 (j:Int)),(14,.slice none 0 0),(15,i6 0)],(pls_b1 kd at_ da w),[],W4.heap.size⟩ ?_
 have f5_q:Q mm (ls.drop 0++[]) W4:=by rw[List.append_nil]; exact f4_q
 have o6_nx:OwnR W4 W4.heap.size 65 26 none 0 0 (lettersC frm ([])):=OwnR.nil _ _ _ _
 have f_sz0:W4.heap.size<=W4.heap.size:=Nat.le_refl _
 refine holds_loopW (w:=w) (S':=LawL lo w) (pls_K sb pb now frm kd at_ da Q w ls mm j A ca W4) ls.length (by kernel_rfl) (fun W0 hm=>⟨⟨0,mm,[],none,0,_,⟨by omega,by omega,by omega⟩,((hSQ _ _) _ _ _ _ f5_q hm.kept (turned_tys hm4) rfl),(Nat.le_trans f_sz0 hm.kept.size),(o4_l.keptT hm.kept (turned_tys hm4) rfl),(o6_nx.keptT hm.kept (turned_tys hm4) rfl),rfl⟩,(MemOk.bck hm4 hm)⟩) ?_
 rintro m _ W7 ⟨k,m2,nx,B,cb,z,hh7,f7_q,f7_sz,o7_l,o7_nx,rfl⟩ hm7 J7 hJ7
 obtain⟨hmk,hkl,hm2⟩:=hh7
 by_cases hk:k<ls.length
 rotate_left
 ·skip
  refine holds_go (f:=23) (hs:=[oh0,oh0,oh0,oh0,oh0,oh0,oh0,oh0,oh2,oh0]) [0,1,2,8,9,10,11,12,13] [true] (show _=some (Res.mk [(decide (((k:Int):Int)<((ls.length:Nat):Int)))=false,inR .i64 (((j:Int)+1))] (dupR []) [.inv J4,.blk 2,.blk 1,.code pls_n6,.inv J2,.blk 0,.code [1,1,1]] ⟨[(0,(pt sb 0)),(1,(pt pb 0)),(2,i6 now),(8,i6 0),(9,sT ⟨#[]⟩),(10,.bool false),(11,i6 0),(12,.slice B nx.length cb),(13,i6 ((j:Int)+1))],(pls_b1 kd at_ da w),[],W7.heap.size⟩)by kernel_rfl) ⟨decide_eq_false (by omega),in64 (by omega),trivial⟩ ?_
  have f8_q:Q m2 nx W7:=by have h_:=f7_q; rwa [List.drop_of_length_le (by omega),List.nil_append]at h_
  have o_low:=OwnR.below (base':=w.heap.size) o7_nx hwz
  rw[<-cast_succ j]
  intro a_ w9 hf hm
  exact hJ4 (m2) _ a_ w9 (by omega) ⟨j+1,m2,nx,B,cb,_,⟨rfl,by omega⟩,((hSQ _ _) _ _ _ _ f8_q hm.kept (turned_tys hm7) rfl),(o_low.keptT hm.kept (turned_tys hm7) rfl),rfl⟩ hf (MemOk.bck hm7 hm)
 obtain⟨o,ho⟩:∃o,ls[k]?=some o:=⟨_,List.getElem?_eq_getElem hk⟩
 obtain⟨gA,rfl,_⟩:=OwnR.cell (j:=k*26+0) (v:=i6 frm) o7_l (flatV_get (f:=letC frm) (fun _=>rfl) ho (by decide))
 have f9_q:Q m2 (o::(ls.drop (k+1)++nx)) W7:=by have h_:=f7_q; rwa [List.drop_eq_getElem_cons hk,(List.getElem?_eq_some_iff.1 ho).2,List.cons_append]at h_
 refine holds_wins [⟨gA,0+k*26,(pls_v1 frm o)⟩] (fun _ y hy=>?_) ?_
 ·simp only[List.mem_cons,List.not_mem_nil,or_false]at hy
  subst hy
  exact⟨fun h=>tysIn_not rfl (o7_l.ty gA ⟨_,rfl,rfl⟩) (turned_tys hm7 _ h),(o7_l.own gA ⟨_,rfl,rfl⟩).2,own_elem (f:=(letC frm)) (fun _=>rfl) o7_l ho⟩
 refine hgS 25 [oh0,oh0,oh0,oh0,oh1,oh0,oh0,oh0,oh2,oh0,oh0,oh2,⟨false,0,[⟨true,0,0,26⟩]⟩] [0,1,2,8,9,10,11,12,13,14,15,55,58,62] [dT (((k:Int):Int)<((ls.length:Nat):Int)),n64 ((now+0)),oE ((0:Int)<=(k:Int)∧(k:Int)<((ls.length:Nat):Int))] [(gA,0+k*26,26)] [.ops [1,1,0,1,0,0,1,0,0,1,1,0,0,1,0,0,1,0,1,0,0,1,0,0,0] [8,9,10,11,12,13,14],.code [1,1,0,1,0,0,1,0,0,1,1,0,0,1,0,0,1,0,1,0,0,1,0,0,1],.blk 5,.code pls_n3,.inv J7,.blk 4,.code pls_n4,.blk 3,.code pls_n5,.inv J4,.blk 2,.blk 1,.code pls_n6,.inv J2,.blk 0,.code [1,1,1]] (pls_b1 kd at_ da w) [⟨gA,0+k*26,(pls_v1 frm o)⟩] W7.heap.size ?_
 refine holds_wins [] (fun _ _ h=>by cases h) ?_
 refine hcV (w:=w) (S':=(LawL lo w)) (Y:=SayR) (fun sy=>.tuple #[.agg (List.toArray (pls_v2 frm o sy)),.bool true]) (fun sy=>(pls_b1 kd at_ da w)) (fun sy W_=>W4.heap.size<=W_.heap.size∧QA m2 o (ls.drop (k+1)++nx) sy W_∧OwnR W_ w.heap.size 65 26 (some ⟨gA,0,none⟩) ls.length ca (lettersC frm ls)∧OwnR W_ W4.heap.size 65 26 B nx.length cb (lettersC frm nx)) (show _=some (18,[(pt sb 0),i6 (now+0),.agg (List.toArray (pls_v1 frm o))],some 63,[])by kernel_rfl) tI (fun wx hm=>?_) (fun sy W10 hX10 hm10=>?_)
 ·have hm0_:=(MemOk.bck hm7 hm)
  have f_q:=((hSQ _ _) _ _ _ _ f9_q hm.kept (turned_tys hm7) rfl)
  have f_sz:=(Nat.le_trans f7_sz hm.kept.size)
  have o_l:=(o7_l.keptT hm.kept (turned_tys hm7) rfl)
  have o_nx:=(o7_nx.keptT hm.kept (turned_tys hm7) rfl)
  refine(hans m2 o _ wx f_q).mono fun e w' hq_=>?_
  obtain⟨sy,he_,nf_q,h3_⟩:=hq_
  exact⟨sy,he_,⟨(Nat.le_trans f_sz h3_.size),nf_q,(o_l.keptT h3_ (fun _ h=>h.1) rfl),(o_nx.keptT h3_ (fun _ h=>h.1) rfl)⟩,hm0_.offA (fun _ h=>h) h3_ (lawL_up hm0_.kept) (off_tys hm (es:=TL17) (fun _ h=>h.1) rfl)⟩
 obtain⟨f10_sz,f10_q,o10_l,o10_nx⟩:=hX10
 refine hgE 22 (dz 14 0x1a0018200001001a00180000) pls_n1 [tT,n64 ((now+0))] [(W10.heap.size,0,26),(W10.heap.size,0,26)] [.ops pls_n2 [6,7,8],.blk 5,.code pls_n3,.inv J7,.blk 4,.code pls_n4,.blk 3,.code pls_n5,.inv J4,.blk 2,.blk 1,.code pls_n6,.inv J2,.blk 0,.code [1,1,1]] ⟨[(0,(pt sb 0)),(1,(pt pb 0)),(2,i6 now),(8,i6 0),(9,sT ⟨#[]⟩),(10,.bool false),(11,i6 0),(12,.slice (some ⟨gA,0,none⟩) ls.length ca),(13,i6 (j:Int)),(14,.slice B nx.length cb),(15,i6 (k:Int)),(67,.slice B nx.length cb),(68,(pt pb 0)),(71,i6 (now+0)),(72,.agg (List.toArray (pls_v2 frm o sy)))],[⟨w.heap.size,38,true,[i6 kd,i6 at_,sT da]⟩,⟨W10.heap.size,65,true,(pls_v2 frm o sy)⟩],[],W10.heap.size+1⟩ ?_
 refine holds_gndF (bk':=(pls_b2 frm kd at_ da w o sy W10)) [true,false] rfl (fun W11 hm hmz=>?_)
 have f11_sz:W4.heap.size<=W11.heap.size:=(Nat.le_trans f10_sz hm.kept.size)
 have f11_q:QA m2 o (ls.drop (k+1)++nx) sy W11:=((hSA _ _ _ _) _ _ _ _ f10_q hm.kept (turned_tys hm10) rfl)
 have o11_l:OwnR W11 w.heap.size 65 26 (some ⟨gA,0,none⟩) ls.length ca (lettersC frm ls):=(o10_l.keptT hm.kept (turned_tys hm10) rfl)
 have o11_nx:OwnR W11 W4.heap.size 65 26 B nx.length cb (lettersC frm nx):=(o10_nx.keptT hm.kept (turned_tys hm10) rfl)
 have hm11:MemOk w (LawL lo w) (pls_b2 frm kd at_ da w o sy W10) [] W11.heap.size W11:=MemOk.bck hm10 hmz
 clear hm hmz
 refine holds_prune pls_n1 [true,false] ?_
 refine holds_callV (w:=w) (S':=(LawL lo w)) (Y:=(Option Addr)×Nat×(List OneM)×Nat) (fun yq=>.slice yq.1 yq.2.2.1.length yq.2.1) (fun yq=>(pls_b1 kd at_ da w)) (fun yq W_=>W4.heap.size<=W_.heap.size∧Q yq.2.2.2 (ls.drop (k+1)++nx++yq.2.2.1) W_∧yq.2.2.2<m2∧OwnR W_ w.heap.size 65 26 (some ⟨gA,0,none⟩) ls.length ca (lettersC frm ls)∧OwnR W_ W4.heap.size 65 26 B nx.length cb (lettersC frm nx)∧OwnR W_ w.heap.size 65 26 yq.1 yq.2.2.1.length yq.2.1 (lettersC frm yq.2.2.1)) (fun yq=>[(73,.slice yq.1 yq.2.2.1.length yq.2.1),(0,(pt sb 0)),(1,(pt pb 0)),(2,i6 now),(8,i6 0),(9,sT ⟨#[]⟩),(10,.bool false),(11,i6 0),(12,.slice (some ⟨gA,0,none⟩) ls.length ca),(13,i6 (j:Int)),(14,.slice B nx.length cb),(15,i6 (k:Int)),(67,.slice B nx.length cb),(68,(pt pb 0)),(71,i6 (now+0)),(72,.agg (List.toArray (pls_v2 frm o sy)))]) (show _=some (19,[(pt pb 0),i6 (now+0),.agg (List.toArray (pls_v2 frm o sy))],some 73,[])by kernel_rfl) tI (fun _=>rfl) (fun wx hm=>?_) (fun yq W12 hX12 hm12=>?_)
 ·have hm0_:=(MemOk.bck hm11 hm)
  have f_sz:=(Nat.le_trans f11_sz hm.kept.size)
  have f_q:=((hSA _ _ _ _) _ _ _ _ f11_q hm.kept (turned_tys hm11) rfl)
  have o_l:=(o11_l.keptT hm.kept (turned_tys hm11) rfl)
  have o_nx:=(o11_nx.keptT hm.kept (turned_tys hm11) rfl)
  refine(hrec m2 o _ sy wx f_q).mono fun e w' hq_=>?_
  obtain⟨A3,c3,l3,m3,he_,nf_q,nf_lt,no_re,h3_⟩:=hq_
  exact⟨(A3,c3,l3,m3),he_,⟨(Nat.le_trans f_sz h3_.size),nf_q,nf_lt,(o_l.keptT h3_ (fun _ h=>h.1) rfl),(o_nx.keptT h3_ (fun _ h=>h.1) rfl),(no_re.below hm0_.kept.size)⟩,hm0_.offA (fun _ h=>h) h3_ (lawL_up hm0_.kept) (off_tys hm (es:=TL17) (fun _ h=>h.1) rfl)⟩
 obtain⟨A3,c3,l3,m3⟩:=yq
 obtain⟨f12_sz,f12_q,f12_lt,o12_l,o12_nx,o12_re⟩:=hX12
 replace f12_q:Q m3 (ls.drop (k+1)++nx++l3) W12:=f12_q
 replace f12_lt:m3<m2:=f12_lt
 have hln2:=hlen _ _ _ f12_q
 simp only[List.length_append,List.length_drop]at hln2
 refine hgE 3 [] [0,1,2,8,9,10,11,12,13,14,15,67,73] [] [] [.ops pls_n2 [7,8],.blk 5,.code pls_n3,.inv J7,.blk 4,.code pls_n4,.blk 3,.code pls_n5,.inv J4,.blk 2,.blk 1,.code pls_n6,.inv J2,.blk 0,.code [1,1,1]] ⟨[(0,(pt sb 0)),(1,(pt pb 0)),(2,i6 now),(8,i6 0),(9,sT ⟨#[]⟩),(10,.bool false),(11,i6 0),(12,.slice (some ⟨gA,0,none⟩) ls.length ca),(13,i6 (j:Int)),(14,.slice B nx.length cb),(15,i6 (k:Int)),(67,.slice B nx.length cb),(73,.slice A3 l3.length c3)],(pls_b1 kd at_ da w),[],W12.heap.size⟩ ?_
 refine holds_opV (w:=w) (S':=LawL lo w) (Y:=Option Addr×Nat) (dst:=(some 74)) (x:=Builtin.append_ #[50,50] 50 #[.slice B nx.length cb,.slice A3 l3.length c3]) (fun yq=>.slice yq.1 (nx.length+l3.length) yq.2) (pls_b1 kd at_ da w) (fun yq W_=>W4.heap.size<=W_.heap.size∧Q m3 (ls.drop (k+1)++nx++l3) W_∧OwnR W_ w.heap.size 65 26 (some ⟨gA,0,none⟩) ls.length ca (lettersC frm ls)∧OwnR W_ W4.heap.size 65 26 yq.1 (nx.length+l3.length) yq.2 (lettersC frm (nx++l3))) (fun yq=>[(74,.slice yq.1 (nx.length+l3.length) yq.2),(0,(pt sb 0)),(1,(pt pb 0)),(2,i6 now),(8,i6 0),(9,sT ⟨#[]⟩),(10,.bool false),(11,i6 0),(12,.slice (some ⟨gA,0,none⟩) ls.length ca),(13,i6 (j:Int)),(14,.slice B nx.length cb),(15,i6 (k:Int)),(67,.slice B nx.length cb),(73,.slice A3 l3.length c3)]) (by kernel_rfl) (by kernel_rfl) (fun _=>rfl) (fun wx hm=>?_) (fun yq W13 hX13 hm13=>?_)
 ·have hm0_:=(MemOk.bck hm12 hm)
  have f_sz:=(Nat.le_trans f12_sz hm.kept.size)
  have f_q:=((hSQ _ _) _ _ _ _ f12_q hm.kept (turned_tys hm12) rfl)
  have o_l:=(o12_l.keptT hm.kept (turned_tys hm12) rfl)
  have o_nx:=(o12_nx.keptT hm.kept (turned_tys hm12) rfl)
  have o_re:=(o12_re.keptT hm.kept (turned_tys hm12) rfl)
  obtain⟨A',cp',w',h1,h2,h3⟩:=run_appendO (P:=Tryz.prog) wx _ _ 50 50 65 (.agg #[i6 0,i6 0,i6 0,.bool false,i6 0,i6 0,i6 0,i6 0,i6 0,i6 0,i6 0,i6 0,sT ⟨#[]⟩,i6 0,i6 0,i6 0,.bool false,i6 0,i6 0,i6 0,sT ⟨#[]⟩,.bool false,i6 0,i6 0,i6 0,sT ⟨#[]⟩]) 26 232 _ nx.length _ _ _ l3.length _ _ (by kernel_rfl) (by kernel_rfl) (by kernel_rfl) (by decide) o_nx o_re (letters_one frm l3) (by omega) (by decide) f_sz
  rw[show lettersC frm nx++lettersC frm l3=lettersC frm (nx++l3)by simp[lettersC]]at h2
  exact⟨(A',cp'),w',h1,⟨(Nat.le_trans f_sz h3.size),((hSQ _ _) _ _ _ _ f_q h3 (own_tys o_nx) rfl),(o_l.kept h3 (fun y hy hy'=>by have h8:=hlz y hy; have h9:=(o_nx.own y hy').1; omega)),h2⟩,hm0_.offA (fun _ h=>h) h3 (fun y hy=>.inr (Nat.le_trans hwz (o_nx.own y hy).1)) (off_tys hm (own_tys o_nx) rfl)⟩
 obtain⟨A4,c4⟩:=yq
 obtain⟨f13_sz,f13_q,o13_l,o13_nx⟩:=hX13
 have f14_q:Q m3 (ls.drop (k+1)++(nx++l3)) W13:=by rw[<-List.append_assoc]; exact f13_q
 refine holds_go (f:=11) (hs:=[oh0,oh0,oh2,oh0]) [0,1,2,8,9,10,11,12,13,14,15] [true] (show _=some (Res.mk [inR .i64 (((k:Int)+1))] (dupR []) [.inv J7,.blk 4,.code pls_n4,.blk 3,.code pls_n5,.inv J4,.blk 2,.blk 1,.code pls_n6,.inv J2,.blk 0,.code [1,1,1]] ⟨[(0,(pt sb 0)),(1,(pt pb 0)),(2,i6 now),(8,i6 0),(9,sT ⟨#[]⟩),(10,.bool false),(11,i6 0),(12,.slice (some ⟨gA,0,none⟩) ls.length ca),(13,i6 (j:Int)),(14,.slice A4 (nx.length+l3.length) c4),(15,i6 ((k:Int)+1))],(pls_b1 kd at_ da w),[],W13.heap.size⟩)by kernel_rfl) ⟨in64 (by omega),trivial⟩ ?_
 have o15_nx:OwnR W13 W4.heap.size 65 26 A4 ((nx++l3).length) c4 (lettersC frm (nx++l3)):=by rw[List.length_append]; exact o13_nx
 rw[show nx.length+l3.length=(nx++l3).length from List.length_append.symm,<-cast_succ k]
 intro a_ w9 hf hm
 exact hJ7 (m-1) _ a_ w9 (by omega) ⟨k+1,m3,nx++l3,A4,c4,_,⟨by omega,by omega,by omega⟩,((hSQ _ _) _ _ _ _ f14_q hm.kept (turned_tys hm13) rfl),(Nat.le_trans f13_sz hm.kept.size),(o13_l.keptT hm.kept (turned_tys hm13) rfl),(o15_nx.keptT hm.kept (turned_tys hm13) rfl),rfl⟩ hf (MemOk.bck hm13 hm)
end Go.Proofs.YtcmpkkapkdlfhaaGreat
