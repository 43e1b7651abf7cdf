import Derived.Test.YtcmpkkapkdlfhaaGreatPilM
namespace Go.Proofs.YtcmpkkapkdlfhaaGreat
open Go.RowKit
set_option maxHeartbeats 4000000
set_option maxRecDepth 100000
theorem within_any(k:Int)(w:World)  :
  Calls Tryz.prog 44 #[i6 k] w (RetK (i6 (within14 k)) w):=by
 refine cH (S:=(fun _=>False)) (n:=6) Tryz.func44 (MemOk.none w _) ?_
 refine hgS 14 (dz 5 8704) [2] [vV,vV] [] [.code [1,1]] [] [] w.heap.size ?_
 refine hrt [] [i6 (minZ (maxZ k 0) 1099511627776)] [] ?_
 intro wx hm
 exact⟨rfl,hm.kept⟩
theorem callNew_any(frm k:Int)(w:World)  :
  Calls Tryz.prog 27 #[i6 frm,i6 k] w (fun e w'=>∃cb,e=.returned (.pointer (some ⟨cb,0,none⟩))∧w.heap.size<=cb∧Blk w' cb 124 [i6 frm,i6 (within14 k),.slice none 0 0]∧Kept (fun _=>False) w w'):=by
 refine cH (S:=(fun _=>False)) (n:=10) Tryz.func27 (MemOk.none w _) ?_
 refine hgS 11 (dz 3 0) [4,5,6] [] [] [.ops [1,0] [2,3,4,5],.code [1,1]] [] [] w.heap.size ?_
 refine hcq (i6 (within14 k)) _ _ (some 7) [] tI rfl (fun wx hm=>within_any k wx) fun z2 hz2=>?_
 refine hgS 7 (dz 3 0) [4] [] [] [.code [1,1]] [⟨z2,124,true,[i6 frm,i6 (within14 k),.slice none 0 0]⟩] [] (z2+1) ?_
 refine hrt [] [(pt z2 0)] [] ?_
 intro wx hm
 exact⟨z2,rfl,by omega,hm.at_ 0 rfl,hm.kept⟩
theorem drop_any(frm lst:Int)(A:Option Addr)(ol cp cb:Nat)(w:World)(hc:Blk w cb 124 [i6 frm,i6 lst,.slice A ol cp]) :
  Calls Tryz.prog 79 #[.pointer (some ⟨cb,0,none⟩)] w (fun e w'=>e=.returned (.tuple #[])∧Blk w' cb 124 [i6 frm,i6 lst,.slice none 0 0]∧Kept (fun x=>x=cb) w w'):=by
 refine cH (S:=(fun x=>x=cb)) (n:=5) Tryz.func79 (MemOk.start (bk:=[⟨cb,124,true,[i6 frm,i6 lst,.slice A ol cp]⟩]) (wn:=[]) (by simpa using hc) (by simp) (by simp) (by simp)) ?_
 refine hgE 9 (dz 4 270565376) [] [] [(cb,2,1)] [] ⟨[],[⟨cb,124,true,[i6 frm,i6 lst,.slice none 0 0]⟩],[],w.heap.size⟩ ?_
 refine holds_end [] (show _=some ([],dupR [])by kernel_rfl) ?_
 intro wx hm
 exact⟨rfl,hm.at_ 0 rfl,hm.kept⟩
theorem open14_any(frm lst:Int)(A:Option Addr)(ol cp cb:Nat)(w:World)(hc:Blk w cb 124 [i6 frm,i6 lst,.slice A ol cp]) :
  Calls Tryz.prog 36 #[.pointer (some ⟨cb,0,none⟩)] w (RetK (i6 (ol:Int)) w):=by
 refine cH (S:=(fun _=>False)) (n:=8) Tryz.func36 (MemOk.start (bk:=[⟨cb,124,false,[i6 frm,i6 lst,.slice A ol cp]⟩]) (wn:=[]) (by simpa using hc) (by simp) (by simp) (by simp)) ?_
 refine hgS 16 (dz 7 4329046016) [2] [] [(cb,2,1)] [.code [1,1]] [⟨cb,124,false,[i6 frm,i6 lst,.slice A ol cp]⟩] [] w.heap.size ?_
 refine hrt [] [i6 (ol:Int)] [] ?_
 intro wx hm
 exact⟨rfl,hm.kept⟩
section
variable (frm lst:Int)(o:OneM)(ol:Nat)(A:Option Addr)(cp cb:Nat)(w:World)
def clt_v1:List Value:=[i6 frm,i6 o.to,i6 o.id,.bool false,i6 o.q.kind,i6 o.q.stripe,i6 o.q.epoch,i6 o.q.seq,i6 o.q.mask,i6 o.q.node,i6 o.q.oe,i6 o.q.os,sT o.q.block,i6 0,i6 0,i6 0,.bool false,i6 0,i6 0,i6 0,sT ⟨#[]⟩,.bool false,i6 0,i6 0,i6 0,sT ⟨#[]⟩]
def clt_v2:List Value:=[i6 o.to,i6 o.id,i6 o.q.kind,i6 o.q.stripe,i6 o.q.epoch,i6 o.q.seq,i6 o.q.mask,i6 o.q.node,i6 o.q.oe,i6 o.q.os,sT o.q.block,i6 o.asked,i6 o.sent]
def clt_v3:List Value:=rp 3 (i6 0)++[.bool false]++rp 8 (i6 0)++[sT ⟨#[]⟩]++rp 3 (i6 0)++[.bool false]++rp 3 (i6 0)++[sT ⟨#[]⟩,.bool false]++rp 3 (i6 0)++[sT ⟨#[]⟩]
@[simp] def clt_b1:List Bk:=[⟨cb,124,false,[i6 frm,i6 lst,.slice A ol cp]⟩,⟨w.heap.size,141,true,(clt_v2 o)⟩,⟨w.heap.size+1,65,true,(clt_v3)⟩]
@[simp] def clt_b2:List Bk:=[⟨cb,124,false,[i6 frm,i6 lst,.slice A ol cp]⟩,⟨w.heap.size,141,true,(clt_v2 o)⟩,⟨w.heap.size+1,65,true,(clt_v1 frm o)⟩]
def clt_g2s:List (Nat×Value):=[(0,(pt cb 0)),(3,(pt w.heap.size 0)),(4,(pt (w.heap.size+1) 0))]
def clt_g2v:List (Option Value):=[some ((pt cb 0)),some ((pt cb 0)),some ((pt cb 0)),some (i6 frm),some ((pt w.heap.size 0)),some (i6 o.to),some ((pt w.heap.size 1)),some (i6 o.id),some ((pt w.heap.size 2)),some (.agg #[i6 o.q.kind,i6 o.q.stripe,i6 o.q.epoch,i6 o.q.seq,i6 o.q.mask,i6 o.q.node,i6 o.q.oe,i6 o.q.os,sT o.q.block]),some (.agg (List.toArray (clt_v1 frm o))),some (.tuple #[])]
def clt_g2m:List (List Bk):=[(clt_b1 frm lst o ol A cp cb w),(clt_b2 frm lst o ol A cp cb w)]
def clt_g2t:List (Option Nat):=[none,none,none,none,none,none,none,none,none,none,none,some 0]
theorem clt_g2_11:∀sz,opG Tryz.prog (opsOf (getCode (bodyOf Tryz.f61) [1,0])) ⟨slG (opsOf (getCode (bodyOf Tryz.f61) [1,0])) (clt_g2v frm o cb w) (slI (opsOf (getCode (bodyOf Tryz.f61) [1,0])) (clt_g2s cb w) 11) (needsOf (opsOf (getCode (bodyOf Tryz.f61) [1,0])) 11),(clt_b1 frm lst o ol A cp cb w),[],sz⟩ 11 (oA 2 0 26)=some ([],dupR [(w.heap.size+1,0,26)],undef,(clt_b2 frm lst o ol A cp cb w),sz):=fun sz=>by kernel_rfl
def clt_g2C(i_:Nat):Prop:=CertG (wpOp Tryz.prog (opsOf (getCode (bodyOf Tryz.f61) [1,0])) (sem Tryz.prog (bodyOf Tryz.f61) (bodyPost Tryz.prog Tryz.f61 (RetK (.agg (List.toArray (clt_v1 frm o))) w)) [.code [1,1]])) [] 16 (opsOf (getCode (bodyOf Tryz.f61) [1,0])) (slI (opsOf (getCode (bodyOf Tryz.f61) [1,0])) (clt_g2s cb w) i_) (clt_g2t) 1 (MG w (fun _=>False) (clt_g2m frm lst o ol A cp cb w) [] (w.heap.size+2)) (Turned (clt_b1 frm lst o ol A cp cb w)) (PvG (clt_g2v frm o cb w) (fun _ _ _=>False)) i_
end
theorem letter14_any(frm lst:Int)(A:Option Addr)(ol cp cb:Nat)(o:OneM)(w:World)(hc:Blk w cb 124 [i6 frm,i6 lst,.slice A ol cp]) :
  Calls Tryz.prog 61 #[.pointer (some ⟨cb,0,none⟩),.agg #[i6 o.to,i6 o.id,i6 o.q.kind,i6 o.q.stripe,i6 o.q.epoch,i6 o.q.seq,i6 o.q.mask,i6 o.q.node,i6 o.q.oe,i6 o.q.os,sT o.q.block,i6 o.asked,i6 o.sent]] w (RetK (.agg #[i6 frm,i6 o.to,i6 o.id,.bool false,i6 o.q.kind,i6 o.q.stripe,i6 o.q.epoch,i6 o.q.seq,i6 o.q.mask,i6 o.q.node,i6 o.q.oe,i6 o.q.os,sT o.q.block,i6 0,i6 0,i6 0,.bool false,i6 0,i6 0,i6 0,sT ⟨#[]⟩,.bool false,i6 0,i6 0,i6 0,sT ⟨#[]⟩]) w):=by
 refine cH (S:=(fun _=>False)) (n:=16) Tryz.func61 (MemOk.start (bk:=[⟨cb,124,false,[i6 frm,i6 lst,.slice A ol cp]⟩]) (wn:=[]) (by simpa using hc) (by simp) (by simp) (by simp)) ?_
 refine hgE 9 (dz 2 0) [0,3,4] [] [] [.code [1,0],.code [1,1]] ⟨[(0,(pt cb 0)),(3,(pt w.heap.size 0)),(4,(pt (w.heap.size+1) 0))],(clt_b1 frm lst o ol A cp cb w),[],w.heap.size+2⟩ ?_
 have clt_g2_c11:clt_g2C frm lst o ol A cp cb w 11:=cert_store (s:=0) (v:=undef) (by kernel_rfl) (by kernel_rfl) (by kernel_rfl) (by kernel_rfl) (by kernel_rfl) (clt_g2_11 frm lst o ol A cp cb w) trivial
 have clt_g2_R:∀e_∈(rZs [0,1,2,4,6,8,10]++[rG 3 0 0 1 cb,rG 5 1 0 1 w.heap.size,rG 7 1 1 1 w.heap.size,rG 9 1 2 9 w.heap.size]:List RegE),clt_g2C frm lst o ol A cp cb w e_.i:=certs_reg (by kernel_rfl) _ (fun sz=>by kernel_rfl)
 refine holds_mixG (vs:=(clt_g2v frm o cb w)) (ms:=(clt_g2m frm lst o ol A cp cb w)) (stg:=(clt_g2t)) (J:=1) (sl':=[(4,(pt (w.heap.size+1) 0))]) (bk':=(clt_b2 frm lst o ol A cp cb w)) (fun _ _ _=>False) [4] (by kernel_rfl) (by kernel_rfl) (by kernel_rfl) (fun _ _ _ _ h=>h.elim) (certs_mix clt_g2_R [11] ⟨clt_g2_c11,tI⟩ (by kernel_rfl)) (by kernel_rfl) (by kernel_rfl) (by kernel_rfl) (fun z2 hz2=>?_)
 replace hz2:w.heap.size+2<=z2:=hz2
 refine hgS 3 [] [4] [] [] [.code [1,1]] (clt_b2 frm lst o ol A cp cb w) [] z2 ?_
 refine hrt [[⟨false,2,0,26⟩]] [.agg (List.toArray (clt_v1 frm o))] [(w.heap.size+1,0,26)] ?_
 intro wx hm
 exact⟨rfl,hm.kept⟩
section
variable (frm lst now to_:Int)(q:AskM)(l:List OneM)(ol:Nat)(A:Option Addr)(cp cb base:Nat)(w:World)(g4 y4:Nat)
def cas_v1:List Value:=[i6 q.kind,i6 q.stripe,i6 q.epoch,i6 q.seq,i6 q.mask,i6 q.node,i6 q.oe,i6 q.os,sT q.block]
def cas_v2:List Value:=clt_v3
def cas_v3:List Value:=[i6 to_,i6 (lst+1),i6 q.kind,i6 q.stripe,i6 q.epoch,i6 q.seq,i6 q.mask,i6 q.node,i6 q.oe,i6 q.os,sT q.block,i6 (within14 now),i6 (within14 now)]
def cas_v4:List Value:=rp 10 (i6 0)++[sT ⟨#[]⟩,i6 0,i6 0]
def cas_v5:List Value:=[i6 frm,i6 to_,i6 (lst+1),.bool false,i6 q.kind,i6 q.stripe,i6 q.epoch,i6 q.seq,i6 q.mask,i6 q.node,i6 q.oe,i6 q.os,sT q.block,i6 0,i6 0,i6 0,.bool false,i6 0,i6 0,i6 0,sT ⟨#[]⟩,.bool false,i6 0,i6 0,i6 0,sT ⟨#[]⟩]
def cas_n1:Array Bool:=(bA 11 511)
def cas_n2:Array Bool:=(bA 11 1023)
def cas_n3:Array Bool:=(bA 11 2047)
@[simp] def cas_b1:List Bk:=[⟨cb,124,true,[i6 frm,i6 (lst+1),.slice A ol cp]⟩,⟨w.heap.size,59,true,(cas_v1 q)⟩,⟨w.heap.size+1,65,true,(cas_v2)⟩]
@[simp] def cas_b2:List Bk:=[⟨cb,124,true,[i6 frm,i6 (lst+1),.slice A ol cp]⟩,⟨w.heap.size,59,true,(cas_v1 q)⟩,⟨w.heap.size+1,65,true,(cas_v2)⟩,⟨g4,141,true,(cas_v4)⟩]
@[simp] def cas_b3:List Bk:=[⟨cb,124,true,[i6 frm,i6 (lst+1),.slice A ol cp]⟩,⟨w.heap.size,59,true,(cas_v1 q)⟩,⟨w.heap.size+1,65,true,(cas_v2)⟩,⟨g4,141,true,(cas_v3 lst now to_ q)⟩]
@[simp] def cas_b4(d:Option Nat×(Option Addr×Nat)):List Bk:=[⟨cb,124,true,[i6 frm,i6 (lst+1),.slice d.2.1 (ol+1) d.2.2]⟩,⟨w.heap.size,59,true,(cas_v1 q)⟩,⟨w.heap.size+1,65,true,(cas_v2)⟩,⟨g4,141,true,(cas_v3 lst now to_ q)⟩]
@[simp] def cas_b5(A2:Option Addr)(cp2:Nat):List Bk:=[⟨cb,124,true,[i6 frm,i6 (lst+1),.slice A2 (ol+1) cp2]⟩,⟨w.heap.size,59,true,(cas_v1 q)⟩,⟨w.heap.size+1,65,true,(cas_v2)⟩,⟨g4,141,true,(cas_v3 lst now to_ q)⟩]
def cas_Q:Exit->Act->World->Prop:=bodyPost Tryz.prog Tryz.f91 (fun e w'=>∃A' cp',e=.returned (.tuple #[.agg (List.toArray (cas_v5 frm lst to_ q)),.bool true])∧Blk w' cb 124 [i6 frm,i6 (lst+1),.slice A' (ol+1) cp']∧OwnR w' base 141 13 A' (ol+1) cp' (onesV (l++[(⟨to_,lst+1,q,within14 now,within14 now⟩:OneM)]))∧FromS w A A'∧Kept (fun x=>x=cb∨ownS A x) w w')
theorem cas_q4(z2:Nat):Out.prune [0,8,9,50] (qList Tryz.prog 64 w (fun x=>x=cb) ((opsOf (getCode (bodyOf Tryz.f91) [1,1,1,1,0])).toList.take 9) ⟨[(0,(pt cb 0)),(1,i6 (within14 now)),(2,i6 to_),(7,(pt w.heap.size 0)),(8,(pt (w.heap.size+1) 0)),(9,.bool false)],(cas_b1 frm lst q ol A cp cb w),[],z2⟩ [.op oh0,.op oh0,.op oh0,.op oh0,.op (oA 0 1 1),.op (oA 1 0 9),.op oh0,.op oh0,.op oh0])=some ⟨[],dupR [(cb,1,1),(w.heap.size,0,9)],⟨[(0,(pt cb 0)),(8,(pt (w.heap.size+1) 0)),(9,.bool false),(50,.agg (List.toArray (cas_v3 lst now to_ q)))],(cas_b1 frm lst q ol A cp cb w),[],z2⟩⟩:=by kernel_rfl
theorem cas_t5:tailP [0,8,9,10] (tailX Tryz.prog 64 (opsOf (getCode (bodyOf Tryz.f91) [1,1,1,1,0])) 1 cas_n2 ⟨[(10,(pt g4 0)),(0,(pt cb 0)),(8,(pt (w.heap.size+1) 0)),(9,.bool false),(50,.agg (List.toArray (cas_v3 lst now to_ q)))],(cas_b2 frm lst q ol A cp cb w g4),[],y4⟩ [(10,false,(oA 3 0 13))])=some (⟨[],dupR [(g4,0,13)],⟨[(0,(pt cb 0)),(8,(pt (w.heap.size+1) 0)),(9,.bool false),(10,(pt g4 0))],(cas_b3 frm lst now to_ q ol A cp cb w g4),[],y4⟩⟩,0,cas_n3):=by kernel_rfl
theorem cas_t6:tailP [0,8,9,10] (tailX Tryz.prog 64 (opsOf (getCode (bodyOf Tryz.f91) [1,1,1,1,0])) 2 cas_n1 ⟨[(0,(pt cb 0)),(8,(pt (w.heap.size+1) 0)),(9,.bool false),(50,.agg (List.toArray (cas_v3 lst now to_ q)))],(cas_b1 frm lst q ol A cp cb w),[],y4⟩ [(9,false,oh0),(10,false,(oA 3 0 13))])=some (⟨[],dupR [(y4,0,13)],⟨[(0,(pt cb 0)),(8,(pt (w.heap.size+1) 0)),(9,.bool false),(10,(pt y4 0))],[⟨cb,124,true,[i6 frm,i6 (lst+1),.slice A ol cp]⟩,⟨w.heap.size,59,true,(cas_v1 q)⟩,⟨w.heap.size+1,65,true,(cas_v2)⟩,⟨y4,141,true,(cas_v3 lst now to_ q)⟩],[],y4+1⟩⟩,0,cas_n3):=by kernel_rfl
def cas_y8s:List (Nat×Value):=[(0,(pt cb 0)),(8,(pt (w.heap.size+1) 0)),(9,.bool false),(10,(pt g4 0))]
def cas_y8v(d:Option Nat×(Option Addr×Nat)):List (Option Value):=[some ((pt cb 0)),some ((pt cb 0)),some ((pt cb 0)),some ((pt cb 2)),some (.slice A ol cp),some (.agg (List.toArray (cas_v3 lst now to_ q))),some (.slice (some ⟨(d.1.getD 0),0,none⟩) 1 1),some (.slice d.2.1 (ol+1) d.2.2),some ((pt cb 0)),some ((pt cb 2)),some (.tuple #[])]
def cas_y8F(d:Option Nat×(Option Addr×Nat))(k:Nat):Bool:=([true,true,true,true,true,true,d.1.isSome,true,true,true,true]:List Bool)[k]?.getD true
def cas_y8m(d:Option Nat×(Option Addr×Nat)):List (List Bk):=[(cas_b3 frm lst now to_ q ol A cp cb w g4),(cas_b3 frm lst now to_ q ol A cp cb w g4),(cas_b4 frm lst now to_ q ol cb w g4 d)]
abbrev cas_y8X(frm:Int)(lst:Int)(now:Int)(to_:Int)(q:AskM)(l:List OneM)(ol:Nat)(A:Option Addr)(cp:Nat)(cb:Nat)(base:Nat)(w:World)(g4:Nat)(y4:Nat)(c_:Nat)(d:Option Nat×(Option Addr×Nat))(W_:World):Prop:=match c_ with|0=>(OwnR W_ base 141 13 A ol cp (onesV l))∧(∀g_,d.1=some g_->y4<=g_∧Blk W_ g_ 141 (cas_v3 lst now to_ q))|1=>((OwnR W_ base 141 13 d.2.1 (ol+1) d.2.2 (onesV (l++[(⟨to_,lst+1,q,within14 now,within14 now⟩:OneM)]))∧FromS w A d.2.1∧∀b∈((cas_b3 frm lst now to_ q ol A cp cb w g4):List Bk),¬ownS d.2.1 b.g))∧True|2=>((OwnR W_ base 141 13 d.2.1 (ol+1) d.2.2 (onesV (l++[(⟨to_,lst+1,q,within14 now,within14 now⟩:OneM)]))∧FromS w A d.2.1∧∀b∈((cas_b3 frm lst now to_ q ol A cp cb w g4):List Bk),¬ownS d.2.1 b.g))∧True|_=>True
def cas_y8C(i_:Nat):Prop:=cY Tryz.prog Tryz.f91 [1,1,1,1,1,0] 64 [] (cas_Q frm lst now to_ q l ol A cb base w) [.code [1,1,1,1,1,1]] (cas_y8s cb w g4) [none,none,none,none,none,none,none,some 0,none,none,some 1] 2 (cas_y8v lst now to_ q ol A cp cb) cas_y8F w (fun x=>x=cb∨ownS A x) (cas_y8m frm lst now to_ q ol A cp cb w g4) y4 (cas_y8X frm lst now to_ q l ol A cp cb base w g4 y4) i_
end
theorem ask_ok(frm lst now to_:Int)(A:Option Addr)(ol cp cb base:Nat)(q:AskM)(l:List OneM)(hl:l.length=ol)(hb8:ol<8∧lst<1099511627776∧0<=to_∧to_<202)(hlst:0<=lst)(w:World)(hc:Blk w cb 124 [i6 frm,i6 lst,.slice A ol cp])(hO:OwnR w base 141 13 A ol cp (onesV l))(hb:base<=w.heap.size)(hne:¬ownS A cb) :
  Calls Tryz.prog 91 #[.pointer (some ⟨cb,0,none⟩),i6 now,i6 to_,.agg #[i6 q.kind,i6 q.stripe,i6 q.epoch,i6 q.seq,i6 q.mask,i6 q.node,i6 q.oe,i6 q.os,sT q.block]] w (fun e w'=>∃A' cp',e=.returned (.tuple #[.agg #[i6 frm,i6 to_,i6 (lst+1),.bool false,i6 q.kind,i6 q.stripe,i6 q.epoch,i6 q.seq,i6 q.mask,i6 q.node,i6 q.oe,i6 q.os,sT q.block,i6 0,i6 0,i6 0,.bool false,i6 0,i6 0,i6 0,sT ⟨#[]⟩,.bool false,i6 0,i6 0,i6 0,sT ⟨#[]⟩],.bool true])∧Blk w' cb 124 [i6 frm,i6 (lst+1),.slice A' (ol+1) cp']∧OwnR w' base 141 13 A' (ol+1) cp' (onesV (l++[(⟨to_,lst+1,q,within14 now,within14 now⟩:OneM)]))∧FromS w A A'∧Kept (fun x=>x=cb∨ownS A x) w w'):=by
 refine cH (S:=(fun x=>x=cb)) (n:=64) Tryz.func91 (MemOk.start (bk:=[⟨cb,124,true,[i6 frm,i6 lst,.slice A ol cp]⟩]) (wn:=[]) (by simpa using hc) (by simp) (by simp) (by simp)) ?_
 have hol:=hO.own
 have hcw:=hc.lt
 refine hgS 39 (dz 26 0x4000400040010108000000010208000000) [0,1,2,7,8,9,33] (rE 6 (dF (((ol:Int):Int)>=8))++rE 3 (dF ((lst:Int)>=1099511627776))++rE 3 (dF ((to_:Int)<0))++[dF ((to_:Int)>=202)]) [(cb,2,1),(cb,1,1)] [.ops [1,1,0] [1,2],.code [1,1,1]] [⟨cb,124,true,[i6 frm,i6 lst,.slice A ol cp]⟩,⟨w.heap.size,59,true,(cas_v1 q)⟩,⟨w.heap.size+1,65,true,(cas_v2)⟩] [] (w.heap.size+2) ?_
 refine hcq (i6 (within14 now)) _ _ (some 34) [] tI rfl (fun wx hm=>within_any now wx) fun z2 hz2=>?_
 refine hgE 17 (dz 9 0x101080020101080000) [0,1,2,7,8,9] [n64 ((lst+1))] [(cb,1,1),(cb,1,1)] [.code [1,1,1,1,0],.code [1,1,1,1,1]] ⟨[(0,(pt cb 0)),(1,i6 (within14 now)),(2,i6 to_),(7,(pt w.heap.size 0)),(8,(pt (w.heap.size+1) 0)),(9,.bool false)],(cas_b1 frm lst q ol A cp cb w),[],z2⟩ ?_
 have HZ:∀(g4 y4:Nat),z2<=g4->z2<=y4->Holds [] Tryz.prog (bodyOf Tryz.f91) 64 w (fun x=>x=cb) (cas_Q frm lst now to_ q l ol A cb base w) [.code [1,1,1,1,1]] ⟨[(0,(pt cb 0)),(8,(pt (w.heap.size+1) 0)),(9,.bool false),(10,(pt g4 0))],(cas_b3 frm lst now to_ q ol A cp cb w g4),[],y4⟩:=by
  intro g4 y4 hg4 hy4
  refine hgE 4 [] [0,8,9,10] [] [] [.code [1,1,1,1,1,0],.code [1,1,1,1,1,1]] ⟨[(0,(pt cb 0)),(8,(pt (w.heap.size+1) 0)),(9,.bool false),(10,(pt g4 0))],(cas_b3 frm lst now to_ q ol A cp cb w g4),[],y4⟩ ?_
  have hAb:∀b∈((cas_b3 frm lst now to_ q ol A cp cb w g4):List Bk),¬ownS A b.g:=by
   intro b hb hx
   have h5:=(hol _ hx).2
   simp at hb
   rcases hb with rfl|rfl|rfl|rfl
   all_goals first|exact hne hx|(dsimp only at h5; omega)
  have hbw:=hb
  refine holds_fact (p:=g4<y4) (fun wx hm=>by have h:=(hm.at_ 3 rfl).lt; rw[hm.size]at h; exact h) (fun hgy=>?_)
  have cas_y8_X:StayY w (fun x=>x=cb∨ownS A x) (cas_y8m frm lst now to_ q ol A cp cb w g4) (cas_y8X frm lst now to_ q l ol A cp cb base w g4 y4):=by
   intro c_ d wx w' bk hb hm hx hk
   match c_,hb,hx with
   |0,hb,hx=>
    obtain rfl:=Option.some.inj hb
    refine⟨hx.1.kept hk (fun y hy ⟨b,hb,_,he⟩=>hAb b hb (he▸hy)),fun g_ hg_=>⟨(hx.2 g_ hg_).1,(hx.2 g_ hg_).2.kept hk (fun⟨b,hb,hr,he⟩=>?_)⟩⟩
    have h9:=(hx.2 g_ hg_).1
    simp at hb
    rcases hb with rfl|rfl|rfl|rfl<;>dsimp only at he<;>omega
   |1,hb,hx=>
    obtain rfl:=Option.some.inj hb
    refine⟨⟨hx.1.1.kept hk (fun y hy ⟨b,hb,_,he⟩=>hx.1.2.2 b hb (he▸hy)),hx.1.2⟩,trivial⟩
   |2,hb,hx=>
    obtain rfl:=Option.some.inj hb
    refine⟨⟨hx.1.1.kept hk (fun y hy ⟨b,hb,hr,he⟩=>?_),hx.1.2⟩,trivial⟩
    simp at hb
    rcases hb with rfl|rfl|rfl|rfl
    ·exact hx.1.2.2 _ (List.mem_of_getElem? (i:=0) rfl) (by subst he; exact hy)
    ·exact hx.1.2.2 _ (List.mem_of_getElem? (i:=1) rfl) (by subst he; exact hy)
    ·exact hx.1.2.2 _ (List.mem_of_getElem? (i:=2) rfl) (by subst he; exact hy)
    ·exact hx.1.2.2 _ (List.mem_of_getElem? (i:=3) rfl) (by subst he; exact hy)
   |c_+3,hb,hx=>exact trivial
  have cas_y8_c6:cas_y8C frm lst now to_ q l ol A cp cb base w g4 y4 6:=cyN 0 141 (cas_v3 lst now to_ q) (fun d g=>(some g,d.2)) (fun g=>.slice (some ⟨g,0,none⟩) 1 1) (fun c_ d wx w' bk hcB hb hm hx hk hz hBl=>by
   have hs:=cas_y8_X c_ d wx w' bk hb hm hx hk
   match c_,hb,hx,hs,hcB with
   |0,hb,hx,hs,hcB=>exact⟨hs.1,(fun g_ hg_=>by obtain rfl:=Option.some.inj hg_; exact⟨hz,hBl⟩)⟩
   |c_+1,hb,hx,hs,hcB=>exact absurd hcB (by omega))
  have cas_y8_c7:cas_y8C frm lst now to_ q l ol A cp cb base w g4 y4 7:=cyW (s:=0) (x:=fun d=>Builtin.append_ #[122,122] 122 #[.slice A ol cp,.slice (some ⟨(d.1.getD 0),0,none⟩) 1 1]) (fun(d:Option Nat×(Option Addr×Nat))(e_:Option Addr×Nat)=>(d.1,e_)) (fun d=>.slice d.2.1 (ol+1) d.2.2) (fun d wx bk hb hm hx hcame=>by
   obtain rfl:=Option.some.inj hb
   obtain⟨d0_,A_,c_⟩:=d
   obtain⟨g_,rfl⟩:∃g_,d0_=some g_:=Option.isSome_iff_exists.1 (hcame 6 (List.mem_of_getElem? (i:=1) (by kernel_rfl)) (dst_ne (k:=57) (by kernel_rfl)))
   obtain⟨hzg,hBg⟩:=hx.2 g_ rfl
   obtain⟨A',cp',w',h1,h2,h3,h4⟩:=run_appendR (P:=Tryz.prog) wx base 122 122 141 (.agg (List.toArray (cas_v4))) 13 112 A ol cp (onesV l) ⟨g_,0,none⟩ 1 1 (OneM.cells ⟨to_,lst+1,q,within14 now,within14 now⟩) (by kernel_rfl) (by kernel_rfl) (by kernel_rfl) (by decide) hx.1 rfl (fun j v hj=>by rw[add_norm,Nat.zero_add]; exact hBg.at_ hj) (ones_all rfl) (by omega) (by decide) (Nat.le_trans hbw hm.kept.size)
   rw[onesV_snoc]at h2
   refine⟨(A',cp'),w',h1,rfl,⟨⟨h2,fun x hx=>(h4 x hx).imp_right (Nat.le_trans hm.kept.size),fun b hb hx=>(h4 _ hx).elim (hAb b hb) (fun h=>absurd (hm.blk b hb).lt (Nat.not_lt.2 h))⟩,trivial⟩,hm.offA (fun _ h=>h) h3 (fun y hy=>.inl (.inr hy)) (fun b hb hy=>hAb b hb hy),h3.size⟩)
  have cas_y8_c10:cas_y8C frm lst now to_ q l ol A cp cb base w g4 y4 10:=cyS (s:=1) (x:=fun d=>Instr.storeAt 122 ((pt cb 2)) (.slice d.2.1 (ol+1) d.2.2)) (fun(d:Option Nat×(Option Addr×Nat))(_:Unit)=>d) (fun d wx bk hb hm hx hcame=>by
   obtain rfl:=Option.some.inj hb
   obtain⟨w',h1,hB1,hk1,hz1⟩:=store_to (P:=Tryz.prog) (t:=122) (v:=.slice d.2.1 (ol+1) d.2.2) (cs':=[i6 frm,i6 (lst+1),.slice d.2.1 (ol+1) d.2.2]) (by kernel_rfl) (hm.at_ 0 rfl) rfl (by show 2+1<=3; omega) (ones_all rfl) rfl
   have hm2:=hm.set1 0 rfl rfl hk1 hB1
   exact⟨(),w',h1,rfl,⟨⟨hx.1.1.kept hk1 (fun y hy e=>hx.1.2.2 _ (List.mem_of_getElem? (i:=0) rfl) (by subst e; exact hy)),hx.1.2⟩,trivial⟩,hm2.2,Nat.le_of_eq hz1.symm⟩)
  have cas_y8_R:∀e_∈(rZsY 2 [0,1,2,3,8,9]++[rY 4 1 0 2 1 cb,rY 5 2 3 0 13 g4]:List (RegY (Option Nat×(Option Addr×Nat)))),cas_y8C frm lst now to_ q l ol A cp cb base w g4 y4 e_.i:=certsY_reg _ cas_y8_X (fun d=>by kernel_rfl) (by kernel_rfl) (fun d sz=>by kernel_rfl)
  have cas_y8_A:∀i_,i_<11->cas_y8C frm lst now to_ q l ol A cp cb base w g4 y4 i_:=allY (l:=[6,7,10]) (by kernel_rfl) cas_y8_R ⟨cas_y8_c6,cas_y8_c7,cas_y8_c10,trivial⟩
  refine holds_mixY (Δ:=Option Nat×(Option Addr×Nat)) (fun x=>x=cb∨ownS A x) (cas_y8v lst now to_ q ol A cp cb) cas_y8F (cas_y8m frm lst now to_ q ol A cp cb w g4) (cas_y8X frm lst now to_ q l ol A cp cb base w g4 y4) [0,8,9,10] (fun d=>[(0,(pt cb 0)),(8,(pt (w.heap.size+1) 0)),(9,.bool false),(10,(pt g4 0))]) (fun d=>(cas_b4 frm lst now to_ q ol cb w g4 d)) (none,(none,0)) (fun _ h=>.inl h) (by kernel_rfl) (by kernel_rfl) (by kernel_rfl) (fun wx hm=>⟨hO.kept hm.kept.drew (fun x hx e=>hne (e▸hx)),fun _ h=>by cases h⟩) (by kernel_rfl) cas_y8_A (fun d=>by kernel_rfl) (fun d=>by kernel_rfl) (fun d W3 hfin hX3 hz3 hm3=>?_)
  obtain⟨d0_,A2,cp2⟩:=d
  obtain⟨⟨hO3,hF3,hnb3⟩,_⟩:=hX3
  replace hnb3:∀b∈((cas_b3 frm lst now to_ q ol A cp cb w g4):List Bk),¬ownS A2 b.g:=hnb3
  change Holds _ _ _ _ W3 (Turned (cas_b5 frm lst now to_ q ol cb w g4 A2 cp2)) _ [.code [1,1,1,1,1,1]] ⟨[(0,(pt cb 0)),(8,(pt (w.heap.size+1) 0)),(9,.bool false),(10,(pt g4 0))],(cas_b5 frm lst now to_ q ol cb w g4 A2 cp2),[],W3.heap.size⟩
  refine hgS 7 (dz 2 13632384) [8,9,61,62] [] [(g4,0,13)] [.ops [1,1,1,1,1,1,0] [2,3,4],.code [1,1,1,1,1,1,1]] (cas_b5 frm lst now to_ q ol cb w g4 A2 cp2) [] W3.heap.size ?_
  refine hcq (.agg (List.toArray (cas_v5 frm lst to_ q))) _ _ (some 63) [] tI rfl (fun wx hm=>letter14_any frm (lst+1) A2 (ol+1) cp2 cb ⟨to_,lst+1,q,within14 now,within14 now⟩ wx (hm.at_ 0 rfl)) fun z10 hz10=>?_
  refine hgS 6 (dz 2 1703976) [8,9] [] [(w.heap.size+1,0,26)] [.code [1,1,1,1,1,1,1]] [⟨cb,124,true,[i6 frm,i6 (lst+1),.slice A2 (ol+1) cp2]⟩,⟨w.heap.size,59,true,(cas_v1 q)⟩,⟨w.heap.size+1,65,true,(cas_v5 frm lst to_ q)⟩,⟨g4,141,true,(cas_v3 lst now to_ q)⟩] [] z10 ?_
  refine hrt [[⟨false,2,0,26⟩]] [.agg (List.toArray (cas_v5 frm lst to_ q)),.bool true] [(w.heap.size+1,0,26)] ?_
  intro wx hm
  refine⟨A2,cp2,rfl,hm.at_ 0 rfl,hO3.kept hm.kept (fun y hy ⟨b,hb,hr,he⟩=>?_),hF3,(MemOk.bck hm3 hm).kept⟩
  simp at hb
  rcases hb with rfl|rfl|rfl|rfl
  ·exact hnb3 _ (List.mem_of_getElem? (i:=0) rfl) (by subst he; exact hy)
  ·exact hnb3 _ (List.mem_of_getElem? (i:=1) rfl) (by subst he; exact hy)
  ·exact hnb3 _ (List.mem_of_getElem? (i:=2) rfl) (by subst he; exact hy)
  ·exact hnb3 _ (List.mem_of_getElem? (i:=3) rfl) (by subst he; exact hy)
 have H1:∀(g4 y4:Nat),z2<=g4->z2<=y4->Holds [] Tryz.prog (bodyOf Tryz.f91) 64 w (fun x=>x=cb) (cas_Q frm lst now to_ q l ol A cb base w) (.any [1,1,1,1,0] 1 cas_n2::[.code [1,1,1,1,1]]) ⟨[(10,(pt g4 0)),(0,(pt cb 0)),(8,(pt (w.heap.size+1) 0)),(9,.bool false),(50,.agg (List.toArray (cas_v3 lst now to_ q)))],(cas_b2 frm lst q ol A cp cb w g4),[],y4⟩:=by
  intro g4 y4 hg4 hy4
  refine holds_tail panicOk_body _ _ (cas_t5 frm lst now to_ q ol A cp cb w g4 y4) trivial ?_
  refine holds_done (by kernel_rfl) ?_
  exact HZ g4 _ (by omega) (by omega)
 refine holds_float (fl:=9) (t:=141) (d:=10) (cs:=(cas_v4)) (ls0:=cas_n1) (ls1:=cas_n2) (f:=1) 9 _ _ (by kernel_rfl) (by kernel_rfl) (by kernel_rfl) (by kernel_rfl) (by decide) (by kernel_rfl) (by kernel_rfl) (by kernel_rfl) (cas_q4 frm lst now to_ q ol A cp cb w z2) trivial H1 ?_
 intro y4 hy4
 replace hy4:z2<=y4:=hy4
 refine holds_tail panicOk_body _ _ (cas_t6 frm lst now to_ q ol A cp cb w y4) trivial ?_
 refine holds_done (by kernel_rfl) ?_
 exact HZ _ _ (by omega) (by omega)
end Go.Proofs.YtcmpkkapkdlfhaaGreat
