import Derived.Test.YtcmpkkapkdlfhaaGreatPil6
import Derived.Test.YtcmpkkapkdlfhaaGreatSim2
namespace Go.Proofs.YtcmpkkapkdlfhaaGreat
open Go.RowKit
structure OpC where
 (lo B0 b pb n S sn cn:Nat)
 (kd at_:Int)
 da:ByteArray
 (frm now last E:Int)
 x0:PilC
 s0:SimM
structure OpOk (k:OpC):Prop where
 hn:3 ≤ k.n ∧ k.n ≤ 6
 hS:1 ≤ k.S ∧ k.S ≤ 8
 hsn:k.sn < k.S
 hcn:k.cn < k.n - 1
 hfrm:200 ≤ k.frm ∧ k.frm < 202
 hnow:0 ≤ k.now ∧ k.now ≤ 1000000
 hlast:0 ≤ k.last ∧ k.last ≤ 1000000000
 hE:1 ≤ k.E ∧ k.E ≤ 16777215
 xN:k.x0.N = (k.n:Int)
 xS:k.x0.S = (k.S:Int)
 hed:0 ≤ k.x0.ed ∧ k.x0.ed < 1099511627776
 sN:k.s0.N = k.n
 sS:k.s0.S = k.S
 hlea:∃ H U,k.s0.lea k.sn = ⟨k.E - 1,H,U,-1⟩ ∧ U ≤ k.now
 hids:∃ v,k.s0.ids[Int.toNat (k.frm - 200)]? = some v ∧ v ≤ k.last
 hil:k.s0.ids.length = 2
 hsl:k.s0.says.length = 2
 hb:k.b ≤ k.B0
 hlo:k.lo ≤ k.pb ∧ k.lo ≤ k.x0.cb ∧ k.lo ≤ k.B0 ∧ SimLo k.lo k.s0
 hrec:∀ m,m < k.n → ∃ F d q B,k.s0.recs m k.sn = ⟨true,F,d,q,B,false,0,0,0,⟨#[]⟩⟩ ∧ (0 ≤ F ∧ F ≤ k.E) ∧ (0 ≤ d ∧ d < k.E) ∧ (0 ≤ q ∧ q ≤ 16777215) ∧ B.size = 16
def OthT (k:OpC) (w:World) (y:Nat):Prop:=y = k.pb ∨ y = k.x0.cb ∨ (k.B0 ≤ y ∧ ¬ TyIn w 3 y) ∨ (¬ TysIn [98,124] w y ∧ (TyIn w 3 y → y < k.b))
def OthOk (k:OpC) (F:World → Prop):Prop:=∀ w w' (T:Nat → Prop),F w → Kept T w w' → (∀ y,T y → OthT k w y) → F w'
def OpC.fen (k:OpC) (m:Nat):RecM:={ k.s0.recs m k.sn with fence:=k.E }
def SimQ (k:OpC) (R:Nat → RecM) (W:World):Prop:=∃ s,SimAt W k.b s ∧ s = { k.s0 with recs:=s.recs,lea:=s.lea,ids:=s.ids,says:=s.says } ∧ (∀ m i,i ≠ k.sn → s.recs m i = k.s0.recs m i) ∧ (∀ m,m < k.n → s.recs m k.sn = R m) ∧ s.lea = (fun i=>if i = k.sn then ⟨k.E,k.frm,k.now + 30,-1⟩ else k.s0.lea i) ∧ s.ids = k.s0.ids.set (Int.toNat (k.frm - 200)) (k.last + 1) ∧ s.says.length = 2
theorem SimQ.kept {k:OpC} {R:Nat → RecM} {w w':World} {T:Nat → Prop} (h:SimQ k R w) (hk:Kept T w w') (hT:∀ y,T y → k.b ≤ y ∨ TysIn [98,124] w y):SimQ k R w':=by
 obtain ⟨s,h1,h2⟩:=h
 exact ⟨s,h1.kept hk hT,h2⟩
theorem pilT_sim {k:OpC} {w:World} {base lb:Nat} {x:PilC} {c:CM} {es:List TypeId} (h:PilS w base k.pb x c) (hb:k.b ≤ base) (hl:k.b ≤ lb):∀ y,PilT es base lb k.pb x.cb w y → k.b ≤ y ∨ TysIn [98,124] w y:=by
 rintro y (rfl | rfl | ⟨h1,_⟩ | ⟨h1,_⟩)
 ·exact .inr ⟨98,by simp,blk_ty h.1⟩
 ·exact .inr ⟨124,by simp,h.2.blk⟩
 ·exact .inl (by omega)
 ·exact .inl (by omega)
theorem pilT_lo {k:OpC} (hk:OpOk k) {w:World} {lb:Nat} {es:List TypeId} (hl:k.B0 ≤ lb):∀ y,PilT es k.B0 lb k.pb k.x0.cb w y → k.lo ≤ y:=by
 have h:=hk.hlo
 rintro y (rfl | rfl | ⟨h1,_⟩ | ⟨h1,_⟩)
 ·exact h.1
 ·exact h.2.1
 ·omega
 ·omega
theorem pilT_oth {k:OpC} {w:World} {lb:Nat} {es:List TypeId} (hl:k.B0 ≤ lb) (he:es.contains 3 = false):∀ y,PilT es k.B0 lb k.pb k.x0.cb w y → OthT k w y:=by
 rintro y (rfl | rfl | ⟨h1,h2⟩ | ⟨h1,h2⟩)
 ·exact .inl rfl
 ·exact .inr (.inl rfl)
 ·exact .inr (.inr (.inl ⟨h1,fun h3=>tysIn_not he h3 h2⟩))
 ·exact .inr (.inr (.inl ⟨by omega,fun h3=>absurd (tyIn_one h3 h2) (by decide)⟩))
theorem simQ_ans {k:OpC} (hk:OpOk k) {R R':Nat → RecM} {m:Nat} (hm:m < k.n) {r':RecM} {o:OneM} {sy:SayR} (hto:o.to = (m:Int)) (hst:o.q.stripe = (k.sn:Int)) (hR:∀ j,j < k.n → R' j = if j = m then r' else R j) (hap:∀ wx,Calls Tryz.prog 40 #[.agg (R m).cells.toArray,.agg #[i6 o.q.kind,i6 o.q.stripe,i6 o.q.epoch,i6 o.q.seq,i6 o.q.mask,i6 o.q.node,i6 o.q.oe,i6 o.q.os,sT o.q.block]] wx (RetK (.tuple #[.agg r'.cells.toArray,.agg #[i6 sy.st,i6 sy.ep,i6 sy.ou,.bool sy.rc.used,i6 sy.rc.fence,i6 sy.rc.de,i6 sy.rc.ds,sT sy.rc.block,.bool sy.rc.op,i6 sy.rc.ie,i6 sy.rc.is,i6 sy.rc.mask,sT sy.rc.staged]]) wx)) {W:World} (hW:SimQ k R W) (hb:k.b ≤ W.heap.size) (frm now:Int) :
  Calls Tryz.prog 18 #[.pointer (some ⟨k.s0.sb,0,none⟩),i6 now,.agg #[i6 frm,i6 o.to,i6 o.id,.bool false,i6 o.q.kind,i6 o.q.stripe,i6 o.q.epoch,i6 o.q.seq,i6 o.q.mask,i6 o.q.node,i6 o.q.oe,i6 o.q.os,sT o.q.block,i6 0,i6 0,i6 0,.bool false,i6 0,i6 0,i6 0,sT ⟨#[]⟩,.bool false,i6 0,i6 0,i6 0,sT ⟨#[]⟩]] W (fun e w'=>e = .returned (.tuple #[.agg #[i6 o.to,i6 frm,i6 o.id,.bool true,i6 0,i6 0,i6 0,i6 0,i6 0,i6 0,i6 0,i6 0,sT ⟨#[]⟩,i6 sy.st,i6 sy.ep,i6 sy.ou,.bool sy.rc.used,i6 sy.rc.fence,i6 sy.rc.de,i6 sy.rc.ds,sT sy.rc.block,.bool sy.rc.op,i6 sy.rc.ie,i6 sy.rc.is,i6 sy.rc.mask,sT sy.rc.staged],.bool true]) ∧ SimQ k R' w' ∧ Kept (TysIn [61] W) W w' ∧ Kept (fun y=>k.lo ≤ y ∧ y < k.b) W w'):=by
 obtain ⟨s,h1,h2,h3,h4,h5,h6,h7⟩:=hW
 have eN:s.N = k.n:=by rw [h2]; exact hk.sN
 have eS:s.S = k.S:=by rw [h2]; exact hk.sS
 have eb:s.sb = k.s0.sb:=by rw [h2]
 have hq:=ans_node s k.b m k.sn now frm o.id o.q (R m) r' sy (by rw [eN]; exact hm) (by rw [eS]; exact hk.hsn) (by rw [eN]; exact hk.hn.2) (h4 m hm) W h1 hb (by rw [← hst]; exact hap)
 rw [eb,← hto,← hst] at hq
 refine hq.mono fun e w' h=>?_
 obtain ⟨q1,q2,q3⟩:=h
 refine ⟨q1,⟨_,q2,congrArg (fun t=>SimM.setR t m k.sn r') h2,fun m' i hi=>?_,fun m' hm'=>?_,h5,h6,h7⟩,q3.mono fun y _ hy=>?_,q3.mono fun y _ hy=>?_⟩
 ·show (if m' = m ∧ i = k.sn then r' else s.recs m' i) = _
  rw [if_neg (fun h=>hi h.2)]
  exact h3 m' i hi
 ·show (if m' = m ∧ k.sn = k.sn then r' else s.recs m' k.sn) = _
  rw [hR m' hm',h4 m' hm']
  by_cases e:m' = m <;> simp [e]
 ·subst hy
  exact ⟨61,by simp,(h1.rcd m (by rw [eN]; exact hm)).ty _ ⟨_,rfl,rfl⟩⟩
 ·subst hy
  obtain ⟨l1,l2,l3,l4,l5,l6,l7⟩:=h1.low
  have l8:=hk.hlo.2.2.2.2.2.2 m (by rw [hk.sN]; exact hm)
  have er:s.row = k.s0.row:=by rw [h2]
  rw [← er] at l8
  exact ⟨l8,l7 m (by rw [eN]; exact hm)⟩
theorem sayOk_1 {e ou:Int} {r:RecM} (h:0 ≤ e ∧ e ≤ 16777215) (ho:-1 ≤ ou ∧ ou < 6) (hr:okB r = true) (hop:r.op = false:=by rfl):SayOk ⟨1,e,ou,r⟩:=⟨⟨(by decide:(1:Int) ≤ 1),(by decide:(1:Int) ≤ 7)⟩,h,ho,hr,hop⟩
theorem okB_rec {F d q:Int} {B:ByteArray} (hF:0 ≤ F ∧ F ≤ 16777215) (hd:0 ≤ d ∧ d ≤ 16777215) (hq:0 ≤ q ∧ q ≤ 16777215) (hB:B.size = 16):okB ⟨true,F,d,q,B,false,0,0,0,⟨#[]⟩⟩ = true:=by
 simp [okB,n24,fitB,tagB,hF,hd,hq,hB]
 rfl
def OpC.xL (k:OpC):PilC:={ k.x0 with lv:=lvS k.x0.lv k.sn lea0,busy:=true,kd:=k.kd,at_:=k.at_,da:=k.da,sn:=(k.sn:Int),cn:=(k.cn:Int),nx:=.func (.func 54) #[.pointer (some ⟨k.pb,0,none⟩)] #[],lg:=true,en:=k.now,ep:=0,ou:=-1,db:=false,te:=0,ts:=0,kn:=.slice none 0 0,rc:=.slice none 0 0,stl:=false,rd:=.slice none 0 0,wr:=.slice none 0 0,bl:=noB,ud:=.pointer none }
def OpC.oL (k:OpC):OneM:=⟨100,k.last + 1,⟨8,(k.sn:Int),0,0,0,0,0,0,⟨#[]⟩⟩,k.now,k.now⟩
def OpC.cL (k:OpC):CM:=⟨k.frm,k.last + 1,[k.oL]⟩
def OpC.syL (k:OpC):SayR:=⟨1,k.E,-1,recZ⟩
theorem ans_lease {k:OpC} (hk:OpOk k) {W:World} (hW:SimAt W k.b k.s0) (hb:k.b ≤ W.heap.size) (o:OneM) (sy:SayR) (frm:Int) (ho:o = k.oL) (hsy:sy = k.syL) (hfrm:frm = k.frm) :
  Calls Tryz.prog 18 #[.pointer (some ⟨k.s0.sb,0,none⟩),i6 k.now,.agg #[i6 frm,i6 o.to,i6 o.id,.bool false,i6 o.q.kind,i6 o.q.stripe,i6 o.q.epoch,i6 o.q.seq,i6 o.q.mask,i6 o.q.node,i6 o.q.oe,i6 o.q.os,sT o.q.block,i6 0,i6 0,i6 0,.bool false,i6 0,i6 0,i6 0,sT ⟨#[]⟩,.bool false,i6 0,i6 0,i6 0,sT ⟨#[]⟩]] W (fun e w'=>e = .returned (.tuple #[.agg #[i6 o.to,i6 frm,i6 o.id,.bool true,i6 0,i6 0,i6 0,i6 0,i6 0,i6 0,i6 0,i6 0,sT ⟨#[]⟩,i6 sy.st,i6 sy.ep,i6 sy.ou,.bool sy.rc.used,i6 sy.rc.fence,i6 sy.rc.de,i6 sy.rc.ds,sT sy.rc.block,.bool sy.rc.op,i6 sy.rc.ie,i6 sy.rc.is,i6 sy.rc.mask,sT sy.rc.staged],.bool true]) ∧ SimQ k (fun m=>k.s0.recs m k.sn) w' ∧ Kept (TysIn [73,3,63] W) W w' ∧ Kept (fun y=>k.lo ≤ y ∧ y < k.b) W w'):=by
 subst ho hsy hfrm
 obtain ⟨H,U,hl,hU⟩:=hk.hlea
 obtain ⟨v,hv,hvl⟩:=hk.hids
 have h1:=hk.hE
 have h2:=hk.hnow
 have h3:=hk.hlast
 have hq:=ans_keeper k.s0 k.b k.sn k.now k.frm (k.last + 1) (k.E - 1) H U (-1) v (by rw [hk.sS]; exact hk.hsn) (by rw [hk.sS]; exact hk.hS.2) hl hU (by omega) (by omega) hk.hfrm (by omega) hv hk.hil hk.hsl W hW hb
 rw [show k.E - 1 + 1 = k.E by omega] at hq
 refine hq.mono fun e w' h=>?_
 obtain ⟨q1,q2,q3⟩:=h
 refine ⟨q1,⟨_,q2,rfl,fun _ _ _=>rfl,fun _ _=>rfl,rfl,rfl,?_⟩,q3.mono fun y _ hy=>?_,q3.mono fun y _ hy=>⟨by have l:=hk.hlo.2.2.2; rcases hy with rfl | rfl | rfl; exact l.1; exact l.2.1; exact l.2.2.1,hW.tyK y hy⟩⟩
 ·exact (List.length_set ..).trans hk.hsl
 ·rcases hy with rfl | rfl | rfl
  ·exact ⟨73,by simp,hW.lea.ty _ ⟨_,rfl,rfl⟩⟩
  ·exact ⟨3,by simp,hW.ids.ty _ ⟨_,rfl,rfl⟩⟩
  ·exact ⟨63,by simp,hW.say.ty _ ⟨_,rfl,rfl⟩⟩
def OpC.xF (k:OpC) (g:Nat × Nat):PilC:={ k.xL with nx:=.func (.func 114) #[.pointer (some ⟨k.pb,0,none⟩)] #[],lg:=false,ep:=k.E,ou:=-1,kn:=.slice (some ⟨g.1,0,none⟩) k.n k.n,rc:=.slice (some ⟨g.2,0,none⟩) k.n k.n }
def OpC.lsF (k:OpC):List OneM:=onesF k.now (k.sn:Int) k.E (k.last + 1) k.n
def OpC.cF (k:OpC) (i:Nat):CM:=⟨k.frm,k.last + 1 + (k.n:Int),k.lsF.drop i⟩
def OpC.KS (k:OpC) (i:Nat):List Bool:=(List.range k.n).map fun c=>decide ((c + k.sn) % k.n < i)
def OpC.gF (k:OpC) (i:Nat) (g:Nat × Nat) (W:World):Prop:=∃ RS:List RecM,RS.length = k.n ∧ (∀ r ∈ RS,r.op = false) ∧ OwnR W k.B0 4 1 (some ⟨g.1,0,none⟩) k.n k.n (flatV boolC (k.KS i)) ∧ OwnR W k.B0 61 10 (some ⟨g.2,0,none⟩) k.n k.n (flatV RecM.cells RS)
theorem OpC.gF_stb (k:OpC) (i:Nat) (g:Nat × Nat):StbG (k.gF i g):=fun w w' T es h hk hT he=>by
 obtain ⟨RS,h1,h2,h3,h4⟩:=h
 have H:∀ e,([98,124,141,65,59]:List TypeId).contains e = false → es.contains e = false:=fun e h5=>by
  cases h6:es.contains e with
  | false=>rfl
  | true=>
   have h7:=List.all_eq_true.1 he e (by simpa using h6)
   rw [h5] at h7
   cases h7
 exact ⟨RS,h1,h2,h3.keptT hk hT (H _ rfl),h4.keptT hk hT (H _ rfl)⟩
theorem OpC.KS0 (k:OpC):k.KS 0 = List.replicate k.n false:=by
 unfold OpC.KS
 simp [List.map_const']
theorem recv_lease {k:OpC} (hk:OpOk k) {W:World} (hS:PilS W k.B0 k.pb k.xL k.cL) (hb:k.B0 ≤ W.heap.size) (o:OneM) (sy:SayR) (frm:Int) (ho:o = k.oL) (hsy:sy = k.syL) (hfrm:frm = k.frm) :
  Calls Tryz.prog 19 #[.pointer (some ⟨k.pb,0,none⟩),i6 k.now,.agg #[i6 o.to,i6 frm,i6 o.id,.bool true,i6 0,i6 0,i6 0,i6 0,i6 0,i6 0,i6 0,i6 0,sT ⟨#[]⟩,i6 sy.st,i6 sy.ep,i6 sy.ou,.bool sy.rc.used,i6 sy.rc.fence,i6 sy.rc.de,i6 sy.rc.ds,sT sy.rc.block,.bool sy.rc.op,i6 sy.rc.ie,i6 sy.rc.is,i6 sy.rc.mask,sT sy.rc.staged]] W (fun e w'=>∃ g A ca,e = .returned (.slice A k.lsF.length ca) ∧ OwnR w' W.heap.size 65 26 A k.lsF.length ca (lettersC frm k.lsF) ∧ PilS w' k.B0 k.pb (k.xF g) (k.cF 0) ∧ k.gF 0 g w' ∧ Kept (PilT [141] k.B0 W.heap.size k.pb k.x0.cb W) W w' ∧ Kept (LawT W) W w'):=by
 subst ho hsy hfrm
 have h0:=hk.hn
 have h1:=hk.hE
 have h2:=hk.hnow
 have h3:=hk.hlast
 have hwn:=within_id (n:=k.now) (by omega)
 refine (recv_any (x:=k.xL) (c:=k.cL) (α:=Nat × Nat) k.xF (fun _=>k.cF 0) (fun _=>k.lsF) (k.gF 0) [141] rfl rfl (fun _=>True) (fun _ _ _ _ _ _ _ _=>trivial) (fun g=>(k.gF_stb 0 g).s) (fun _=>rfl) 54 (.inl rfl) [] k.oL k.syL k.now hS rfl rfl rfl (.inr (.inl rfl)) hk.hfrm (by show 1 ≤ k.last + 1 ∧ k.last + 1 ≤ _; omega) (sayOk_1 (by omega) (by omega) rfl) hb trivial (fun wx hX _ hbx=>?_)).mono fun e w' hq=>?_
 ·rw [hwn]
  have hq:=pilX_onLease { k.xL with lb:=W.heap.size } { k.cL with opn:=[] } [] k.pb k.B0 k.n k.now 100 k.E k.oL.q recZ (by omega) hk.xN (by have h4:k.x0.N = _:=hk.xN; show 3 ≤ k.x0.N ∧ k.x0.N ≤ 6; omega) (by omega) (by show 0 ≤ k.last + 1 ∧ k.last + 1 + 6 < _; omega) (by simp) wx hX hbx
  refine hq.mono fun e w' h=>?_
  obtain ⟨gK,gR,e1,e2,e3,e4,e5⟩:=h
  refine ⟨e1,⟨(gK,gR),e2,List.replicate k.n recZ,List.length_replicate,fun r hr=>?_,?_,e4⟩,e5⟩
  ·rw [List.eq_of_mem_replicate hr]; rfl
  ·rw [k.KS0]; exact e3
 ·obtain ⟨g,A,ca,q1,q2,q3,q4,q5,q6⟩:=hq
  exact ⟨g,A,ca,q1,q2,q3,q4,q5,q6⟩
end Go.Proofs.YtcmpkkapkdlfhaaGreat
namespace Go.Proofs.YtcmpkkapkdlfhaaGreat
open Go.RowKit
set_option maxHeartbeats 4000000
set_option maxRecDepth 100000
section
variable (x:PilC) (pb:Nat) (now:Int) (w:World) (v:Value) (n i gK gR:Nat) (ep ou:Int) (q:AskM) (r:RecM) (_:Unit)
def pof_v1:List Value:=[.bool true,i6 r.fence,i6 r.de,i6 r.ds,sT r.block,.bool r.op,i6 r.ie,i6 r.is,i6 r.mask,sT r.staged]
def pof_v2:List Value:=[i6 q.kind,i6 q.stripe,i6 q.epoch,i6 q.seq,i6 q.mask,i6 q.node,i6 q.oe,i6 q.os,sT q.block]
def pof_v3:List Value:=[i6 1,i6 ep,i6 ou,.bool true,i6 r.fence,i6 r.de,i6 r.ds,sT r.block,.bool r.op,i6 r.ie,i6 r.is,i6 r.mask,sT r.staged]
@[simp] def pof_b1:List Bk:=[⟨pb,98,true,(PilC.cells { x with db:=false,kn:=(.slice (some ⟨gK,0,none⟩) n n),rc:=(.slice (some ⟨gR,0,none⟩) n n),ak:=v })⟩,⟨w.heap.size,59,true,(pof_v2 q)⟩,⟨w.heap.size + 1,63,true,(pof_v3 ep ou r)⟩]
def pof_y6s:List (Nat × Value):=[(0,(pt pb 0)),(1,i6 now),(9,(pt (w.heap.size + 1) 0)),(10,i6 (i:Int))]
def pof_y6v (_:Unit):List (Option Value):=[some ((pt pb 0)),some ((pt pb 0)),some ((pt pb 44)),some ((pt pb 57)),some (.slice (some ⟨gK,0,none⟩) n n),some (i6 (i:Int)),some ((pt pb 0)),some ((pt pb 0)),some ((pt pb 44)),some ((pt pb 58)),some (.slice (some ⟨gR,0,none⟩) n n),some (i6 (i:Int)),some ((pt (w.heap.size + 1) 3)),some (.agg (List.toArray (pof_v1 r))),some (.pointer (some ⟨gK,0 + i * 1,none⟩)),some (.tuple #[]),some (.pointer (some ⟨gR,0 + i * 10,none⟩)),some (.tuple #[])]
def pof_y6F (_:Unit) (k:Nat):Bool:=([true,true,true,true,true,true,true,true,true,true,true,true,true,true,true,true,true,true]:List Bool)[k]?.getD true
def pof_y6m (_:Unit):List (List Bk):=[(pof_b1 x pb w v n gK gR ep ou q r),(pof_b1 x pb w v n gK gR ep ou q r),(pof_b1 x pb w v n gK gR ep ou q r)]
abbrev pof_y6X (x:PilC) (c:CM) (base:Nat) (v:Value) (L:List OneM) (n:Nat) (i:Nat) (gK:Nat) (gR:Nat) (KS:List Bool) (RS:List RecM) (r:RecM) (c_:Nat) (_:Unit) (W_:World):Prop:=match c_ with | 0=>PilR W_ base x.lb x.cb c L v ∧ OwnR W_ base 4 1 (some ⟨gK,0,none⟩) n n (flatV boolC KS) ∧ OwnR W_ base 61 10 (some ⟨gR,0,none⟩) n n (flatV RecM.cells RS) | 1=>PilR W_ base x.lb x.cb c L v ∧ OwnR W_ base 4 1 (some ⟨gK,0,none⟩) n n (flatV boolC (KS.set i true)) ∧ OwnR W_ base 61 10 (some ⟨gR,0,none⟩) n n (flatV RecM.cells RS) | 2=>PilR W_ base x.lb x.cb c L v ∧ OwnR W_ base 4 1 (some ⟨gK,0,none⟩) n n (flatV boolC (KS.set i true)) ∧ OwnR W_ base 61 10 (some ⟨gR,0,none⟩) n n (flatV RecM.cells (RS.set i { r with used:=true })) | _=>True
def pof_y6C (c:CM) (pb:Nat) (base:Nat) (now:Int) (w:World) (v:Value) (L:List OneM) (n:Nat) (i:Nat) (E:World → Prop) (gK:Nat) (gR:Nat) (KS:List Bool) (RS:List RecM) (ep:Int) (ou:Int) (q:AskM) (r:RecM) (z4:Nat) (i_:Nat):Prop:=cY Tryz.prog Tryz.f114 [1,1,1,0] 44 [] (bodyPost Tryz.prog Tryz.f114 (fun e w'=>e = .returned (.tuple #[]) ∧ E w' ∧ Kept (PilT [141,4,61] base x.lb pb x.cb w) w w')) [.code [1,1,1,1]] (pof_y6s pb now w i) [none,none,none,none,none,none,none,none,none,none,none,none,none,none,none,some 0,none,some 1] 2 (pof_y6v pb w n i gK gR r) pof_y6F w (PilT [141,4,61] base x.lb pb x.cb w) (pof_y6m x pb w v n gK gR ep ou q r) z4 (pof_y6X x c base v L n i gK gR KS RS r) i_
end
theorem pilX_onFence (x:PilC) (c:CM) (L:List OneM) (pb:Nat) (base:Nat) (E:World → Prop) (hE:∀ w w',E w → Kept (fun _=>False) w w' → E w') (n i:Nat) (KS:List Bool) (RS:List RecM) (gK gR:Nat) (now fr ep ou:Int) (q:AskM) (r:RecM) (hN:x.N = (n:Int)) (hg:3 ≤ x.N ∧ x.N ≤ 6 ∧ 1 ≤ x.S ∧ x.S ≤ 8) (hs:0 ≤ x.sn ∧ x.sn < x.S) (hin:i < n) (hfr:0 ≤ fr ∧ fr < x.N) (hic:(fr + x.N - x.sn % x.N) % x.N = (i:Int)) (hK:KS.length = n) (hRl:RS.length = n) (hmore:c.opn.length ≠ 0 → ∀ wx,PilX wx base pb ({ x with db:=false,kn:=(.slice (some ⟨gK,0,none⟩) n n),rc:=(.slice (some ⟨gR,0,none⟩) n n) }) c L → OwnR wx base 4 1 (some ⟨gK,0,none⟩) n n (flatV boolC (KS.set i true)) → OwnR wx base 61 10 (some ⟨gR,0,none⟩) n n (flatV RecM.cells (RS.set i { r with used:=true })) → E wx) (hlast:c.opn.length = 0 → (KS.set i true) = List.replicate n true ∧ (∀ r' ∈ (RS.set i { r with used:=true }),r'.op = false) ∧ ∀ wx,PilX wx base pb ({ x with lv:=lvS x.lv (Int.toNat x.sn) ⟨true,x.ep,x.ou,0,x.en⟩,nx:=.nilFunc,lg:=false,db:=false,stl:=false,kn:=.slice (some ⟨gK,0,none⟩) n n,rc:=.slice (some ⟨gR,0,none⟩) n n }) ({ c with opn:=[] }) L → base ≤ wx.heap.size → Calls Tryz.prog 32 #[.pointer (some ⟨pb,0,none⟩),i6 now] wx (fun e w'=>e = .returned (.tuple #[]) ∧ E w' ∧ Kept (PilT [141] base x.lb pb x.cb wx) wx w')) (w:World) (hX:PilX w base pb ({ x with db:=false,kn:=(.slice (some ⟨gK,0,none⟩) n n),rc:=(.slice (some ⟨gR,0,none⟩) n n) }) c L) (h_kn:OwnR w base 4 1 (some ⟨gK,0,none⟩) n n (flatV boolC KS)) (h_rc:OwnR w base 61 10 (some ⟨gR,0,none⟩) n n (flatV RecM.cells RS)) (hb0:base ≤ w.heap.size) :
  Calls Tryz.prog 114 #[.pointer (some ⟨pb,0,none⟩),i6 now,i6 fr,.agg #[i6 q.kind,i6 q.stripe,i6 q.epoch,i6 q.seq,i6 q.mask,i6 q.node,i6 q.oe,i6 q.os,sT q.block],.agg #[i6 1,i6 ep,i6 ou,.bool true,i6 r.fence,i6 r.de,i6 r.ds,sT r.block,.bool r.op,i6 r.ie,i6 r.is,i6 r.mask,sT r.staged]] w (fun e w'=>e = .returned (.tuple #[]) ∧ E w' ∧ Kept (PilT [141,4,61] base x.lb pb x.cb w) w w'):=by
 obtain ⟨v,hP,hR⟩:=hX
 have hPT:=blk_ty hP
 refine cH (S:=(fun y=>y = pb)) (n:=44) Tryz.func114 (MemOk.startP hP) ?_
 have hKn:=flatV_len (f:=boolC) (z:=1) (fun _=>rfl) KS
 have hRn:=flatV_len (f:=RecM.cells) (z:=10) (fun _=>rfl) RS
 refine hgS 15 (dz 6 0xd002800000) [0,1,2,9,11,12,13,14] [] [(w.heap.size + 1,0,13)] [.ops [1,0,0] [4],.code [1,0,1],.code [1,1]] (pof_b1 x pb w v n gK gR ep ou q r) [] (w.heap.size + 2) ?_
 refine hcq (.bool false) _ _ (some 15) [] tI rfl (fun wx hm=>pil_refusedU pb now fr ep ou r wx) fun z2 hz2=>?_
 refine hgS 10 (dz 3 0) [0,1,9,16,17] [fF] [] [.ops [1,1,0] [2,3],.code [1,1,1]] (pof_b1 x pb w v n gK gR ep ou q r) [] z2 ?_
 refine hcq (i6 (i:Int)) 46 [(pt pb 0),i6 fr] (some 18) [] tI rfl (fun wx hm=>by rw [← hic]; exact pil_column ({ x with db:=false,kn:=(.slice (some ⟨gK,0,none⟩) n n),rc:=(.slice (some ⟨gR,0,none⟩) n n),ak:=v }) pb fr hg hs hfr wx (hm.at_ 0 rfl)) fun z4 hz4=>?_
 refine hgE 6 [oh0] [0,1,9,10] [] [] [.code [1,1,1,0],.code [1,1,1,1]] ⟨[(0,(pt pb 0)),(1,i6 now),(9,(pt (w.heap.size + 1) 0)),(10,i6 (i:Int))],(pof_b1 x pb w v n gK gR ep ou q r),[],z4⟩ ?_
 have pof_y6_X:StayY w (PilT [141,4,61] base x.lb pb x.cb w) (pof_y6m x pb w v n gK gR ep ou q r) (pof_y6X x c base v L n i gK gR KS RS r):=by
  intro c_ d wx w' bk hb hm hx hk
  match c_,hb,hx with
  | 0,hb,hx=>
   obtain rfl:=Option.some.inj hb
   exact ⟨(hx.1.keptT hk (turned_tys hm) rfl rfl rfl),(hx.2.1.keptT hk (turned_tys hm) rfl),(hx.2.2.keptT hk (turned_tys hm) rfl)⟩
  | 1,hb,hx=>
   obtain rfl:=Option.some.inj hb
   exact ⟨(hx.1.keptT hk (turned_tys hm) rfl rfl rfl),(hx.2.1.keptT hk (turned_tys hm) rfl),(hx.2.2.keptT hk (turned_tys hm) rfl)⟩
  | 2,hb,hx=>
   obtain rfl:=Option.some.inj hb
   exact ⟨(hx.1.keptT hk (turned_tys hm) rfl rfl rfl),(hx.2.1.keptT hk (turned_tys hm) rfl),(hx.2.2.keptT hk (turned_tys hm) rfl)⟩
  | c_ + 3,hb,hx=>exact trivial
 have pof_y6_c15:pof_y6C x c pb base now w v L n i E gK gR KS RS ep ou q r z4 15:=cyS (s:=0) (x:=fun d=>Instr.storeAt 4 (.pointer (some ⟨gK,0 + i * 1,none⟩)) (.bool true)) (fun (d:Unit) (_:Unit)=>d) (fun d wx bk hb hm hx hcame=>by
  obtain rfl:=Option.some.inj hb
  obtain ⟨w',h1,h2,h3,h4⟩:=own_storeG (P:=Tryz.prog) (t:=4) (v:=.bool true) (0 + i * 1) 1 hx.2.1 rfl (by omega) (by kernel_rfl) (ones_all rfl)
  rw [show (0 + i * 1) = i * 1 by omega,show (.bool true:Value).cells.toList = boolC true from rfl,flatV_put (f:=boolC) (z:=1) (fun _=>rfl) (by omega)] at h2
  exact ⟨(),w',h1,rfl,⟨(hx.1.keptT h3 (own_tys hx.2.1) rfl rfl rfl),h2,(hx.2.2.keptT h3 (own_tys hx.2.1) rfl)⟩,hm.offA (fun _ h=>h) h3 (fun y hy=>.inl (.inr (.inr (.inl ⟨(h_kn.own y hy).1,4,by decide,h_kn.ty y hy⟩)))) (off_tys hm (own_tys hx.2.1) rfl),Nat.le_of_eq h4.symm⟩)
 have pof_y6_c17:pof_y6C x c pb base now w v L n i E gK gR KS RS ep ou q r z4 17:=cyS (s:=1) (x:=fun d=>Instr.storeAt 61 (.pointer (some ⟨gR,0 + i * 10,none⟩)) (.agg (List.toArray (pof_v1 r)))) (fun (d:Unit) (_:Unit)=>d) (fun d wx bk hb hm hx hcame=>by
  obtain rfl:=Option.some.inj hb
  obtain ⟨w',h1,h2,h3,h4⟩:=own_storeG (P:=Tryz.prog) (t:=61) (v:=.agg (List.toArray (pof_v1 r))) (0 + i * 10) 10 hx.2.2 rfl (by omega) (by kernel_rfl) (ones_all rfl)
  rw [show (0 + i * 10) = i * 10 by omega,show (.agg (List.toArray (pof_v1 r)):Value).cells.toList = RecM.cells { r with used:=true } from rfl,flatV_put (f:=RecM.cells) (z:=10) (fun _=>rfl) (by omega)] at h2
  exact ⟨(),w',h1,rfl,⟨(hx.1.keptT h3 (own_tys hx.2.2) rfl rfl rfl),(hx.2.1.keptT h3 (own_tys hx.2.2) rfl),h2⟩,hm.offA (fun _ h=>h) h3 (fun y hy=>.inl (.inr (.inr (.inl ⟨(h_rc.own y hy).1,61,by decide,h_rc.ty y hy⟩)))) (off_tys hm (own_tys hx.2.2) rfl),Nat.le_of_eq h4.symm⟩)
 have pof_y6_R:∀ e_ ∈ (rZsY 2 [0,1,2,3,5,6,7,8,9,11,12] ++ [rY 4 2 0 57 1 pb,rY 10 2 0 58 1 pb,⟨13,2,(oA 2 3 10),fun _=>[],fun _=>[(w.heap.size + 1,3,10)]⟩,⟨14,2,oh2,fun _=>[oE ((0:Int) ≤ (i:Int) ∧ (i:Int) < ((n:Nat):Int))],fun _=>[]⟩,⟨16,2,oh2,fun _=>[oE ((0:Int) ≤ (i:Int) ∧ (i:Int) < ((n:Nat):Int))],fun _=>[]⟩]:List (RegY (Unit))),pof_y6C x c pb base now w v L n i E gK gR KS RS ep ou q r z4 e_.i:=certsY_reg _ pof_y6_X (fun d=>by kernel_rfl) (by kernel_rfl) (fun d sz=>by kernel_rfl)
 have pof_y6_A:∀ i_,i_ < 18 → pof_y6C x c pb base now w v L n i E gK gR KS RS ep ou q r z4 i_:=allY (l:=[15,17]) (by kernel_rfl) pof_y6_R ⟨pof_y6_c15,pof_y6_c17,trivial⟩
 refine holds_mixY (Δ:=Unit) (PilT [141,4,61] base x.lb pb x.cb w) (pof_y6v pb w n i gK gR r) pof_y6F (pof_y6m x pb w v n gK gR ep ou q r) (pof_y6X x c base v L n i gK gR KS RS r) [0,1] (fun d=>[(0,(pt pb 0)),(1,i6 now)]) (fun d=>(pof_b1 x pb w v n gK gR ep ou q r)) () (fun _ h=>.inl h) (by kernel_rfl) (by kernel_rfl) (by kernel_rfl) (fun wx hm=>⟨(hR.keptT (es:=[98]) hm.kept.drew (fun y hy=>by subst hy; exact ⟨98,by simp,hPT⟩) rfl rfl rfl),(h_kn.keptT (es:=[98]) hm.kept.drew (fun y hy=>by subst hy; exact ⟨98,by simp,hPT⟩) rfl),(h_rc.keptT (es:=[98]) hm.kept.drew (fun y hy=>by subst hy; exact ⟨98,by simp,hPT⟩) rfl)⟩) (by kernel_rfl) pof_y6_A (fun d=>by kernel_rfl) (fun d=>by kernel_rfl) (fun d W1 hfin hX1 hm01 hm1=>?_)
 obtain ⟨hR1,h1_kn,h1_rc⟩:=hX1
 replace hR1:PilR W1 base x.lb x.cb c L v:=hR1
 replace h1_kn:OwnR W1 base 4 1 (some ⟨gK,0,none⟩) n n (flatV boolC (KS.set i true)):=h1_kn
 replace h1_rc:OwnR W1 base 61 10 (some ⟨gR,0,none⟩) n n (flatV RecM.cells (RS.set i { r with used:=true })):=h1_rc
 replace hm1:MemOk w (PilT [141,4,61] base x.lb pb x.cb w) (pof_b1 x pb w v n gK gR ep ou q r) [] W1.heap.size W1:=hm1
 change Holds _ _ _ _ W1 (Turned (pof_b1 x pb w v n gK gR ep ou q r)) _ [.code [1,1,1,1]] ⟨[(0,(pt pb 0)),(1,i6 now)],(pof_b1 x pb w v n gK gR ep ou q r),[],W1.heap.size⟩
 refine hgE 9 (dz 4 270565376) [0,1,38] [] [(pb,2,1)] [.ops [1,1,1,1,0] [4,5],.code [1,1,1,1,1]] ⟨[(0,(pt pb 0)),(1,i6 now),(38,(pt x.cb 0))],(pof_b1 x pb w v n gK gR ep ou q r),[],W1.heap.size⟩ ?_
 refine hcq (i6 (c.opn.length:Int)) _ _ (some 39) [] tI rfl (fun wx hm=>open_partyX ((hR1.keptT hm.kept (turned_tys hm1) rfl rfl rfl)).1) fun z8 hz8=>?_
 by_cases hop:c.opn.length = 0
 rotate_left
 ·skip
  refine hgE 7 (dz 2 0) [] [oE (((c.opn.length:Int) == 0) = false) (decide_eq_false (by omega))] [] [] ⟨[],(pof_b1 x pb w v n gK gR ep ou q r),[],z8⟩ ?_
  refine holds_end [] (show _ = some ([],dupR []) by kernel_rfl) ?_
  intro wx hm
  exact ⟨rfl,hmore hop _ ⟨_,hm.at_ 0 rfl,(hR1.keptT hm.kept (turned_tys hm1) rfl rfl rfl)⟩ (h1_kn.keptT hm.kept (turned_tys hm1) rfl) (h1_rc.keptT hm.kept (turned_tys hm1) rfl),(MemOk.bck hm1 hm).kept⟩
 refine hgS 9 (dz 4 16) [41,42] [oE (((c.opn.length:Int) == 0) = true) (decide_eq_true (by omega))] [] [.ops [1,1,1,1,1,0] [2]] (pof_b1 x pb w v n gK gR ep ou q r) [] z8 ?_
 refine hcV (w:=w) (S':=(PilT [141,4,61] base x.lb pb x.cb w)) (Y:=Unit) (fun _=>.tuple #[]) (fun _=>[]) (fun _ W_=>E W_) (show _ = some (126,[(pt pb 0),i6 now],some 43,[]) by kernel_rfl) tI (fun wx hm=>?_) (fun y_ W2 hE2 hm2=>?_)
 ·have hm0_:=(MemOk.bck hm1 hm)
  have hb1:base ≤ wx.heap.size:=Nat.le_trans hb0 hm0_.kept.size
  have hR_:=(hR1.keptT hm.kept (turned_tys hm1) rfl rfl rfl)
  have h_kn_:=(h1_kn.keptT hm.kept (turned_tys hm1) rfl)
  have h_rc_:=(h1_rc.keptT hm.kept (turned_tys hm1) rfl)
  have hX0:PilX wx base pb ({ x with db:=false,kn:=(.slice (some ⟨gK,0,none⟩) n n),rc:=(.slice (some ⟨gR,0,none⟩) n n),ak:=v }) c L:=⟨_,hm.at_ 0 rfl,hR_⟩
  refine (pilX_enterSettle { x with db:=false } c L pb base E hE n (RS.set i { r with used:=true }) gK gR now (by omega) (by simp [hRl]) (hlast hop).2.1 (fun wy hXy hby=>pilX_ready { x with db:=false,nx:=.func (.func 140) #[(pt pb 0)] #[],lg:=false,stl:=false,kn:=.slice (some ⟨gK,0,none⟩) n n,rc:=.slice (some ⟨gR,0,none⟩) n n } { c with opn:=[] } L pb base E hE now hg hs (hlast hop).2.2 wy hXy hby) wx hX0 (by rw [← (hlast hop).1]; exact h_kn_) h_rc_ hb1).mono fun e w' hq_=>?_
  obtain ⟨he_,hE_,h3_⟩:=hq_
  exact ⟨(),he_,hE_,hm0_.none_.offA (fun _ h=>h) h3_ (pilT_up hm0_.kept rfl) (fun b hb=>by cases hb)⟩
 refine hgE 4 [] [] [] [] [] ⟨[],[],[],W2.heap.size⟩ ?_
 refine holds_end [] (show _ = some ([],dupR []) by kernel_rfl) ?_
 intro wx hm
 exact ⟨rfl,hE _ _ hE2 (hm.kept.mono (fun k _ h=>by obtain ⟨b,hb,_⟩:=h; cases hb)),(MemOk.bck hm2 hm).kept⟩
end Go.Proofs.YtcmpkkapkdlfhaaGreat
