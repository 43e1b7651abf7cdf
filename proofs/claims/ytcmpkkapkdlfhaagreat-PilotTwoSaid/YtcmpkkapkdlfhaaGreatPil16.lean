import Derived.Test.YtcmpkkapkdlfhaaGreatMade17
namespace Go.Proofs.YtcmpkkapkdlfhaaGreat
open Go.RowKit
set_option maxHeartbeats 4000000
set_option maxRecDepth 100000
def sqP(x:PilC):Int:=(x.lv (Int.toNat x.sn)).sq+1
def lvP(x:PilC):Nat->LeaC:=lvS x.lv (Int.toNat x.sn) { x.lv (Int.toNat x.sn)with sq:=sqP x }
def parP(x:PilC):ByteArray:=bytesI (xorI (xorI (intsOf (x.bl (Int.toNat (x.N-1)))) (intsOf (x.bl (Int.toNat x.cn)))) (intsOf x.da))
def ptsP(x:PilC):List PartM:=partsL [x.cn,x.N-1] [x.da,parP x]
def mkP(x:PilC):Int:=mskC [x.cn,x.N-1]
section
variable (x:PilC)(c:CM)(pb base:Nat)(now:Int)(w:World)(v:Value)(L:List OneM)(gR gW k gM:Nat)
@[simp] def pmb_b1:List Bk:=[⟨pb,98,true,(PilC.cells { x with ou:=(-1),rd:=(.slice (some ⟨gR,0,none⟩) 2 2),wr:=(.slice (some ⟨gW,0,none⟩) 2 2),ak:=v })⟩]
@[simp] def pmb_b2:List Bk:=[⟨pb,98,true,(PilC.cells { x with lv:=(lvP x),ou:=(-1),rd:=(.slice (some ⟨gR,0,none⟩) 2 2),wr:=(.slice (some ⟨gW,0,none⟩) 2 2),ak:=v })⟩]
@[simp] def pmb_b3:List Bk:=[⟨pb,98,true,(PilC.cells { x with lv:=(lvP x),ou:=(-1),te:=x.ep,ts:=(sqP x),rd:=(.slice (some ⟨gR,0,none⟩) 2 2),wr:=(.slice (some ⟨gW,0,none⟩) 2 2),ak:=v })⟩]
@[simp] def pmb_b4:List Bk:=[⟨pb,98,true,(PilC.cells { x with lv:=(lvP x),ou:=(-1),db:=true,te:=x.ep,ts:=(sqP x),rd:=(.slice (some ⟨gR,0,none⟩) 2 2),wr:=(.slice (some ⟨gW,0,none⟩) 2 2),ak:=v })⟩]
@[simp] def pmb_b5(v4:Value)(gR:Nat)(gW:Nat)(ub:Nat):List Bk:=[⟨pb,98,true,(PilC.cells { x with lv:=(lvP x),nx:=(.func (.func 112) #[(pt pb 0)] #[]),lg:=false,ou:=(-1),db:=true,te:=x.ep,ts:=(sqP x),rd:=(.slice (some ⟨gR,0,none⟩) 2 2),wr:=(.slice (some ⟨gW,0,none⟩) 2 2),ud:=((pt ub 0)),ak:=v4 })⟩]
def pmb_Q:Exit->Act->World->Prop:=bodyPost Tryz.prog Tryz.f52 (fun e w'=>∃u_ p_ q_,e=.returned (.tuple #[])∧PilX w' base pb ({ x with lv:=(lvP x),nx:=.func (.func 112) #[(pt pb 0)] #[],lg:=false,ou:=-1,db:=true,te:=x.ep,ts:=(sqP x),rd:=.slice (some ⟨gR,0,none⟩) 2 2,wr:=.slice (some ⟨gW,0,none⟩) 2 2,ud:=(pt u_ 0) }) (cmA c now (updP (prepQ x.sn x.ep (sqP x) (mkP x)) x.N x.sn (ptsP x))) (L++onesA now c.last (updP (prepQ x.sn x.ep (sqP x) (mkP x)) x.N x.sn (ptsP x)))∧OwnR w' base 178 7 (some ⟨u_,0,none⟩) 1 1 (updC x.sn (mkP x) x.ep (sqP x) (.slice (some ⟨p_,0,none⟩) 2 q_) true)∧OwnR w' base 180 4 (some ⟨p_,0,none⟩) 2 q_ (flatV PartM.cells (ptsP x))∧Kept (PilT [141,178] base x.lb pb x.cb w) w w')
def pmb_g2s:List (Nat×Value):=[(0,(pt pb 0)),(1,i6 now),(4,(pt pb 44))]
def pmb_g2v:List (Option Value):=[some ((pt pb 0)),some ((pt pb 44)),some ((pt pb 44)),some ((pt pb 47)),some (i6 x.sn),some ((pt pb 0)),some ((pt pb 3)),some (.pointer (some ⟨pb,3+(Int.toNat x.sn)*5,none⟩)),some (.pointer (some ⟨pb,3+(Int.toNat x.sn)*5,none⟩))]
def pmb_g2m:List (List Bk):=[(pmb_b1 x pb v gR gW)]
def pmb_g2t:List (Option Nat):=[none,none,none,none,none,none,none,none,none]
def pmb_g2C(i_:Nat):Prop:=CertG (wpOp Tryz.prog (opsOf (getCode (bodyOf Tryz.f52) [1,0])) (sem Tryz.prog (bodyOf Tryz.f52) (pmb_Q x c pb base now w L gR gW) [.code [1,1]])) [] 104 (opsOf (getCode (bodyOf Tryz.f52) [1,0])) (slI (opsOf (getCode (bodyOf Tryz.f52) [1,0])) (pmb_g2s pb now) i_) (pmb_g2t) 0 (MG w (fun y=>y=pb) (pmb_g2m x pb v gR gW) [] w.heap.size) (Turned (pmb_b1 x pb v gR gW)) (PvG (pmb_g2v x pb) (fun _ _ _=>False)) i_
def pmb_y10s:List (Nat×Value):=[(0,(pt pb 0)),(1,i6 now),(4,(pt pb 44)),(5,.pointer (some ⟨pb,3+(Int.toNat x.sn)*5,none⟩))]
def pmb_y10v(_:Unit):List (Option Value):=[some ((pt pb 44)),some ((pt pb 44)),some ((pt pb 44)),some ((pt pb 52)),some (i6 x.ep),some (.pointer (some ⟨pb,3+(Int.toNat x.sn)*5,none⟩)),some (.pointer (some ⟨pb,3+(Int.toNat x.sn)*5,none⟩)),some (.pointer (some ⟨pb,3+(Int.toNat x.sn)*5+3,none⟩)),some (i6 (sqP x)),some (.agg #[i6 x.ep,i6 (sqP x)]),some ((pt pb 44)),some ((pt pb 55)),some (.tuple #[])]
def pmb_y10F(_:Unit)(k:Nat):Bool:=([true,true,true,true,true,true,true,true,true,true,true,true,true]:List Bool)[k]?.getD true
def pmb_y10m(_:Unit):List (List Bk):=[(pmb_b2 x pb v gR gW),(pmb_b2 x pb v gR gW),(pmb_b3 x pb v gR gW)]
abbrev pmb_y10X(x:PilC)(c:CM)(base:Nat)(v:Value)(L:List OneM)(gR:Nat)(gW:Nat)(c_:Nat)(_:Unit)(W_:World):Prop:=match c_ with|0=>PilR W_ base x.lb x.cb c L v∧OwnR W_ base 3 1 (some ⟨gR,0,none⟩) 2 2 (flatV intC [x.cn,x.N-1])∧OwnR W_ base 3 1 (some ⟨gW,0,none⟩) 2 2 (flatV intC [x.cn,x.N-1])|1=>PilR W_ base x.lb x.cb c L v∧OwnR W_ base 3 1 (some ⟨gR,0,none⟩) 2 2 (flatV intC [x.cn,x.N-1])∧OwnR W_ base 3 1 (some ⟨gW,0,none⟩) 2 2 (flatV intC [x.cn,x.N-1])|2=>PilR W_ base x.lb x.cb c L v∧OwnR W_ base 3 1 (some ⟨gR,0,none⟩) 2 2 (flatV intC [x.cn,x.N-1])∧OwnR W_ base 3 1 (some ⟨gW,0,none⟩) 2 2 (flatV intC [x.cn,x.N-1])|_=>True
def pmb_y10C(z8:Nat)(i_:Nat):Prop:=cY Tryz.prog Tryz.f52 [1,1,1,1,0] 104 [] (pmb_Q x c pb base now w L gR gW) [.code [1,1,1,1,1]] (pmb_y10s x pb now) [none,none,none,none,none,none,none,none,some 0,none,none,none,some 1] 2 (pmb_y10v x pb) pmb_y10F w (PilT [141,178] base x.lb pb x.cb w) (pmb_y10m x pb v gR gW) z8 (pmb_y10X x c base v L gR gW) i_
def pmb_y12s:List (Nat×Value):=[(0,(pt pb 0)),(1,i6 now),(4,(pt pb 44))]
def pmb_y12v(d:Option Addr×Nat×Nat):List (Option Value):=[some ((pt pb 0)),some ((pt pb 0)),some ((pt pb 0)),some (.agg #[i6 x.N,i6 x.S]),some ((pt pb 44)),some ((pt pb 44)),some ((pt pb 48)),some (i6 x.cn),some ((pt pb 0)),some ((pt pb 44)),some ((pt pb 44)),some ((pt pb 53)),some (i6 (-1)),some (i6 (-1)),some ((pt pb 0)),some (.slice d.1 2 d.2.1),some ((pt pb 44)),some ((pt pb 44)),some ((pt pb 44)),some ((pt pb 46)),some (sT x.da),some (.tuple #[.slice (some ⟨d.2.2,0,none⟩) 2 2,i6 0]),some (.tuple #[.slice (some ⟨d.2.2,0,none⟩) 2 2,i6 0]),some (.slice (some ⟨d.2.2,0,none⟩) 2 2),some (i6 0),some (.slice (some ⟨d.2.2,0,none⟩) 2 2),some (i6 0)]
def pmb_y12F(_:Option Addr×Nat×Nat)(k:Nat):Bool:=([true,true,true,true,true,true,true,true,true,true,true,true,true,true,true,true,true,true,true,true,true,true,true,true,true,true,true]:List Bool)[k]?.getD true
def pmb_y12m(_:Option Addr×Nat×Nat):List (List Bk):=[(pmb_b4 x pb v gR gW),(pmb_b4 x pb v gR gW),(pmb_b4 x pb v gR gW)]
abbrev pmb_y12X(x:PilC)(c:CM)(base:Nat)(v:Value)(L:List OneM)(gR:Nat)(gW:Nat)(c_:Nat)(d:Option Addr×Nat×Nat)(W_:World):Prop:=match c_ with|0=>PilR W_ base x.lb x.cb c L v∧OwnR W_ base 3 1 (some ⟨gR,0,none⟩) 2 2 (flatV intC [x.cn,x.N-1])∧OwnR W_ base 3 1 (some ⟨gW,0,none⟩) 2 2 (flatV intC [x.cn,x.N-1])|1=>PilR W_ base x.lb x.cb c L v∧OwnR W_ base 3 1 (some ⟨gR,0,none⟩) 2 2 (flatV intC [x.cn,x.N-1])∧OwnR W_ base 3 1 (some ⟨gW,0,none⟩) 2 2 (flatV intC [x.cn,x.N-1])∧OwnR W_ base 9 1 d.1 2 d.2.1 (strsV [(x.bl (Int.toNat x.cn)),(x.bl (Int.toNat (x.N-1)))])|2=>PilR W_ base x.lb x.cb c L v∧OwnR W_ base 3 1 (some ⟨gR,0,none⟩) 2 2 (flatV intC [x.cn,x.N-1])∧OwnR W_ base 3 1 (some ⟨gW,0,none⟩) 2 2 (flatV intC [x.cn,x.N-1])∧OwnR W_ base 9 1 d.1 2 d.2.1 (strsV [(x.bl (Int.toNat x.cn)),(x.bl (Int.toNat (x.N-1)))])∧OwnR W_ base 9 1 (some ⟨d.2.2,0,none⟩) 2 2 (strsV [x.da,(parP x)])|_=>True
def pmb_y12C(W1:World)(v:Value)(L:List OneM)(gR:Nat)(gW:Nat)(i_:Nat):Prop:=cY Tryz.prog Tryz.f52 [1,1,1,1,1,1,0] 104 [] (pmb_Q x c pb base now w L gR gW) [.code [1,1,1,1,1,1,1]] (pmb_y12s pb now) [none,none,none,none,none,none,none,none,none,none,none,none,none,none,none,some 0,none,none,none,none,none,some 1,none,none,none,none,none] 2 (pmb_y12v x pb) pmb_y12F W1 (fun y=>(Turned (pmb_b3 x pb v gR gW)) y∨(PilT [141,178] base x.lb pb x.cb W1) y) (pmb_y12m x pb v gR gW) W1.heap.size (pmb_y12X x c base v L gR gW) i_
def pmb_y14s:List (Nat×Value):=[(0,(pt pb 0)),(1,i6 now),(4,(pt pb 44)),(6,.slice (some ⟨gM,0,none⟩) 2 2)]
def pmb_y14v(d:Nat×Nat×Nat):List (Option Value):=[some ((pt pb 44)),some ((pt pb 44)),some ((pt pb 47)),some (i6 x.sn),some ((pt pb 44)),some ((pt pb 44)),some ((pt pb 55)),some (.agg #[i6 x.ep,i6 (sqP x)]),some ((pt pb 44)),some ((pt pb 44)),some ((pt pb 61)),some (.slice (some ⟨gW,0,none⟩) 2 2),some (.slice (some ⟨gM,0,none⟩) 2 2),some (.tuple #[(pt d.1 0),i6 0]),some (.tuple #[(pt d.1 0),i6 0]),some ((pt d.1 0)),some (i6 0),some ((pt d.1 0)),some (i6 0)]
def pmb_y14F(_:Nat×Nat×Nat)(k:Nat):Bool:=([true,true,true,true,true,true,true,true,true,true,true,true,true,true,true,true,true,true,true]:List Bool)[k]?.getD true
def pmb_y14m(_:Nat×Nat×Nat):List (List Bk):=[(pmb_b4 x pb v gR gW),(pmb_b4 x pb v gR gW)]
abbrev pmb_y14X(x:PilC)(c:CM)(base:Nat)(v:Value)(L:List OneM)(gR:Nat)(gW:Nat)(Atx:Option Addr)(ctx:Nat)(gM:Nat)(c_:Nat)(d:Nat×Nat×Nat)(W_:World):Prop:=match c_ with|0=>PilR W_ base x.lb x.cb c L v∧OwnR W_ base 3 1 (some ⟨gR,0,none⟩) 2 2 (flatV intC [x.cn,x.N-1])∧OwnR W_ base 3 1 (some ⟨gW,0,none⟩) 2 2 (flatV intC [x.cn,x.N-1])∧OwnR W_ base 9 1 Atx 2 ctx (strsV [(x.bl (Int.toNat x.cn)),(x.bl (Int.toNat (x.N-1)))])∧OwnR W_ base 9 1 (some ⟨gM,0,none⟩) 2 2 (strsV [x.da,(parP x)])|1=>PilR W_ base x.lb x.cb c L v∧OwnR W_ base 3 1 (some ⟨gR,0,none⟩) 2 2 (flatV intC [x.cn,x.N-1])∧OwnR W_ base 3 1 (some ⟨gW,0,none⟩) 2 2 (flatV intC [x.cn,x.N-1])∧OwnR W_ base 9 1 Atx 2 ctx (strsV [(x.bl (Int.toNat x.cn)),(x.bl (Int.toNat (x.N-1)))])∧OwnR W_ base 9 1 (some ⟨gM,0,none⟩) 2 2 (strsV [x.da,(parP x)])∧OwnR W_ base 178 7 (some ⟨d.1,0,none⟩) 1 1 (updC x.sn (mkP x) x.ep (sqP x) (.slice (some ⟨d.2.1,0,none⟩) 2 d.2.2) false)∧OwnR W_ base 180 4 (some ⟨d.2.1,0,none⟩) 2 d.2.2 (flatV PartM.cells (ptsP x))|_=>True
def pmb_y14C(W2:World)(v:Value)(L:List OneM)(gR:Nat)(gW:Nat)(Atx:Option Addr)(ctx:Nat)(gM:Nat)(i_:Nat):Prop:=cY Tryz.prog Tryz.f52 [1,1,1,1,1,1,1,0] 104 [] (pmb_Q x c pb base now w L gR gW) [.code [1,1,1,1,1,1,1,1]] (pmb_y14s pb now gM) [none,none,none,none,none,none,none,none,none,none,none,none,none,some 0,none,none,none,none,none] 1 (pmb_y14v x pb gW gM) pmb_y14F W2 (fun y=>(Turned (pmb_b4 x pb v gR gW)) y∨(PilT [141,178] base x.lb pb x.cb W2) y) (pmb_y14m x pb v gR gW) W2.heap.size (pmb_y14X x c base v L gR gW Atx ctx gM) i_
end
theorem pilX_makeBlocks(x:PilC)(c:CM)(L:List OneM)(pb:Nat)(base:Nat)(gR gW:Nat)(now:Int)(hg:3<=x.N∧x.N<=6∧1<=x.S∧x.S<=8)(hs:0<=x.sn∧x.sn<x.S)(hcn:0<=x.cn∧x.cn<x.N-1)(hk1:(x.bl (Int.toNat x.cn)).size=16)(hk2:(x.bl (Int.toNat (x.N-1))).size=16)(hd16:x.da.size=16)(hsq:0<=(x.lv (Int.toNat x.sn)).sq∧(x.lv (Int.toNat x.sn)).sq<16777215)(hep:1<=x.ep∧x.ep<=16777215)(hnow:0<=now∧now<=1099511627776)(hcl:0<=c.last∧c.last+6<1099511627776)(hLl:L.length<=20)(w:World)(hX:PilX w base pb ({ x with ou:=(-1),rd:=(.slice (some ⟨gR,0,none⟩) 2 2),wr:=(.slice (some ⟨gW,0,none⟩) 2 2) }) c L)(h_rd:OwnR w base 3 1 (some ⟨gR,0,none⟩) 2 2 (flatV intC [x.cn,x.N-1]))(h_wr:OwnR w base 3 1 (some ⟨gW,0,none⟩) 2 2 (flatV intC [x.cn,x.N-1]))(hb0:base<=w.heap.size) :
  Calls Tryz.prog 52 #[.pointer (some ⟨pb,0,none⟩),i6 now] w (fun e w'=>∃u_ p_ q_,e=.returned (.tuple #[])∧PilX w' base pb ({ x with lv:=(lvP x),nx:=.func (.func 112) #[.pointer (some ⟨pb,0,none⟩)] #[],lg:=false,ou:=-1,db:=true,te:=x.ep,ts:=(sqP x),rd:=.slice (some ⟨gR,0,none⟩) 2 2,wr:=.slice (some ⟨gW,0,none⟩) 2 2,ud:=.pointer (some ⟨u_,0,none⟩) }) (cmA c now (updP (prepQ x.sn x.ep (sqP x) (mkP x)) x.N x.sn (ptsP x))) (L++onesA now c.last (updP (prepQ x.sn x.ep (sqP x) (mkP x)) x.N x.sn (ptsP x)))∧OwnR w' base 178 7 (some ⟨u_,0,none⟩) 1 1 (updC x.sn (mkP x) x.ep (sqP x) (.slice (some ⟨p_,0,none⟩) 2 q_) true)∧OwnR w' base 180 4 (some ⟨p_,0,none⟩) 2 q_ (flatV PartM.cells (ptsP x))∧Kept (PilT [141,178] base x.lb pb x.cb w) w w'):=by
 obtain⟨v,hP,hR⟩:=hX
 have hPT:=blk_ty hP
 refine cH (S:=(fun y=>y=pb)) (n:=104) Tryz.func52 (MemOk.startP hP) ?_
 refine hgE 11 (dz 4 0) [0,1,4] [] [] [.code [1,0],.code [1,1]] ⟨[(0,(pt pb 0)),(1,i6 now),(4,(pt pb 44))],(pmb_b1 x pb v gR gW),[],w.heap.size⟩ ?_
 have pmb_g2_R:∀e_∈(rZs [0,1,2,3,5,6,8]++[rG 4 0 47 1 pb,⟨7,oh2,[oE ((0:Int)<=x.sn∧x.sn<((8:Nat):Int))],[]⟩]:List RegE),pmb_g2C x c pb base now w v L gR gW e_.i:=certs_reg (by kernel_rfl) _ (fun sz=>by kernel_rfl)
 refine holds_mixG (vs:=(pmb_g2v x pb)) (ms:=(pmb_g2m x pb v gR gW)) (stg:=(pmb_g2t)) (J:=0) (sl':=[(0,(pt pb 0)),(1,i6 now),(4,(pt pb 44)),(5,.pointer (some ⟨pb,3+(Int.toNat x.sn)*5,none⟩))]) (bk':=(pmb_b1 x pb v gR gW)) (fun _ _ _=>False) [0,1,4,5] (by kernel_rfl) (by kernel_rfl) (by kernel_rfl) (fun _ _ _ _ h=>h.elim) (certs_mix pmb_g2_R [] tI (by kernel_rfl)) (by kernel_rfl) (by kernel_rfl) (by kernel_rfl) (fun z2 hz2=>?_)
 replace hz2:w.heap.size<=z2:=hz2
 refine hgE 9 (dz 3 0) [0,1,4,5,23] [] [] [.ops [1,1,0,0] [3,4],.code [1,1,0,1],.code [1,1,1]] ⟨[(0,(pt pb 0)),(1,i6 now),(4,(pt pb 44)),(5,.pointer (some ⟨pb,3+(Int.toNat x.sn)*5,none⟩)),(23,.pointer (some ⟨pb,3+(Int.toNat x.sn)*5+3,none⟩))],(pmb_b1 x pb v gR gW),[],z2⟩ ?_
 refine holds_opR (dst:=(some 24)) (x:=Instr.loadAt 3 (.pointer (some ⟨pb,3+(Int.toNat x.sn)*5+3,none⟩))) (i6 ((x.lv (Int.toNat x.sn)).sq)) (by kernel_rfl) (by kernel_rfl) rfl (fun wx hm=>?_) ?_
 ·exact run_loadOne wx 3 .i64 pb (3+(Int.toNat x.sn)*5+3) 98 _ _ (by kernel_rfl) (hm.at_ 0 rfl) (pil_lease ({ x with ou:=(-1),rd:=(.slice (some ⟨gR,0,none⟩) 2 2),wr:=(.slice (some ⟨gW,0,none⟩) 2 2),ak:=v }) (i:=(Int.toNat x.sn)) (by omega) (j:=3) rfl)
 refine hgE 12 (dz 5 0) [0,1,4,5,29,31] [dF ((((x.lv (Int.toNat x.sn)).sq):Int)>=16777215)] [] [.ops [1,1,1,0] [3,4,5,6,7],.code [1,1,1,1]] ⟨[(0,(pt pb 0)),(1,i6 now),(4,(pt pb 44)),(5,.pointer (some ⟨pb,3+(Int.toNat x.sn)*5,none⟩)),(29,.pointer (some ⟨pb,3+(Int.toNat x.sn)*5,none⟩)),(31,.pointer (some ⟨pb,3+(Int.toNat x.sn)*5+3,none⟩))],(pmb_b1 x pb v gR gW),[],z2⟩ ?_
 refine holds_opR (dst:=(some 32)) (x:=Instr.loadAt 3 (.pointer (some ⟨pb,3+(Int.toNat x.sn)*5+3,none⟩))) (i6 ((x.lv (Int.toNat x.sn)).sq)) (by kernel_rfl) (by kernel_rfl) rfl (fun wx hm=>?_) ?_
 ·exact run_loadOne wx 3 .i64 pb (3+(Int.toNat x.sn)*5+3) 98 _ _ (by kernel_rfl) (hm.at_ 0 rfl) (pil_lease ({ x with ou:=(-1),rd:=(.slice (some ⟨gR,0,none⟩) 2 2),wr:=(.slice (some ⟨gW,0,none⟩) 2 2),ak:=v }) (i:=(Int.toNat x.sn)) (by omega) (j:=3) rfl)
 refine hgE 6 (dz 3 2) [0,1,4,5,33,35] [n64 ((((x.lv (Int.toNat x.sn)).sq)+1))] [] [.ops [1,1,1,0] [7],.code [1,1,1,1]] ⟨[(0,(pt pb 0)),(1,i6 now),(4,(pt pb 44)),(5,.pointer (some ⟨pb,3+(Int.toNat x.sn)*5,none⟩)),(33,i6 (((x.lv (Int.toNat x.sn)).sq)+1)),(35,.pointer (some ⟨pb,3+(Int.toNat x.sn)*5+3,none⟩))],(pmb_b1 x pb v gR gW),[],z2⟩ ?_
 refine holds_opS (x:=Instr.storeAt 3 (.pointer (some ⟨pb,3+(Int.toNat x.sn)*5+3,none⟩)) (i6 (((x.lv (Int.toNat x.sn)).sq)+1))) (pmb_b2 x pb v gR gW) (by kernel_rfl) (by kernel_rfl) rfl (fun wx hm=>?_) (fun z8 hz8=>?_)
 ·obtain⟨w',h1,hB1,hk1,hz1⟩:=store_to (P:=Tryz.prog) (t:=3) (v:=i6 (((x.lv (Int.toNat x.sn)).sq)+1)) (cs':=(PilC.cells { x with lv:=(lvP x),ou:=(-1),rd:=(.slice (some ⟨gR,0,none⟩) 2 2),wr:=(.slice (some ⟨gW,0,none⟩) 2 2),ak:=v })) (by kernel_rfl) (hm.at_ 0 rfl) rfl (by show(3+(Int.toNat x.sn)*5+3)+1<=73; omega) (ones_all rfl) (pil_setSq ({ x with ou:=(-1),rd:=(.slice (some ⟨gR,0,none⟩) 2 2),wr:=(.slice (some ⟨gW,0,none⟩) 2 2),ak:=v }) (i:=(Int.toNat x.sn)) (by omega) (sqP x))
  exact⟨w',h1,hm.set1 0 rfl rfl hk1 hB1⟩
 replace hz8:z2<=z8:=hz8
 refine hgE 5 [] [0,1,4,5] [] [] [.code [1,1,1,1,0],.code [1,1,1,1,1]] ⟨[(0,(pt pb 0)),(1,i6 now),(4,(pt pb 44)),(5,.pointer (some ⟨pb,3+(Int.toNat x.sn)*5,none⟩))],(pmb_b2 x pb v gR gW),[],z8⟩ ?_
 have pmb_y10_X:StayY w (PilT [141,178] base x.lb pb x.cb w) (pmb_y10m x pb v gR gW) (pmb_y10X x c base v L gR gW):=by
  intro c_ d wx w' bk hb hm hx hk
  match c_,hb,hx with
  |0,hb,hx=>
   obtain rfl:=Option.some.inj hb
   exact⟨(hx.1.keptT hk (turned_tys hm) rfl rfl rfl),(hx.2.1.keptT hk (turned_tys hm) rfl),(hx.2.2.keptT hk (turned_tys hm) rfl)⟩
  |1,hb,hx=>
   obtain rfl:=Option.some.inj hb
   exact⟨(hx.1.keptT hk (turned_tys hm) rfl rfl rfl),(hx.2.1.keptT hk (turned_tys hm) rfl),(hx.2.2.keptT hk (turned_tys hm) rfl)⟩
  |2,hb,hx=>
   obtain rfl:=Option.some.inj hb
   exact⟨(hx.1.keptT hk (turned_tys hm) rfl rfl rfl),(hx.2.1.keptT hk (turned_tys hm) rfl),(hx.2.2.keptT hk (turned_tys hm) rfl)⟩
  |c_+3,hb,hx=>exact trivial
 have pmb_y10_c8:pmb_y10C x c pb base now w v L gR gW z8 8:=cyW (s:=0) (x:=fun d=>Instr.loadAt 3 (.pointer (some ⟨pb,3+(Int.toNat x.sn)*5+3,none⟩))) (fun(d:Unit)(_:Unit)=>d) (fun d=>i6 (sqP x)) (fun d wx bk hb hm hx hcame=>by
  obtain rfl:=Option.some.inj hb
  exact⟨(),wx,run_loadOne wx 3 .i64 pb (3+(Int.toNat x.sn)*5+3) 98 _ _ (by kernel_rfl) (hm.at_ 0 rfl) (pil_lease ({ x with lv:=(lvP x),ou:=(-1),rd:=(.slice (some ⟨gR,0,none⟩) 2 2),wr:=(.slice (some ⟨gW,0,none⟩) 2 2),ak:=v }) (i:=(Int.toNat x.sn)) (by omega) (j:=3) (by show(lvP x (Int.toNat x.sn)).cells[3]?=_; rw[lvP,lvS_self]; rfl)),rfl,hx,hm,Nat.le_refl _⟩)
 have pmb_y10_c12:pmb_y10C x c pb base now w v L gR gW z8 12:=cyS (s:=1) (x:=fun d=>Instr.storeAt 57 ((pt pb 55)) (.agg #[i6 x.ep,i6 (sqP x)])) (fun(d:Unit)(_:Unit)=>d) (fun d wx bk hb hm hx hcame=>by
  obtain rfl:=Option.some.inj hb
  obtain⟨w',h1,hB1,hk1,hz1⟩:=store_to (P:=Tryz.prog) (t:=57) (v:=.agg #[i6 x.ep,i6 (sqP x)]) (by kernel_rfl) (hm.at_ 0 rfl) rfl (by show 55+2<=73; omega) (ones_all rfl) rfl
  exact⟨(),w',h1,rfl,⟨(hx.1.keptT (es:=[98]) hk1 (fun y hy=>by subst hy; exact⟨98,by simp,blk_ty (hm.at_ 0 rfl)⟩) rfl rfl rfl),(hx.2.1.keptT (es:=[98]) hk1 (fun y hy=>by subst hy; exact⟨98,by simp,blk_ty (hm.at_ 0 rfl)⟩) rfl),(hx.2.2.keptT (es:=[98]) hk1 (fun y hy=>by subst hy; exact⟨98,by simp,blk_ty (hm.at_ 0 rfl)⟩) rfl)⟩,(hm.set1 0 rfl rfl hk1 hB1).2,Nat.le_of_eq hz1.symm⟩)
 have pmb_y10_R:∀e_∈(rZsY 2 [0,1,2,3,5,6,7,9,10,11]++[rY 4 2 0 52 1 pb]:List (RegY (Unit))),pmb_y10C x c pb base now w v L gR gW z8 e_.i:=certsY_reg _ pmb_y10_X (fun d=>by kernel_rfl) (by kernel_rfl) (fun d sz=>by kernel_rfl)
 have pmb_y10_A:∀i_,i_<13->pmb_y10C x c pb base now w v L gR gW z8 i_:=allY (l:=[8,12]) (by kernel_rfl) pmb_y10_R ⟨pmb_y10_c8,pmb_y10_c12,trivial⟩
 refine holds_mixY (Δ:=Unit) (PilT [141,178] base x.lb pb x.cb w) (pmb_y10v x pb) pmb_y10F (pmb_y10m x pb v gR gW) (pmb_y10X x c base v L gR gW) [0,1,4] (fun d=>[(0,(pt pb 0)),(1,i6 now),(4,(pt pb 44))]) (fun d=>(pmb_b3 x pb v gR gW)) () (fun _ h=>.inl h) (by kernel_rfl) (by kernel_rfl) (by kernel_rfl) (fun wx hm=>⟨(hR.keptT (es:=[98]) hm.kept.drew (fun y hy=>by subst hy; exact⟨98,by simp,hPT⟩) rfl rfl rfl),(h_rd.keptT (es:=[98]) hm.kept.drew (fun y hy=>by subst hy; exact⟨98,by simp,hPT⟩) rfl),(h_wr.keptT (es:=[98]) hm.kept.drew (fun y hy=>by subst hy; exact⟨98,by simp,hPT⟩) rfl)⟩) (by kernel_rfl) pmb_y10_A (fun d=>by kernel_rfl) (fun d=>by kernel_rfl) (fun d W1 hfin hX1 hm01 hm1=>?_)
 obtain⟨hR1,h1_rd,h1_wr⟩:=hX1
 replace hR1:PilR W1 base x.lb x.cb c L v:=hR1
 replace h1_rd:OwnR W1 base 3 1 (some ⟨gR,0,none⟩) 2 2 (flatV intC [x.cn,x.N-1]):=h1_rd
 replace h1_wr:OwnR W1 base 3 1 (some ⟨gW,0,none⟩) 2 2 (flatV intC [x.cn,x.N-1]):=h1_wr
 replace hm1:MemOk w (PilT [141,178] base x.lb pb x.cb w) (pmb_b3 x pb v gR gW) [] W1.heap.size W1:=hm1
 change Holds _ _ _ _ W1 (Turned (pmb_b3 x pb v gR gW)) _ [.code [1,1,1,1,1]] ⟨[(0,(pt pb 0)),(1,i6 now),(4,(pt pb 44))],(pmb_b3 x pb v gR gW),[],W1.heap.size⟩
 refine hgE 11 (dz 4 325091328) [0,1,4] [] [(pb,54,1)] [.code [1,1,1,1,1,1,0],.code [1,1,1,1,1,1,1]] ⟨[(0,(pt pb 0)),(1,i6 now),(4,(pt pb 44))],(pmb_b4 x pb v gR gW),[],W1.heap.size⟩ ?_
 have pmb_y12_X:StayY W1 (fun y=>(Turned (pmb_b3 x pb v gR gW)) y∨(PilT [141,178] base x.lb pb x.cb W1) y) (pmb_y12m x pb v gR gW) (pmb_y12X x c base v L gR gW):=by
  intro c_ d wx w' bk hb hm hx hk
  match c_,hb,hx with
  |0,hb,hx=>
   obtain rfl:=Option.some.inj hb
   exact⟨(hx.1.keptT hk (turned_tys hm) rfl rfl rfl),(hx.2.1.keptT hk (turned_tys hm) rfl),(hx.2.2.keptT hk (turned_tys hm) rfl)⟩
  |1,hb,hx=>
   obtain rfl:=Option.some.inj hb
   exact⟨(hx.1.keptT hk (turned_tys hm) rfl rfl rfl),(hx.2.1.keptT hk (turned_tys hm) rfl),(hx.2.2.1.keptT hk (turned_tys hm) rfl),(hx.2.2.2.keptT hk (turned_tys hm) rfl)⟩
  |2,hb,hx=>
   obtain rfl:=Option.some.inj hb
   exact⟨(hx.1.keptT hk (turned_tys hm) rfl rfl rfl),(hx.2.1.keptT hk (turned_tys hm) rfl),(hx.2.2.1.keptT hk (turned_tys hm) rfl),(hx.2.2.2.1.keptT hk (turned_tys hm) rfl),(hx.2.2.2.2.keptT hk (turned_tys hm) rfl)⟩
  |c_+3,hb,hx=>exact trivial
 have pmb_y12_c13:pmb_y12C x c pb base now w W1 v L gR gW 13:=certY_call (B:=0) (f:=46) (args:=fun d=>[(pt pb 0),i6 (-1)]) (ob:=fun d=>[]) (fun d=>i6 (-1)) (by kernel_rfl) (.inr ⟨15,by kernel_rfl,List.mem_of_getElem? (i:=1) (by kernel_rfl)⟩) (fun d=>by kernel_rfl) (fun d=>by kernel_rfl) (fun d=>by kernel_rfl) (fun d=>trivial) (fun c_ d wx bk hc hb hm hx=>by
   obtain rfl:c_=0:=by omega
   obtain rfl:(pmb_b4 x pb v gR gW)=bk:=Option.some.inj hb
   exact pil_columnNone ({ x with lv:=(lvP x),ou:=(-1),db:=true,te:=x.ep,ts:=(sqP x),rd:=(.slice (some ⟨gR,0,none⟩) 2 2),wr:=(.slice (some ⟨gW,0,none⟩) 2 2),ak:=v }) pb hg hs wx (hm.at_ 0 rfl)) pmb_y12_X
 have pmb_y12_c15:pmb_y12C x c pb base now w W1 v L gR gW 15:=cyC (s:=0) (f:=87) (args:=fun d=>[(pt pb 0)]) (ob:=fun d=>[]) (fun(d:Option Addr×Nat×Nat)(e_:Option Addr×Nat)=>(e_.1,e_.2,d.2.2)) (fun d=>.slice d.1 2 d.2.1) (fun d=>trivial) (fun d wx bk hb hm hx hcame=>by
  obtain rfl:=Option.some.inj hb
  have hb1:base<=wx.heap.size:=Nat.le_trans (Nat.le_trans hb0 hm1.kept.size) hm.kept.size
  have h_rd_:=hx.2.1
  have h_wr_:=hx.2.2
  have hX0:PilX wx base pb ({ x with lv:=(lvP x),ou:=(-1),db:=true,te:=x.ep,ts:=(sqP x),rd:=(.slice (some ⟨gR,0,none⟩) 2 2),wr:=(.slice (some ⟨gW,0,none⟩) 2 2),ak:=v }) c L:=⟨_,hm.at_ 0 rfl,hx.1⟩
  refine(pil_texts ({ x with lv:=(lvP x),ou:=(-1),db:=true,te:=x.ep,ts:=(sqP x),rd:=(.slice (some ⟨gR,0,none⟩) 2 2),wr:=(.slice (some ⟨gW,0,none⟩) 2 2),ak:=v }) pb [x.cn,x.N-1] gR 2 (by simp) (fun k hk=>by simp only[List.mem_cons,List.not_mem_nil,or_false]at hk; rcases hk with rfl|rfl<;>omega) wx (hm.at_ 0 rfl) (h_rd_.own gR ⟨_,rfl,rfl⟩).2 (fun j v hj=>by rw[Nat.zero_add]; exact own_cell h_rd_ hj)).mono fun e w' hq_=>?_
  obtain⟨A_,c_,he_,ho_tx,h3_⟩:=hq_
  exact⟨(A_,c_),he_,rfl,⟨(hx.1.keptT (es:=[]) h3_ (fun _ h=>h.elim) rfl rfl rfl),(hx.2.1.kept h3_ (fun _ _ h=>h)),(hx.2.2.kept h3_ (fun _ _ h=>h)),(ho_tx.below hb1)⟩,hm.offA (fun _ h=>h) h3_ (fun _ h=>h.elim) (fun _ _ h=>h),h3_.size⟩)
 have pmb_y12_c21:pmb_y12C x c pb base now w W1 v L gR gW 21:=cyC (s:=1) (f:=86) (args:=fun d=>[.agg #[i6 x.N,i6 x.S],i6 x.cn,i6 (-1),.slice d.1 2 d.2.1,sT x.da]) (ob:=fun d=>[]) (fun(d:Option Addr×Nat×Nat)(e_:Nat)=>(d.1,d.2.1,e_)) (fun d=>.tuple #[.slice (some ⟨d.2.2,0,none⟩) 2 2,i6 0]) (fun d=>trivial) (fun d wx bk hb hm hx hcame=>by
  obtain rfl:=Option.some.inj hb
  have hb1:base<=wx.heap.size:=Nat.le_trans (Nat.le_trans hb0 hm1.kept.size) hm.kept.size
  have h_rd_:=hx.2.1
  have h_wr_:=hx.2.2.1
  have h_tx_:=hx.2.2.2
  have hX0:PilX wx base pb ({ x with lv:=(lvP x),ou:=(-1),db:=true,te:=x.ep,ts:=(sqP x),rd:=(.slice (some ⟨gR,0,none⟩) 2 2),wr:=(.slice (some ⟨gW,0,none⟩) 2 2),ak:=v }) c L:=⟨_,hm.at_ 0 rfl,hx.1⟩
  obtain⟨g_,hg_,_⟩:=h_tx_.cell (j:=0) rfl
  obtain⟨d1_,d2_,d3_⟩:=d
  subst hg_
  refine(plan_made x.N x.S x.cn hg hcn (x.bl (Int.toNat x.cn)) (x.bl (Int.toNat (x.N-1))) x.da hk1 hk2 hd16 g_ d2_ wx (h_tx_.own g_ ⟨_,rfl,rfl⟩).2 (fun j v hj=>by rw[Nat.zero_add]; exact own_cell h_tx_ hj)).mono fun e w' hq_=>?_
  obtain⟨gm_,he_,ho_mb,h3_⟩:=hq_
  exact⟨gm_,he_,rfl,⟨(hx.1.keptT (es:=[]) h3_ (fun _ h=>h.elim) rfl rfl rfl),(hx.2.1.kept h3_ (fun _ _ h=>h)),(hx.2.2.1.kept h3_ (fun _ _ h=>h)),(hx.2.2.2.kept h3_ (fun _ _ h=>h)),(ho_mb.below hb1)⟩,hm.offA (fun _ h=>h) h3_ (fun _ h=>h.elim) (fun _ _ h=>h),h3_.size⟩)
 have pmb_y12_R:∀e_∈(rZsY 2 [0,1,2,4,5,6,8,9,10,11,14,16,17,18,19,22,23,24,25,26]++[rY 3 2 0 0 2 pb,rY 7 2 0 48 1 pb,rY 12 2 0 53 1 pb,rY 20 2 0 46 1 pb]:List (RegY (Option Addr×Nat×Nat))),pmb_y12C x c pb base now w W1 v L gR gW e_.i:=certsY_reg _ pmb_y12_X (fun d=>by kernel_rfl) (by kernel_rfl) (fun d sz=>by kernel_rfl)
 have pmb_y12_A:∀i_,i_<27->pmb_y12C x c pb base now w W1 v L gR gW i_:=allY (l:=[13,15,21]) (by kernel_rfl) pmb_y12_R ⟨pmb_y12_c13,pmb_y12_c15,pmb_y12_c21,trivial⟩
 refine holds_mixY (Δ:=Option Addr×Nat×Nat) (fun y=>(Turned (pmb_b3 x pb v gR gW)) y∨(PilT [141,178] base x.lb pb x.cb W1) y) (pmb_y12v x pb) pmb_y12F (pmb_y12m x pb v gR gW) (pmb_y12X x c base v L gR gW) [0,1,4,6] (fun d=>[(0,(pt pb 0)),(1,i6 now),(4,(pt pb 44)),(6,.slice (some ⟨d.2.2,0,none⟩) 2 2)]) (fun d=>(pmb_b4 x pb v gR gW)) (none,0,0) (fun _ h=>.inl h) (by kernel_rfl) (by kernel_rfl) (by kernel_rfl) (fun wx hm=>⟨(hR1.keptT hm.kept.drew (turned_tys hm1) rfl rfl rfl),(h1_rd.keptT hm.kept.drew (turned_tys hm1) rfl),(h1_wr.keptT hm.kept.drew (turned_tys hm1) rfl)⟩) (by kernel_rfl) pmb_y12_A (fun d=>by kernel_rfl) (fun d=>by kernel_rfl) (fun d W2 hfin hX2 hm02 hm2=>?_)
 replace hm2:=hm1.bckS hm2 (fun y hy=>hy.elim (fun⟨b,hb,hr,he⟩=>he▸hm1.own b hb hr) (fun h=>pilT_up hm1.kept rfl y h))
 obtain⟨Atx,ctx,gM⟩:=d
 obtain⟨hR2,h2_rd,h2_wr,h2_tx,h2_mb⟩:=hX2
 replace hR2:PilR W2 base x.lb x.cb c L v:=hR2
 replace h2_rd:OwnR W2 base 3 1 (some ⟨gR,0,none⟩) 2 2 (flatV intC [x.cn,x.N-1]):=h2_rd
 replace h2_wr:OwnR W2 base 3 1 (some ⟨gW,0,none⟩) 2 2 (flatV intC [x.cn,x.N-1]):=h2_wr
 replace h2_tx:OwnR W2 base 9 1 Atx 2 ctx (strsV [(x.bl (Int.toNat x.cn)),(x.bl (Int.toNat (x.N-1)))]):=h2_tx
 replace h2_mb:OwnR W2 base 9 1 (some ⟨gM,0,none⟩) 2 2 (strsV [x.da,(parP x)]):=h2_mb
 replace hm2:MemOk w (PilT [141,178] base x.lb pb x.cb w) (pmb_b4 x pb v gR gW) [] W2.heap.size W2:=hm2
 change Holds _ _ _ _ W2 (Turned (pmb_b4 x pb v gR gW)) _ [.code [1,1,1,1,1,1,1]] ⟨[(0,(pt pb 0)),(1,i6 now),(4,(pt pb 44)),(6,.slice (some ⟨gM,0,none⟩) 2 2)],(pmb_b4 x pb v gR gW),[],W2.heap.size⟩
 refine hgE 4 [] [0,1,4,6] [] [] [.code [1,1,1,1,1,1,1,0],.code [1,1,1,1,1,1,1,1]] ⟨[(0,(pt pb 0)),(1,i6 now),(4,(pt pb 44)),(6,.slice (some ⟨gM,0,none⟩) 2 2)],(pmb_b4 x pb v gR gW),[],W2.heap.size⟩ ?_
 have hq1:sqP x=(x.lv (Int.toNat x.sn)).sq+1:=rfl
 have hx16:(parP x).size=16:=by
  have h1:=length_intsOf (x.bl (Int.toNat (x.N-1)))
  have h2:=length_intsOf (x.bl (Int.toNat x.cn))
  have h3:=length_intsOf x.da
  have h4:=xorI_len (h1.trans (hk2.trans (hk1.symm.trans h2.symm)))
  have h5:=xorI_len (h4.trans (h1.trans (hk2.trans (hd16.symm.trans h3.symm))))
  show(bytesI (xorI (xorI (intsOf (x.bl (Int.toNat (x.N-1)))) (intsOf (x.bl (Int.toNat x.cn)))) (intsOf x.da))).size=16
  rw[size_bytesI]
  omega
 have hB16:∀b∈[x.da,(parP x)],b.size=16:=fun b hb=>by simp only[List.mem_cons,List.not_mem_nil,or_false]at hb; rcases hb with rfl|rfl<;>assumption
 have hC6:∀c∈[x.cn,x.N-1],0<=c∧c<6:=fun c hc=>by simp only[List.mem_cons,List.not_mem_nil,or_false]at hc; rcases hc with rfl|rfl<;>omega
 have hCs:∀(i:Nat)(c d:Int),([x.cn,x.N-1]:List Int)[i]?=some c->([x.cn,x.N-1]:List Int)[i+1]?=some d->c<d:=fun i c d h1 h2=>by
  match i,h1,h2 with
  |0,h1,h2=>
   simp at h1 h2
   omega
  |i+1,h1,h2=>simp at h2
 have pmb_y14_X:StayY W2 (fun y=>(Turned (pmb_b4 x pb v gR gW)) y∨(PilT [141,178] base x.lb pb x.cb W2) y) (pmb_y14m x pb v gR gW) (pmb_y14X x c base v L gR gW Atx ctx gM):=by
  intro c_ d wx w' bk hb hm hx hk
  match c_,hb,hx with
  |0,hb,hx=>
   obtain rfl:=Option.some.inj hb
   exact⟨(hx.1.keptT hk (turned_tys hm) rfl rfl rfl),(hx.2.1.keptT hk (turned_tys hm) rfl),(hx.2.2.1.keptT hk (turned_tys hm) rfl),(hx.2.2.2.1.keptT hk (turned_tys hm) rfl),(hx.2.2.2.2.keptT hk (turned_tys hm) rfl)⟩
  |1,hb,hx=>
   obtain rfl:=Option.some.inj hb
   exact⟨(hx.1.keptT hk (turned_tys hm) rfl rfl rfl),(hx.2.1.keptT hk (turned_tys hm) rfl),(hx.2.2.1.keptT hk (turned_tys hm) rfl),(hx.2.2.2.1.keptT hk (turned_tys hm) rfl),(hx.2.2.2.2.1.keptT hk (turned_tys hm) rfl),(hx.2.2.2.2.2.1.keptT hk (turned_tys hm) rfl),(hx.2.2.2.2.2.2.keptT hk (turned_tys hm) rfl)⟩
  |c_+2,hb,hx=>exact trivial
 have pmb_y14_c13:pmb_y14C x c pb base now w W2 v L gR gW Atx ctx gM 13:=cyC (s:=0) (f:=88) (args:=fun d=>[i6 x.sn,.agg #[i6 x.ep,i6 (sqP x)],.slice (some ⟨gW,0,none⟩) 2 2,.slice (some ⟨gM,0,none⟩) 2 2]) (ob:=fun d=>[]) (fun(d:Nat×Nat×Nat)(e_:Nat×Nat×Nat)=>e_) (fun d=>.tuple #[(pt d.1 0),i6 0]) (fun d=>trivial) (fun d wx bk hb hm hx hcame=>by
  obtain rfl:=Option.some.inj hb
  have hb1:base<=wx.heap.size:=Nat.le_trans (Nat.le_trans hb0 hm2.kept.size) hm.kept.size
  have h_rd_:=hx.2.1
  have h_wr_:=hx.2.2.1
  have h_tx_:=hx.2.2.2.1
  have h_mb_:=hx.2.2.2.2
  have hX0:PilX wx base pb ({ x with lv:=(lvP x),ou:=(-1),db:=true,te:=x.ep,ts:=(sqP x),rd:=(.slice (some ⟨gR,0,none⟩) 2 2),wr:=(.slice (some ⟨gW,0,none⟩) 2 2),ak:=v }) c L:=⟨_,hm.at_ 0 rfl,hx.1⟩
  refine(new_own x.sn x.ep (sqP x) 2 [x.cn,x.N-1] [x.da,(parP x)] gW gM 2 2 wx.heap.size (by omega) rfl rfl hB16 hC6 hCs (by omega) hep (by omega) wx (Nat.le_refl _) (h_wr_.own gW ⟨_,rfl,rfl⟩).2 (fun j v hj=>by rw[Nat.zero_add]; exact own_cell h_wr_ hj) (h_mb_.own gM ⟨_,rfl,rfl⟩).2 (fun j v hj=>by rw[Nat.zero_add]; exact own_cell h_mb_ hj)).mono fun e w' hq_=>?_
  obtain⟨ub_,gP_,cP_,he_,ho_ud,ho_pt,h3_⟩:=hq_
  exact⟨(ub_,gP_,cP_),he_,rfl,⟨(hx.1.keptT (es:=[]) h3_ (fun _ h=>h.elim) rfl rfl rfl),(hx.2.1.kept h3_ (fun _ _ h=>h)),(hx.2.2.1.kept h3_ (fun _ _ h=>h)),(hx.2.2.2.1.kept h3_ (fun _ _ h=>h)),(hx.2.2.2.2.kept h3_ (fun _ _ h=>h)),(ho_ud.below hb1),(ho_pt.below hb1)⟩,hm.offA (fun _ h=>h) h3_ (fun _ h=>h.elim) (fun _ _ h=>h),h3_.size⟩)
 have pmb_y14_R:∀e_∈(rZsY 1 [0,1,2,4,5,6,8,9,10,12,14,15,16,17,18]++[rY 3 1 0 47 1 pb,rY 7 1 0 55 2 pb,rY 11 1 0 61 1 pb]:List (RegY (Nat×Nat×Nat))),pmb_y14C x c pb base now w W2 v L gR gW Atx ctx gM e_.i:=certsY_reg _ pmb_y14_X (fun d=>by kernel_rfl) (by kernel_rfl) (fun d sz=>by kernel_rfl)
 have pmb_y14_A:∀i_,i_<19->pmb_y14C x c pb base now w W2 v L gR gW Atx ctx gM i_:=allY (l:=[13]) (by kernel_rfl) pmb_y14_R ⟨pmb_y14_c13,trivial⟩
 refine holds_mixY (Δ:=Nat×Nat×Nat) (fun y=>(Turned (pmb_b4 x pb v gR gW)) y∨(PilT [141,178] base x.lb pb x.cb W2) y) (pmb_y14v x pb gW gM) pmb_y14F (pmb_y14m x pb v gR gW) (pmb_y14X x c base v L gR gW Atx ctx gM) [0,1,4,8,9] (fun d=>[(0,(pt pb 0)),(1,i6 now),(4,(pt pb 44)),(8,(pt d.1 0)),(9,i6 0)]) (fun d=>(pmb_b4 x pb v gR gW)) (0,0,0) (fun _ h=>.inl h) (by kernel_rfl) (by kernel_rfl) (by kernel_rfl) (fun wx hm=>⟨(hR2.keptT hm.kept.drew (turned_tys hm2) rfl rfl rfl),(h2_rd.keptT hm.kept.drew (turned_tys hm2) rfl),(h2_wr.keptT hm.kept.drew (turned_tys hm2) rfl),(h2_tx.keptT hm.kept.drew (turned_tys hm2) rfl),(h2_mb.keptT hm.kept.drew (turned_tys hm2) rfl)⟩) (by kernel_rfl) pmb_y14_A (fun d=>by kernel_rfl) (fun d=>by kernel_rfl) (fun d W3 hfin hX3 hm03 hm3=>?_)
 replace hm3:=hm2.bckS hm3 (fun y hy=>hy.elim (fun⟨b,hb,hr,he⟩=>he▸hm2.own b hb hr) (fun h=>pilT_up hm2.kept rfl y h))
 obtain⟨ub,gP,cP⟩:=d
 obtain⟨hR3,h3_rd,h3_wr,h3_tx,h3_mb,h3_ud,h3_pt⟩:=hX3
 replace hR3:PilR W3 base x.lb x.cb c L v:=hR3
 replace h3_rd:OwnR W3 base 3 1 (some ⟨gR,0,none⟩) 2 2 (flatV intC [x.cn,x.N-1]):=h3_rd
 replace h3_wr:OwnR W3 base 3 1 (some ⟨gW,0,none⟩) 2 2 (flatV intC [x.cn,x.N-1]):=h3_wr
 replace h3_tx:OwnR W3 base 9 1 Atx 2 ctx (strsV [(x.bl (Int.toNat x.cn)),(x.bl (Int.toNat (x.N-1)))]):=h3_tx
 replace h3_mb:OwnR W3 base 9 1 (some ⟨gM,0,none⟩) 2 2 (strsV [x.da,(parP x)]):=h3_mb
 replace h3_ud:OwnR W3 base 178 7 (some ⟨ub,0,none⟩) 1 1 (updC x.sn (mkP x) x.ep (sqP x) (.slice (some ⟨gP,0,none⟩) 2 cP) false):=h3_ud
 replace h3_pt:OwnR W3 base 180 4 (some ⟨gP,0,none⟩) 2 cP (flatV PartM.cells (ptsP x)):=h3_pt
 replace hm3:MemOk w (PilT [141,178] base x.lb pb x.cb w) (pmb_b4 x pb v gR gW) [] W3.heap.size W3:=hm3
 change Holds _ _ _ _ W3 (Turned (pmb_b4 x pb v gR gW)) _ [.code [1,1,1,1,1,1,1,1]] ⟨[(0,(pt pb 0)),(1,i6 now),(4,(pt pb 44)),(8,(pt ub 0)),(9,i6 0)],(pmb_b4 x pb v gR gW),[],W3.heap.size⟩
 refine hgS 22 (dz 10 0x144080000000) [101,102] [fF] [(pb,68,1)] [.ops [1,1,1,1,1,1,1,1,1,1] [2]] [⟨pb,98,true,(PilC.cells { x with lv:=(lvP x),ou:=(-1),db:=true,te:=x.ep,ts:=(sqP x),rd:=(.slice (some ⟨gR,0,none⟩) 2 2),wr:=(.slice (some ⟨gW,0,none⟩) 2 2),ud:=((pt ub 0)),ak:=v })⟩] [] W3.heap.size ?_
 refine hcV (w:=w) (S':=(PilT [141,178] base x.lb pb x.cb w)) (Y:=Value) (fun v4=>.tuple #[]) (fun v4=>(pmb_b5 x pb v4 gR gW ub)) (fun v4 W_=>PilR W_ base x.lb x.cb (cmA c now (updP (prepQ x.sn x.ep (sqP x) (mkP x)) x.N x.sn (ptsP x))) (L++onesA now c.last (updP (prepQ x.sn x.ep (sqP x) (mkP x)) x.N x.sn (ptsP x))) v4∧OwnR W_ base 3 1 (some ⟨gR,0,none⟩) 2 2 (flatV intC [x.cn,x.N-1])∧OwnR W_ base 3 1 (some ⟨gW,0,none⟩) 2 2 (flatV intC [x.cn,x.N-1])∧OwnR W_ base 9 1 Atx 2 ctx (strsV [(x.bl (Int.toNat x.cn)),(x.bl (Int.toNat (x.N-1)))])∧OwnR W_ base 9 1 (some ⟨gM,0,none⟩) 2 2 (strsV [x.da,(parP x)])∧OwnR W_ base 178 7 (some ⟨ub,0,none⟩) 1 1 (updC x.sn (mkP x) x.ep (sqP x) (.slice (some ⟨gP,0,none⟩) 2 cP) true)∧OwnR W_ base 180 4 (some ⟨gP,0,none⟩) 2 cP (flatV PartM.cells (ptsP x))) (show _=some (89,[(pt pb 0),i6 now],some 103,[])by kernel_rfl) tI (fun wx hm=>?_) (fun v4 W4 hX4 hm4=>?_)
 ·have hm0_:=(MemOk.bck hm3 hm)
  have hb1:base<=wx.heap.size:=Nat.le_trans hb0 hm0_.kept.size
  have hR_:=(hR3.keptT hm.kept (turned_tys hm3) rfl rfl rfl)
  have h_rd_:=(h3_rd.keptT hm.kept (turned_tys hm3) rfl)
  have h_wr_:=(h3_wr.keptT hm.kept (turned_tys hm3) rfl)
  have h_tx_:=(h3_tx.keptT hm.kept (turned_tys hm3) rfl)
  have h_mb_:=(h3_mb.keptT hm.kept (turned_tys hm3) rfl)
  have h_ud_:=(h3_ud.keptT hm.kept (turned_tys hm3) rfl)
  have h_pt_:=(h3_pt.keptT hm.kept (turned_tys hm3) rfl)
  have hX0:PilX wx base pb ({ x with lv:=(lvP x),ou:=(-1),db:=true,te:=x.ep,ts:=(sqP x),rd:=(.slice (some ⟨gR,0,none⟩) 2 2),wr:=(.slice (some ⟨gW,0,none⟩) 2 2),ud:=((pt ub 0)),ak:=v }) c L:=⟨_,hm.at_ 0 rfl,hR_⟩
  have hcol:∀p∈(ptsP x),0<=p.col∧p.col<x.N:=fun p hp=>by simp only[ptsP,partsL,List.zipWith,List.mem_cons,List.not_mem_nil,or_false]at hp; rcases hp with rfl|rfl<;>dsimp only<;>omega
  have hopn:∀q∈(ptsP x),q.opn=false:=fun q hq=>by simp only[ptsP,partsL,List.zipWith,List.mem_cons,List.not_mem_nil,or_false]at hq; rcases hq with rfl|rfl<;>rfl
  refine(pilX_enterUpdate ({ x with lv:=(lvP x),ou:=(-1),db:=true,te:=x.ep,ts:=(sqP x),rd:=(.slice (some ⟨gR,0,none⟩) 2 2),wr:=(.slice (some ⟨gW,0,none⟩) 2 2),ud:=((pt ub 0)),ak:=v }) c L pb base (ptsP x) (prepQ x.sn x.ep (sqP x) (mkP x)) (fun _=>rfl) ub gP cP (mkP x) x.ep (sqP x) false now hg hs hcol (Nat.le_of_ble_eq_true rfl) hnow hcl hLl (fun wy hU_ hO_ hb_=>prep_own x.sn (mkP x) x.ep (sqP x) (ptsP x) ⟨Nat.le_of_ble_eq_true rfl,Nat.le_of_ble_eq_true rfl⟩ gP cP ub base false hopn wy hU_ hO_ hb_) wx hX0 h_ud_ h_pt_ hb1).mono fun e w' hq_=>?_
  obtain⟨he_,⟨v_,hB_,hR_2⟩,ho_ud,ho_pt,h3_⟩:=hq_
  have hT_:=hX0.tys (es:=[141,178])
  exact⟨v_,he_,⟨hR_2,(h_rd_.keptT h3_ hT_ rfl),(h_wr_.keptT h3_ hT_ rfl),(h_tx_.keptT h3_ hT_ rfl),(h_mb_.keptT h3_ hT_ rfl),ho_ud,ho_pt⟩,hm0_.turnP h3_ (pilT_up hm0_.kept rfl) hB_ (off_tysP hm hT_ rfl)⟩
 obtain⟨hR4,h4_rd,h4_wr,h4_tx,h4_mb,h4_ud,h4_pt⟩:=hX4
 refine hgE 4 [] [] [] [] [] ⟨[],(pmb_b5 x pb v4 gR gW ub),[],W4.heap.size⟩ ?_
 refine holds_end [] (show _=some ([],dupR [])by kernel_rfl) ?_
 intro wx hm
 exact⟨ub,gP,cP,rfl,⟨_,hm.at_ 0 rfl,(hR4.keptT hm.kept (turned_tys hm4) rfl rfl rfl)⟩,(h4_ud.keptT hm.kept (turned_tys hm4) rfl),(h4_pt.keptT hm.kept (turned_tys hm4) rfl),(MemOk.bck hm4 hm).kept⟩
end Go.Proofs.YtcmpkkapkdlfhaaGreat
