import Derived.Test.YtcmpkkapkdlfhaaGreatTwo17
import Derived.Test.YtcmpkkapkdlfhaaGreatRef17
namespace Go.Proofs.YtcmpkkapkdlfhaaGreat
open Go.RowKit
set_option maxHeartbeats 4000000
set_option maxRecDepth 100000
section
variable (E H U O k:Int)(n gL gI gS cL kb:Nat)(w:World)
def kys_v1:List Value:=[.slice (some ⟨gL,0,none⟩) n cL,.slice (some ⟨gI,0,none⟩) 2 2,.slice (some ⟨gS,0,none⟩) 2 2]
def kys_v2:List Value:=rp 3 (i6 0)++[.bool false]++rp 3 (i6 0)++[sT ⟨#[]⟩,.bool false]++rp 3 (i6 0)++[sT ⟨#[]⟩]
def kys_v3:List Value:=[i6 k,i6 E,i6 O,.bool false,i6 0,i6 0,i6 0,sT ⟨#[]⟩,.bool false,i6 0,i6 0,i6 0,sT ⟨#[]⟩]
@[simp] def kys_b1:List Bk:=[⟨kb,119,false,(kys_v1 n gL gI gS cL)⟩,⟨w.heap.size,73,true,[i6 E,i6 H,i6 U,i6 O]⟩,⟨w.heap.size+1,63,true,(kys_v2)⟩]
theorem kys_q2(sn:Int)(E:Int)(H:Int)(U:Int)(O:Int)(k:Int)(n:Nat)(gL:Nat)(gI:Nat)(gS:Nat)(cL:Nat)(kb:Nat)(w:World):Out.prune [3,6,8,14,15] (qList Tryz.prog 22 w (fun _=>False) ((opsOf (getCode (bodyOf Tryz.f98) [1,0])).toList.take 7) ⟨[(0,(pt kb 0)),(1,i6 sn),(3,i6 k),(6,(pt w.heap.size 0)),(8,(pt (w.heap.size+1) 0))],(kys_b1 E H U O n gL gI gS cL kb w),[],w.heap.size+2⟩ [.op oh0,.op oh0,.op oh0,.op (oA 0 0 1),.op oh0,.op (oA 1 0 4),.op oh2])=some ⟨[(0:Int)<=sn∧sn<((n:Nat):Int)],dupR [(kb,0,1),(w.heap.size,0,4)],⟨[(3,i6 k),(6,(pt w.heap.size 0)),(8,(pt (w.heap.size+1) 0)),(14,.agg #[i6 E,i6 H,i6 U,i6 O]),(15,.pointer (some ⟨gL,0+(Int.toNat sn)*4,none⟩))],(kys_b1 E H U O n gL gI gS cL kb w),[],w.heap.size+2⟩⟩:=by kernel_rfl
end
theorem keeperSay(sn E H U O k:Int)(L:List LeaM)(n gL gI gS cL kb base:Nat)(hsn:0<=sn∧sn<n)(hLn:L.length=n)(w:World)(hK:Blk w kb 119 [.slice (some ⟨gL,0,none⟩) n cL,.slice (some ⟨gI,0,none⟩) 2 2,.slice (some ⟨gS,0,none⟩) 2 2])(hL:OwnR w base 73 4 (some ⟨gL,0,none⟩) n cL (flatV LeaM.cells L)) :
  Calls Tryz.prog 98 #[.pointer (some ⟨kb,0,none⟩),i6 sn,.agg #[i6 E,i6 H,i6 U,i6 O],i6 k] w (fun e' w'=>e'=.returned (.agg #[i6 k,i6 E,i6 O,.bool false,i6 0,i6 0,i6 0,sT ⟨#[]⟩,.bool false,i6 0,i6 0,i6 0,sT ⟨#[]⟩])∧OwnR w' base 73 4 (some ⟨gL,0,none⟩) n cL (flatV LeaM.cells (L.set (Int.toNat sn) ⟨E,H,U,O⟩))∧Kept (fun y=>y=gL) w w'):=by
 refine cH (S:=(fun _=>False)) (n:=22) Tryz.func98 (MemOk.start (bk:=[⟨kb,119,false,(kys_v1 n gL gI gS cL)⟩]) (wn:=[]) (fun b hb=>by obtain rfl:=List.mem_singleton.1 hb; exact hK) (by simp) (by simp) (by simp)) ?_
 have hglt:=(hL.own gL ⟨_,rfl,rfl⟩).2
 have hgne:gL≠kb:=fun e=>absurd (tyIn_one (hL.ty gL ⟨_,rfl,rfl⟩) (e▸blk_ty hK)) (by decide)
 refine hgE 9 (dz 2 0) [0,1,3,6,8] [] [] [.code [1,0],.code [1,1]] ⟨[(0,(pt kb 0)),(1,i6 sn),(3,i6 k),(6,(pt w.heap.size 0)),(8,(pt (w.heap.size+1) 0))],(kys_b1 E H U O n gL gI gS cL kb w),[],w.heap.size+2⟩ ?_
 refine holds_draw (f:=1) (ls:=(bA 8 127)) 7 _ _ (by kernel_rfl) (by kernel_rfl) (by kernel_rfl) (by kernel_rfl) (kys_q2 sn E H U O k n gL gI gS cL kb w) ⟨⟨by omega,by omega⟩,trivial⟩ fun z2 hz2=>?_
 replace hz2:w.heap.size+2<=z2:=hz2
 refine holds_anyW (i:=7) (w:=w) (S':=(fun y=>y=gL)) (ls':=(bA 8 255)) (x:=Instr.storeAt 73 (.pointer (some ⟨gL,0+(Int.toNat sn)*4,none⟩)) (.agg #[i6 E,i6 H,i6 U,i6 O])) (fun W_=>OwnR W_ base 73 4 (some ⟨gL,0,none⟩) n cL (flatV LeaM.cells (L.set (Int.toNat sn) ⟨E,H,U,O⟩))) (by kernel_rfl) (by kernel_rfl) (by kernel_rfl) (by kernel_rfl) (fun wx hm=>?_) (fun W1 hL1 hm1=>?_)
 ·have hOx:=hL.kept hm.kept (fun _ _ h=>h)
  have hm0:=hm.wide (S':=(fun y=>y=gL)) (fun _ h=>h.elim)
  obtain⟨w',h1,h2,h3,_⟩:=own_storeG (P:=Tryz.prog) (t:=73) (v:=.agg #[i6 E,i6 H,i6 U,i6 O]) (0+Int.toNat sn*4) 4 hOx rfl (by omega) (by kernel_rfl) (ones_all rfl)
  rw[show 0+Int.toNat sn*4=Int.toNat sn*4 by omega,show(.agg #[i6 E,i6 H,i6 U,i6 O]:Value).cells.toList=LeaM.cells ⟨E,H,U,O⟩from rfl,flatV_put lea_len (by omega)]at h2
  exact⟨w',h1,h2,hm0.offA (fun _ h=>h) h3 (fun y ⟨a,ha,hy⟩=>.inl (by cases ha; exact hy)) (fun b hb ⟨a,ha,hy⟩=>by cases ha; simp at hb; rcases hb with rfl|rfl|rfl<;>simp only at hy<;>omega)⟩
 refine holds_done (by kernel_rfl) ?_
 refine hgS 13 (dz 7 0xd00280010318001001800) [8] [] [(w.heap.size,0,1),(w.heap.size,3,1),(w.heap.size+1,0,13)] [.code [1,1,1]] [⟨kb,119,false,(kys_v1 n gL gI gS cL)⟩,⟨w.heap.size,73,true,[i6 E,i6 H,i6 U,i6 O]⟩,⟨w.heap.size+1,63,true,(kys_v3 E O k)⟩] [] W1.heap.size ?_
 refine hrt [[⟨false,2,0,13⟩]] [.agg (List.toArray (kys_v3 E O k))] [(w.heap.size+1,0,13)] ?_
 intro wx hm
 exact⟨rfl,hL1.kept hm.kept (fun y ⟨a,ha,hy⟩ ⟨b,hb,hr,he⟩=>by cases ha; simp at hb; rcases hb with rfl|rfl|rfl<;>simp at hr he hy<;>omega),(MemOk.bck hm1 hm).kept⟩
section
variable (sn fr now E H U O:Int)(n gL gI gS cL kb:Nat)(w:World)(g6 y6:Nat)
def kya_v1:List Value:=(kys_v1 n gL gI gS cL)
def kya_v2:List Value:=[i6 8,i6 sn]++rp 6 (i6 0)++[sT ⟨#[]⟩]
def kya_v3:List Value:=kys_v2
def kya_v4:List Value:=[i6 1,i6 (E+1),i6 O,.bool false,i6 0,i6 0,i6 0,sT ⟨#[]⟩,.bool false,i6 0,i6 0,i6 0,sT ⟨#[]⟩]
def kya_n1:List Nat:=[0,1,2,7,8,10,75,77,78]
def kya_n2:List Nat:=[1,1,1,1,0,1,0,1,1,1,1,1,0]
def kya_n3:List Nat:=[1,1,1,1,0,1,0,1,1,1,1,1,1]
def kya_n4:Array Bool:=(bA 10 255)
def kya_n5:Array Bool:=(bA 10 511)
def kya_n6:Array Bool:=(bA 10 1023)
@[simp] def kya_b1:List Bk:=[⟨kb,119,false,(kya_v1 n gL gI gS cL)⟩,⟨w.heap.size,59,true,(kya_v2 sn)⟩,⟨w.heap.size+1,63,true,(kya_v3)⟩]
@[simp] def kya_b2:List Bk:=[⟨kb,119,false,(kya_v1 n gL gI gS cL)⟩,⟨w.heap.size,59,true,(kya_v2 sn)⟩,⟨w.heap.size+1,63,true,(kya_v3)⟩,⟨g6,73,true,[i6 0,i6 0,i6 0,i6 0]⟩]
@[simp] def kya_b3:List Bk:=[⟨kb,119,false,(kya_v1 n gL gI gS cL)⟩,⟨w.heap.size,59,true,(kya_v2 sn)⟩,⟨w.heap.size+1,63,true,(kya_v3)⟩,⟨g6,73,true,[i6 E,i6 H,i6 U,i6 O]⟩]
@[simp] def kya_b4:List Bk:=[⟨kb,119,false,(kya_v1 n gL gI gS cL)⟩,⟨w.heap.size,59,true,(kya_v2 sn)⟩,⟨w.heap.size+1,63,true,(kya_v3)⟩,⟨g6,73,true,[i6 (E+1),i6 fr,i6 (now+30),i6 O]⟩]
def kya_Q(L:List LeaM)(n:Nat)(gL:Nat)(cL:Nat)(base:Nat)(w:World):Exit->Act->World->Prop:=bodyPost Tryz.prog Tryz.f62 (fun e' w'=>e'=.returned (.agg (List.toArray (kya_v4 E O)))∧OwnR w' base 73 4 (some ⟨gL,0,none⟩) n cL (flatV LeaM.cells (L.set (Int.toNat sn) ⟨E+1,fr,now+30,O⟩))∧Kept (fun y=>y=gL) w w')
theorem kya_q4(z2:Nat):Out.prune [0,1,2,7,8,29] (qListG Tryz.prog 139 w (fun _=>False) (opsOf (getCode (bodyOf Tryz.f62) [1,1,0,0])) (opsOf (getCode (bodyOf Tryz.f62) [1,1,0,0])).toList ⟨[(0,(pt kb 0)),(1,i6 now),(2,i6 fr),(7,(pt w.heap.size 0)),(8,(pt (w.heap.size+1) 0)),(9,.bool true)],(kya_b1 sn n gL gI gS cL kb w),[],z2⟩ [(false,.op oh0),(false,.op oh0),(false,.op oh0),(false,.op oh0),(false,.op (oA 1 0 1)),(false,.op oh0),(false,.op ⟨false,3,[]⟩),(false,.op oh0),(false,.op oh0),(false,.op (oA 1 1 1)),(false,.op oh0),(false,.op oh0),(false,.op oh0),(false,.op (oA 0 0 1)),(false,.op oh0),(false,.op oh0),(false,.op ⟨false,3,[]⟩)])=some ⟨[false=false,false=false,false=false,false=false,false=false,false=false,false=false,false=false,false=false,false=false,false=false,false=false,false=false],dupR [(w.heap.size,0,1),(w.heap.size,1,1),(kb,0,1)],⟨[(0,(pt kb 0)),(1,i6 now),(2,i6 fr),(7,(pt w.heap.size 0)),(8,(pt (w.heap.size+1) 0)),(29,.bool (decide ((sn:Int)>=(n:Int))))],(kya_b1 sn n gL gI gS cL kb w),[],z2⟩⟩:=by kernel_rfl
theorem kya_q6(z4:Nat):Out.prune [0,1,2,7,8,38] (qList Tryz.prog 139 w (fun _=>False) ((opsOf (getCode (bodyOf Tryz.f62) [1,1,1,0])).toList.take 8) ⟨[(0,(pt kb 0)),(1,i6 now),(2,i6 fr),(7,(pt w.heap.size 0)),(8,(pt (w.heap.size+1) 0))],(kya_b1 sn n gL gI gS cL kb w),[⟨gL,0+(Int.toNat sn)*4,[i6 E,i6 H,i6 U,i6 O]⟩],z4⟩ [.op oh0,.op oh0,.op oh0,.op (oA 0 0 1),.op oh0,.op (oA 1 1 1),.op oh2,.op ⟨false,0,[⟨true,0,0,4⟩]⟩])=some ⟨[(0:Int)<=sn∧sn<((n:Nat):Int)],dupR [(kb,0,1),(w.heap.size,1,1),(gL,0+(Int.toNat sn)*4,4)],⟨[(0,(pt kb 0)),(1,i6 now),(2,i6 fr),(7,(pt w.heap.size 0)),(8,(pt (w.heap.size+1) 0)),(38,.agg #[i6 E,i6 H,i6 U,i6 O])],(kya_b1 sn n gL gI gS cL kb w),[⟨gL,0+(Int.toNat sn)*4,[i6 E,i6 H,i6 U,i6 O]⟩],z4⟩⟩:=by kernel_rfl
theorem kya_t7:tailP [0,1,2,7,8,10] (tailX Tryz.prog 139 (opsOf (getCode (bodyOf Tryz.f62) [1,1,1,0])) 1 kya_n5 ⟨[(10,(pt g6 0)),(0,(pt kb 0)),(1,i6 now),(2,i6 fr),(7,(pt w.heap.size 0)),(8,(pt (w.heap.size+1) 0)),(38,.agg #[i6 E,i6 H,i6 U,i6 O])],(kya_b2 sn n gL gI gS cL kb w g6),[⟨gL,0+(Int.toNat sn)*4,[i6 E,i6 H,i6 U,i6 O]⟩],y6⟩ [(9,false,(oA 3 0 4))])=some (⟨[],dupR [(g6,0,4)],⟨[(0,(pt kb 0)),(1,i6 now),(2,i6 fr),(7,(pt w.heap.size 0)),(8,(pt (w.heap.size+1) 0)),(10,(pt g6 0))],(kya_b3 sn E H U O n gL gI gS cL kb w g6),[⟨gL,0+(Int.toNat sn)*4,[i6 E,i6 H,i6 U,i6 O]⟩],y6⟩⟩,0,kya_n6):=by kernel_rfl
theorem kya_t8:tailP [0,1,2,7,8,10] (tailX Tryz.prog 139 (opsOf (getCode (bodyOf Tryz.f62) [1,1,1,0])) 2 kya_n4 ⟨[(0,(pt kb 0)),(1,i6 now),(2,i6 fr),(7,(pt w.heap.size 0)),(8,(pt (w.heap.size+1) 0)),(38,.agg #[i6 E,i6 H,i6 U,i6 O])],(kya_b1 sn n gL gI gS cL kb w),[⟨gL,0+(Int.toNat sn)*4,[i6 E,i6 H,i6 U,i6 O]⟩],y6⟩ [(8,false,oh0),(9,false,(oA 3 0 4))])=some (⟨[],dupR [(y6,0,4)],⟨[(0,(pt kb 0)),(1,i6 now),(2,i6 fr),(7,(pt w.heap.size 0)),(8,(pt (w.heap.size+1) 0)),(10,(pt y6 0))],[⟨kb,119,false,(kya_v1 n gL gI gS cL)⟩,⟨w.heap.size,59,true,(kya_v2 sn)⟩,⟨w.heap.size+1,63,true,(kya_v3)⟩,⟨y6,73,true,[i6 E,i6 H,i6 U,i6 O]⟩],[⟨gL,0+(Int.toNat sn)*4,[i6 E,i6 H,i6 U,i6 O]⟩],y6+1⟩⟩,0,kya_n6):=by kernel_rfl
end
theorem keeperAnswer(sn fr now E H U O:Int)(L:List LeaM)(n gL gI gS cL kb base:Nat)(hsn:0<=sn∧sn<n)(hn8:n<=8)(hLn:L.length=n)(hLi:L[Int.toNat sn]?=some ⟨E,H,U,O⟩)(hU:U<=now)(hE:0<=E∧E<16777215)(hnow:0<=now∧now<=1099511627776)(w:World)(hK:Blk w kb 119 [.slice (some ⟨gL,0,none⟩) n cL,.slice (some ⟨gI,0,none⟩) 2 2,.slice (some ⟨gS,0,none⟩) 2 2])(hL:OwnR w base 73 4 (some ⟨gL,0,none⟩) n cL (flatV LeaM.cells L)) :
  Calls Tryz.prog 62 #[.pointer (some ⟨kb,0,none⟩),i6 now,i6 fr,.agg #[i6 8,i6 sn,i6 0,i6 0,i6 0,i6 0,i6 0,i6 0,sT ⟨#[]⟩]] w (fun e' w'=>e'=.returned (.agg #[i6 1,i6 (E+1),i6 O,.bool false,i6 0,i6 0,i6 0,sT ⟨#[]⟩,.bool false,i6 0,i6 0,i6 0,sT ⟨#[]⟩])∧OwnR w' base 73 4 (some ⟨gL,0,none⟩) n cL (flatV LeaM.cells (L.set (Int.toNat sn) ⟨E+1,fr,now+30,O⟩))∧Kept (fun y=>y=gL) w w'):=by
 refine cH (S:=(fun _=>False)) (n:=139) Tryz.func62 (MemOk.start (bk:=[⟨kb,119,false,(kya_v1 n gL gI gS cL)⟩]) (wn:=[]) (fun b hb=>by obtain rfl:=List.mem_singleton.1 hb; exact hK) (by simp) (by simp) (by simp)) ?_
 have hglt:=(hL.own gL ⟨_,rfl,rfl⟩).2
 have hgne:gL≠kb:=fun e=>absurd (tyIn_one (hL.ty gL ⟨_,rfl,rfl⟩) (e▸blk_ty hK)) (by decide)
 refine hgS 11 (dz 3 151001088) [0,1,2,7,8,11] [] [(w.heap.size,0,9)] [.ops [1,0] [1,2],.code [1,1]] (kya_b1 sn n gL gI gS cL kb w) [] (w.heap.size+2) ?_
 refine hcq (.bool true) _ _ (some 12) [] tI rfl (fun wx hm=>r9right_8 sn (by omega) wx) fun z2 hz2=>?_
 refine hgE 7 [oh0] [0,1,2,7,8,9] [] [] [.code [1,1,0,0],.code [1,1,0,1],.code [1,1,1]] ⟨[(0,(pt kb 0)),(1,i6 now),(2,i6 fr),(7,(pt w.heap.size 0)),(8,(pt (w.heap.size+1) 0)),(9,.bool true)],(kya_b1 sn n gL gI gS cL kb w),[],z2⟩ ?_
 refine holds_quietG _ _ (by kernel_rfl) (by kernel_rfl) (by kernel_rfl) (kya_q4 sn fr now n gL gI gS cL kb w z2) ⟨rfl,rfl,rfl,rfl,rfl,rfl,rfl,rfl,rfl,rfl,rfl,rfl,rfl,trivial⟩ fun z4 hz4=>?_
 replace hz4:z2<=z4:=hz4
 refine holds_wins [⟨gL,0+Int.toNat sn*4,[i6 E,i6 H,i6 U,i6 O]⟩] (fun _ y hy=>?_) ?_
 ·simp only[List.mem_cons,List.not_mem_nil,or_false]at hy
  subst hy
  exact⟨fun h=>h,hglt,own_elem lea_len hL hLi⟩
 refine hgE 6 [oh0] [0,1,2,7,8] [dF ((sn:Int)>=(n:Int))] [] [.code [1,1,1,0],.code [1,1,1,1]] ⟨[(0,(pt kb 0)),(1,i6 now),(2,i6 fr),(7,(pt w.heap.size 0)),(8,(pt (w.heap.size+1) 0))],(kya_b1 sn n gL gI gS cL kb w),[⟨gL,0+(Int.toNat sn)*4,[i6 E,i6 H,i6 U,i6 O]⟩],z4⟩ ?_
 have HZ:∀(g6 y6:Nat),z4<=g6->z4<=y6->Holds [] Tryz.prog (bodyOf Tryz.f62) 139 w (fun _=>False) (kya_Q sn fr now E O L n gL cL base w) [.code [1,1,1,1]] ⟨[(0,(pt kb 0)),(1,i6 now),(2,i6 fr),(7,(pt w.heap.size 0)),(8,(pt (w.heap.size+1) 0)),(10,(pt g6 0))],(kya_b3 sn E H U O n gL gI gS cL kb w g6),[⟨gL,0+(Int.toNat sn)*4,[i6 E,i6 H,i6 U,i6 O]⟩],y6⟩:=by
  intro g6 y6 hg6 hy6
  suffices HX:Holds [] Tryz.prog (bodyOf Tryz.f62) 139 w (fun _=>False) (kya_Q sn fr now E O L n gL cL base w) [.ops kya_n2 [4,5],.code kya_n3,.code [1,1,1,1,1]] ⟨[(0,(pt kb 0)),(1,i6 now),(2,i6 fr),(7,(pt w.heap.size 0)),(8,(pt (w.heap.size+1) 0)),(10,(pt g6 0)),(75,(pt kb 0)),(77,i6 sn),(78,.agg #[i6 (E+1),i6 fr,i6 (now+30),i6 O])],(kya_b4 sn fr now E O n gL gI gS cL kb w g6),[⟨gL,0+(Int.toNat sn)*4,[i6 E,i6 H,i6 U,i6 O]⟩],y6⟩by
   by_cases h0:H=0
   ·skip
    refine hgE 68 (dz 40 0x400380101180001023802001013800010038020100380000100380040000040000000101380100100180) kya_n1 ([tT]++rE 5 (oE ((H != 0)=false) (bne_eq_false_iff_eq.2 h0))++[fF,fF,fF,fF,fF,fF,dF ((E:Int)>=16777215),n64 ((E+1)),n64 ((now+30))]) [(w.heap.size,0,1),(g6,1,1),(g6,0,1),(g6,0,1),(g6,0,1),(g6,1,1),(g6,2,1),(w.heap.size,1,1),(g6,0,4)] [.ops kya_n2 [4,5],.code kya_n3,.code [1,1,1,1,1]] ⟨[(0,(pt kb 0)),(1,i6 now),(2,i6 fr),(7,(pt w.heap.size 0)),(8,(pt (w.heap.size+1) 0)),(10,(pt g6 0)),(75,(pt kb 0)),(77,i6 sn),(78,.agg #[i6 (E+1),i6 fr,i6 (now+30),i6 O])],(kya_b4 sn fr now E O n gL gI gS cL kb w g6),[⟨gL,0+(Int.toNat sn)*4,[i6 E,i6 H,i6 U,i6 O]⟩],y6⟩ ?_
    exact HX
   by_cases h1:H=fr
   ·skip
    refine hgE 68 (dz 40 0x40038010118000102380200101380001003802010038000010038004000003110101391000101380100100180) kya_n1 ([tT]++rE 5 (oE ((H != 0)=true) (bne_iff_ne.2 h0))++rE 5 (oE ((H != fr)=false) (bne_eq_false_iff_eq.2 h1))++[fF,dF ((E:Int)>=16777215),n64 ((E+1)),n64 ((now+30))]) [(w.heap.size,0,1),(g6,1,1),(g6,1,1),(g6,0,1),(g6,0,1),(g6,0,1),(g6,1,1),(g6,2,1),(w.heap.size,1,1),(g6,0,4)] [.ops kya_n2 [4,5],.code kya_n3,.code [1,1,1,1,1]] ⟨[(0,(pt kb 0)),(1,i6 now),(2,i6 fr),(7,(pt w.heap.size 0)),(8,(pt (w.heap.size+1) 0)),(10,(pt g6 0)),(75,(pt kb 0)),(77,i6 sn),(78,.agg #[i6 (E+1),i6 fr,i6 (now+30),i6 O])],(kya_b4 sn fr now E O n gL gI gS cL kb w g6),[⟨gL,0+(Int.toNat sn)*4,[i6 E,i6 H,i6 U,i6 O]⟩],y6⟩ ?_
    exact HX
   ·skip
    refine hgE 68 (dz 40 0x4003801011800010238020010138000100380201003800001003800310102391103110101391000101380100100180) kya_n1 ([tT]++rE 5 (oE ((H != 0)=true) (bne_iff_ne.2 h0))++rE 5 (oE ((H != fr)=true) (bne_iff_ne.2 h1))++[dF ((now:Int)<U),dF ((E:Int)>=16777215),n64 ((E+1)),n64 ((now+30))]) [(w.heap.size,0,1),(g6,1,1),(g6,1,1),(g6,2,1),(g6,0,1),(g6,0,1),(g6,0,1),(g6,1,1),(g6,2,1),(w.heap.size,1,1),(g6,0,4)] [.ops kya_n2 [4,5],.code kya_n3,.code [1,1,1,1,1]] ⟨[(0,(pt kb 0)),(1,i6 now),(2,i6 fr),(7,(pt w.heap.size 0)),(8,(pt (w.heap.size+1) 0)),(10,(pt g6 0)),(75,(pt kb 0)),(77,i6 sn),(78,.agg #[i6 (E+1),i6 fr,i6 (now+30),i6 O])],(kya_b4 sn fr now E O n gL gI gS cL kb w g6),[⟨gL,0+(Int.toNat sn)*4,[i6 E,i6 H,i6 U,i6 O]⟩],y6⟩ ?_
    exact HX
  refine holds_wins [] (fun _ _ h=>by cases h) ?_
  refine hcV (w:=w) (S':=(fun y=>y=gL)) (Y:=Unit) (fun _=>.agg (List.toArray (kya_v4 E O))) (fun _=>(kya_b4 sn fr now E O n gL gI gS cL kb w g6)) (fun _ W_=>OwnR W_ base 73 4 (some ⟨gL,0,none⟩) n cL (flatV LeaM.cells (L.set (Int.toNat sn) ⟨E+1,fr,now+30,O⟩))) (show _=some (98,[(pt kb 0),i6 sn,.agg #[i6 (E+1),i6 fr,i6 (now+30),i6 O],i6 1],some 79,[])by kernel_rfl) tI (fun wx hm=>?_) (fun y_ W1 hL1 hm1=>?_)
  ·have hm0:=hm.wide (S':=(fun y=>y=gL)) (fun _ h=>h.elim)
   refine(keeperSay sn (E+1) fr (now+30) O 1 L n gL gI gS cL kb base hsn hLn wx (hm.at_ 0 rfl) (hL.kept hm.kept (fun _ _ h=>h))).mono fun e' w' hq=>?_
   obtain⟨h1,h2,h3⟩:=hq
   exact⟨(),h1,h2,hm0.offA (fun _ h=>h) h3 (fun y hy=>.inl hy) (fun b hb hy=>by simp at hb; rcases hb with rfl|rfl|rfl|rfl<;>simp only at hy<;>omega)⟩
  refine hgS 5 [(oA 2 0 13)] [0,1,2,7,8,10] [] [(w.heap.size+1,0,13)] [.code kya_n3,.code [1,1,1,1,1]] [⟨kb,119,false,(kya_v1 n gL gI gS cL)⟩,⟨w.heap.size,59,true,(kya_v2 sn)⟩,⟨w.heap.size+1,63,true,(kya_v4 E O)⟩,⟨g6,73,true,[i6 (E+1),i6 fr,i6 (now+30),i6 O]⟩] [] W1.heap.size ?_
  refine hrt [[⟨false,2,0,13⟩]] [.agg (List.toArray (kya_v4 E O))] [(w.heap.size+1,0,13)] ?_
  intro wx hm
  exact⟨rfl,hL1.kept hm.kept (fun y ⟨a,ha,hy⟩ ⟨b,hb,hr,he⟩=>by cases ha; simp at hb; rcases hb with rfl|rfl|rfl|rfl<;>simp at hr he hy<;>omega),(MemOk.bck hm1 hm).kept⟩
 have H1:∀(g6 y6:Nat),z4<=g6->z4<=y6->Holds [] Tryz.prog (bodyOf Tryz.f62) 139 w (fun _=>False) (kya_Q sn fr now E O L n gL cL base w) (.any [1,1,1,0] 1 kya_n5::[.code [1,1,1,1]]) ⟨[(10,(pt g6 0)),(0,(pt kb 0)),(1,i6 now),(2,i6 fr),(7,(pt w.heap.size 0)),(8,(pt (w.heap.size+1) 0)),(38,.agg #[i6 E,i6 H,i6 U,i6 O])],(kya_b2 sn n gL gI gS cL kb w g6),[⟨gL,0+(Int.toNat sn)*4,[i6 E,i6 H,i6 U,i6 O]⟩],y6⟩:=by
  intro g6 y6 hg6 hy6
  refine holds_tail panicOk_body _ _ (kya_t7 sn fr now E H U O n gL gI gS cL kb w g6 y6) trivial ?_
  refine holds_done (by kernel_rfl) ?_
  exact HZ g6 _ (by omega) (by omega)
 refine holds_float (fl:=8) (t:=73) (d:=10) (cs:=[i6 0,i6 0,i6 0,i6 0]) (ls0:=kya_n4) (ls1:=kya_n5) (f:=1) 8 _ _ (by kernel_rfl) (by kernel_rfl) (by kernel_rfl) (by kernel_rfl) (by decide) (by kernel_rfl) (by kernel_rfl) (by kernel_rfl) (kya_q6 sn fr now E H U O n gL gI gS cL kb w z4) ⟨⟨by omega,by omega⟩,trivial⟩ H1 ?_
 intro y6 hy6
 replace hy6:z4<=y6:=hy6
 refine holds_tail panicOk_body _ _ (kya_t8 sn fr now E H U O n gL gI gS cL kb w y6) trivial ?_
 refine holds_done (by kernel_rfl) ?_
 exact HZ _ _ (by omega) (by omega)
section
variable (sn fr now id E O:Int)(n gL gI gS cL kb:Nat)(w:World)(_:Unit)
def kyd_v1:List Value:=(kya_v2 sn)
def kyd_v2:List Value:=(kya_v4 E O)
def kyd_v3:List Value:=(kys_v1 n gL gI gS cL)
def kyd_v4:List Value:=kys_v2
@[simp] def kyd_b1:List Bk:=[⟨kb,119,false,(kyd_v3 n gL gI gS cL)⟩,⟨w.heap.size,59,true,(kyd_v1 sn)⟩,⟨w.heap.size+1,63,true,(kyd_v4)⟩]
def kyd_y3s:List (Nat×Value):=[(0,(pt kb 0)),(1,i6 now),(2,i6 fr),(3,i6 id),(9,(pt w.heap.size 0)),(10,(pt (w.heap.size+1) 0)),(11,.bool false),(12,i6 (fr-200))]
def kyd_y3v(_:Unit):List (Option Value):=[some ((pt kb 0)),some ((pt kb 0)),some ((pt kb 2)),some (.slice (some ⟨gS,0,none⟩) 2 2),some (i6 (fr-200)),some ((pt kb 0)),some (i6 now),some (i6 fr),some (.agg (List.toArray (kyd_v1 sn))),some (.agg (List.toArray (kyd_v2 E O))),some (.pointer (some ⟨gS,0+(Int.toNat (fr-200))*13,none⟩)),some (.tuple #[])]
def kyd_y3F(_:Unit)(k:Nat):Bool:=([true,true,true,true,true,true,true,true,true,true,true,true]:List Bool)[k]?.getD true
def kyd_y3m(_:Unit):List (List Bk):=[(kyd_b1 sn n gL gI gS cL kb w),(kyd_b1 sn n gL gI gS cL kb w),(kyd_b1 sn n gL gI gS cL kb w)]
abbrev kyd_y3X(sn:Int)(fr:Int)(now:Int)(E:Int)(O:Int)(L:List LeaM)(n:Nat)(gL:Nat)(gI:Nat)(gS:Nat)(cL:Nat)(base:Nat)(ids:List Int)(ss:List SayR)(c_:Nat)(_:Unit)(W_:World):Prop:=match c_ with|0=>OwnR W_ base 73 4 (some ⟨gL,0,none⟩) n cL (flatV LeaM.cells L)∧OwnR W_ base 3 1 (some ⟨gI,0,none⟩) 2 2 (flatV intC ids)∧OwnR W_ base 63 13 (some ⟨gS,0,none⟩) 2 2 (flatV SayR.cells ss)|1=>OwnR W_ base 73 4 (some ⟨gL,0,none⟩) n cL (flatV LeaM.cells (L.set (Int.toNat sn) ⟨E+1,fr,now+30,O⟩))∧OwnR W_ base 3 1 (some ⟨gI,0,none⟩) 2 2 (flatV intC ids)∧OwnR W_ base 63 13 (some ⟨gS,0,none⟩) 2 2 (flatV SayR.cells ss)|2=>OwnR W_ base 73 4 (some ⟨gL,0,none⟩) n cL (flatV LeaM.cells (L.set (Int.toNat sn) ⟨E+1,fr,now+30,O⟩))∧OwnR W_ base 3 1 (some ⟨gI,0,none⟩) 2 2 (flatV intC ids)∧OwnR W_ base 63 13 (some ⟨gS,0,none⟩) 2 2 (flatV SayR.cells (ss.set (Int.toNat (fr-200)) ⟨1,E+1,O,⟨false,0,0,0,⟨#[]⟩,false,0,0,0,⟨#[]⟩⟩⟩))|_=>True
def kyd_y3C(L:List LeaM)(n:Nat)(gL:Nat)(gI:Nat)(gS:Nat)(cL:Nat)(kb:Nat)(base:Nat)(w:World)(ids:List Int)(ss:List SayR)(i_:Nat):Prop:=cY Tryz.prog Tryz.f39 [1,1,1,1,1,0,1,0,0] 77 [] (bodyPost Tryz.prog Tryz.f39 (fun e' w'=>e'=.returned (.tuple #[.agg (List.toArray (kyd_v2 E O)),.bool true])∧OwnR w' base 73 4 (some ⟨gL,0,none⟩) n cL (flatV LeaM.cells (L.set (Int.toNat sn) ⟨E+1,fr,now+30,O⟩))∧OwnR w' base 3 1 (some ⟨gI,0,none⟩) 2 2 (flatV intC (ids.set (Int.toNat (fr-200)) id))∧OwnR w' base 63 13 (some ⟨gS,0,none⟩) 2 2 (flatV SayR.cells (ss.set (Int.toNat (fr-200)) ⟨1,E+1,O,⟨false,0,0,0,⟨#[]⟩,false,0,0,0,⟨#[]⟩⟩⟩))∧Kept (fun y=>y=gL∨y=gI∨y=gS) w w')) [.code [1,1,1,1,1,0,1,0,1],.code [1,1,1,1,1,1]] (kyd_y3s fr now id kb w) [none,none,none,none,none,none,none,none,none,some 0,none,some 1] 2 (kyd_y3v sn fr now E O gS kb) kyd_y3F w (fun y=>y=gL∨y=gI∨y=gS) (kyd_y3m sn n gL gI gS cL kb w) (w.heap.size+2) (kyd_y3X sn fr now E O L n gL gI gS cL base ids ss) i_
end
theorem keeperDo(sn fr now E H U O:Int)(L:List LeaM)(n gL gI gS cL kb base:Nat)(hsn:0<=sn∧sn<n)(hn8:n<=8)(hLn:L.length=n)(hLi:L[Int.toNat sn]?=some ⟨E,H,U,O⟩)(hU:U<=now)(hE:0<=E∧E<16777215)(hnow:0<=now∧now<=1099511627776)(id v:Int)(ids:List Int)(ss:List SayR)(hfr:200<=fr∧fr<202)(hid:1<=id∧id<=1099511627776∧v<id)(hIi:ids[Int.toNat (fr-200)]?=some v)(hil:ids.length=2)(hsl:ss.length=2)(w:World)(hK:Blk w kb 119 [.slice (some ⟨gL,0,none⟩) n cL,.slice (some ⟨gI,0,none⟩) 2 2,.slice (some ⟨gS,0,none⟩) 2 2])(hL:OwnR w base 73 4 (some ⟨gL,0,none⟩) n cL (flatV LeaM.cells L))(hI:OwnR w base 3 1 (some ⟨gI,0,none⟩) 2 2 (flatV intC ids))(hS:OwnR w base 63 13 (some ⟨gS,0,none⟩) 2 2 (flatV SayR.cells ss)) :
  Calls Tryz.prog 39 #[.pointer (some ⟨kb,0,none⟩),i6 now,i6 fr,i6 id,.agg #[i6 8,i6 sn,i6 0,i6 0,i6 0,i6 0,i6 0,i6 0,sT ⟨#[]⟩]] w (fun e' w'=>e'=.returned (.tuple #[.agg #[i6 1,i6 (E+1),i6 O,.bool false,i6 0,i6 0,i6 0,sT ⟨#[]⟩,.bool false,i6 0,i6 0,i6 0,sT ⟨#[]⟩],.bool true])∧OwnR w' base 73 4 (some ⟨gL,0,none⟩) n cL (flatV LeaM.cells (L.set (Int.toNat sn) ⟨E+1,fr,now+30,O⟩))∧OwnR w' base 3 1 (some ⟨gI,0,none⟩) 2 2 (flatV intC (ids.set (Int.toNat (fr-200)) id))∧OwnR w' base 63 13 (some ⟨gS,0,none⟩) 2 2 (flatV SayR.cells (ss.set (Int.toNat (fr-200)) ⟨1,E+1,O,⟨false,0,0,0,⟨#[]⟩,false,0,0,0,⟨#[]⟩⟩⟩))∧Kept (fun y=>y=gL∨y=gI∨y=gS) w w'):=by
 refine cH (S:=(fun _=>False)) (n:=77) Tryz.func39 (MemOk.start (bk:=[⟨kb,119,false,(kyd_v3 n gL gI gS cL)⟩]) (wn:=[]) (fun b hb=>by obtain rfl:=List.mem_singleton.1 hb; exact hK) (by simp) (by simp) (by simp)) ?_
 have hglt:=(hL.own gL ⟨_,rfl,rfl⟩).2
 have hgne:gL≠kb:=fun e=>absurd (tyIn_one (hL.ty gL ⟨_,rfl,rfl⟩) (e▸blk_ty hK)) (by decide)
 have hilt:=(hI.own gI ⟨_,rfl,rfl⟩).2
 have hslt:=(hS.own gS ⟨_,rfl,rfl⟩).2
 have hine:gI≠kb:=fun e=>absurd (tyIn_one (hI.ty gI ⟨_,rfl,rfl⟩) (e▸blk_ty hK)) (by decide)
 have hsne:gS≠kb:=fun e=>absurd (tyIn_one (hS.ty gS ⟨_,rfl,rfl⟩) (e▸blk_ty hK)) (by decide)
 have hli:gL≠gI:=fun e=>absurd (tyIn_one (hL.ty gL ⟨_,rfl,rfl⟩) (e▸hI.ty gI ⟨_,rfl,rfl⟩)) (by decide)
 have hls:gL≠gS:=fun e=>absurd (tyIn_one (hL.ty gL ⟨_,rfl,rfl⟩) (e▸hS.ty gS ⟨_,rfl,rfl⟩)) (by decide)
 have his:gI≠gS:=fun e=>absurd (tyIn_one (hI.ty gI ⟨_,rfl,rfl⟩) (e▸hS.ty gS ⟨_,rfl,rfl⟩)) (by decide)
 have hnw:now=minZ (maxZ now 0) 1099511627776:=by unfold minZ maxZ; split<;>split<;>omega
 have hpi:Int.toNat (fr-200)<2:=by omega
 refine hgE 51 (dz 31 0x200101080000040000002004000000220000) [0,1,2,3,9,10,11,12,31,32,38] ([vV,vV]++rE 3 (dF ((fr:Int)<200))++[dF ((fr:Int)>=202),n64 ((fr-200))]++rE 3 (dF ((id:Int)<1))++rE 7 (dF ((id:Int)>1099511627776))++[oE ((0:Int)<=(fr-200)∧(fr-200)<((2:Nat):Int))]) [(kb,1,1)] [.ops [1,1,1,1,0,0] [14,15,16],.code [1,1,1,1,0,1],.code [1,1,1,1,1]] ⟨[(0,(pt kb 0)),(1,i6 (minZ (maxZ now 0) 1099511627776)),(2,i6 fr),(3,i6 id),(9,(pt w.heap.size 0)),(10,(pt (w.heap.size+1) 0)),(11,.bool false),(12,i6 (fr-200)),(31,.bool (decide ((id:Int)>1099511627776))),(32,i6 id),(38,.pointer (some ⟨gI,0+(Int.toNat (fr-200))*1,none⟩))],(kyd_b1 sn n gL gI gS cL kb w),[],w.heap.size+2⟩ ?_
 refine holds_st (congrArg (fun k_:Int=>(⟨[(0,(pt kb 0)),(1,i6 (k_)),(2,i6 fr),(3,i6 id),(9,(pt w.heap.size 0)),(10,(pt (w.heap.size+1) 0)),(11,.bool false),(12,i6 (fr-200)),(31,.bool (decide ((id:Int)>1099511627776))),(32,i6 id),(38,.pointer (some ⟨gI,0+(Int.toNat (fr-200))*1,none⟩))],(kyd_b1 sn n gL gI gS cL kb w),[],w.heap.size+2⟩:St)) hnw) ?_
 refine holds_wins [⟨gI,0+(Int.toNat (fr-200))*1,[i6 v]⟩] (fun _ y hy=>?_) ?_
 ·simp only[List.mem_cons,List.not_mem_nil,or_false]at hy
  subst hy
  exact⟨fun h=>h,hilt,own_elem (f:=intC) (fun _=>rfl) hI hIi⟩
 refine hgE 24 [⟨false,0,[⟨true,0,0,1⟩]⟩,oh0,⟨false,3,[]⟩,oh0,oh0,oh0,oh0,oh0,(oA 0 1 1),oh0,oh2,⟨false,0,[⟨true,0,0,1⟩]⟩,oh0,oh1] [0,1,2,3,9,10,11,12] (rE 3 (dF ((id:Int)>1099511627776))++[dF ((id:Int)<v),oE ((0:Int)<=(fr-200)∧(fr-200)<((2:Nat):Int)),dT ((id:Int)>v)]) [(gI,0+(Int.toNat (fr-200))*1,1),(kb,1,1),(gI,0+(Int.toNat (fr-200))*1,1)] [.code [1,1,1,1,1,0,1,0,0],.code [1,1,1,1,1,0,1,0,1],.code [1,1,1,1,1,1]] ⟨[(0,(pt kb 0)),(1,i6 now),(2,i6 fr),(3,i6 id),(9,(pt w.heap.size 0)),(10,(pt (w.heap.size+1) 0)),(11,.bool false),(12,i6 (fr-200))],(kyd_b1 sn n gL gI gS cL kb w),[⟨gI,0+(Int.toNat (fr-200))*1,[i6 v]⟩],w.heap.size+2⟩ ?_
 have kyd_y3_X:StayY w (fun y=>y=gL∨y=gI∨y=gS) (kyd_y3m sn n gL gI gS cL kb w) (kyd_y3X sn fr now E O L n gL gI gS cL base ids ss):=by
  intro c_ d wx w' bk hb hm hx hk
  match c_,hb,hx with
  |0,hb,hx=>
   obtain rfl:=Option.some.inj hb
   exact⟨hx.1.kept hk (fun y ⟨a,ha,hy⟩ ⟨b,hb,hr,he⟩=>by cases ha; simp at hb; rcases hb with rfl|rfl|rfl<;>simp at hr he hy<;>omega),hx.2.1.kept hk (fun y ⟨a,ha,hy⟩ ⟨b,hb,hr,he⟩=>by cases ha; simp at hb; rcases hb with rfl|rfl|rfl<;>simp at hr he hy<;>omega),hx.2.2.kept hk (fun y ⟨a,ha,hy⟩ ⟨b,hb,hr,he⟩=>by cases ha; simp at hb; rcases hb with rfl|rfl|rfl<;>simp at hr he hy<;>omega)⟩
  |1,hb,hx=>
   obtain rfl:=Option.some.inj hb
   exact⟨hx.1.kept hk (fun y ⟨a,ha,hy⟩ ⟨b,hb,hr,he⟩=>by cases ha; simp at hb; rcases hb with rfl|rfl|rfl<;>simp at hr he hy<;>omega),hx.2.1.kept hk (fun y ⟨a,ha,hy⟩ ⟨b,hb,hr,he⟩=>by cases ha; simp at hb; rcases hb with rfl|rfl|rfl<;>simp at hr he hy<;>omega),hx.2.2.kept hk (fun y ⟨a,ha,hy⟩ ⟨b,hb,hr,he⟩=>by cases ha; simp at hb; rcases hb with rfl|rfl|rfl<;>simp at hr he hy<;>omega)⟩
  |2,hb,hx=>
   obtain rfl:=Option.some.inj hb
   exact⟨hx.1.kept hk (fun y ⟨a,ha,hy⟩ ⟨b,hb,hr,he⟩=>by cases ha; simp at hb; rcases hb with rfl|rfl|rfl<;>simp at hr he hy<;>omega),hx.2.1.kept hk (fun y ⟨a,ha,hy⟩ ⟨b,hb,hr,he⟩=>by cases ha; simp at hb; rcases hb with rfl|rfl|rfl<;>simp at hr he hy<;>omega),hx.2.2.kept hk (fun y ⟨a,ha,hy⟩ ⟨b,hb,hr,he⟩=>by cases ha; simp at hb; rcases hb with rfl|rfl|rfl<;>simp at hr he hy<;>omega)⟩
  |c_+3,hb,hx=>exact trivial
 have kyd_y3_c9:kyd_y3C sn fr now id E O L n gL gI gS cL kb base w ids ss 9:=cyC (s:=0) (f:=62) (args:=fun d=>[(pt kb 0),i6 now,i6 fr,.agg (List.toArray (kyd_v1 sn))]) (ob:=fun d=>[]) (fun d e=>e) (fun d=>.agg (List.toArray (kyd_v2 E O))) (fun d=>trivial) (fun d wx bk hb hm hx hcame=>by
  obtain rfl:=Option.some.inj hb
  refine(keeperAnswer sn fr now E H U O L n gL gI gS cL kb base hsn hn8 hLn hLi hU hE hnow wx (hm.at_ 0 rfl) hx.1).mono fun e w' hq=>?_
  obtain⟨h1,h2,h3⟩:=hq
  exact⟨(),h1,rfl,⟨h2,hx.2.1.kept h3 (fun y ⟨a,ha,hy⟩ he=>by cases ha; simp only at hy; omega),hx.2.2.kept h3 (fun y ⟨a,ha,hy⟩ he=>by cases ha; simp only at hy; omega)⟩,hm.offA (fun _ h=>h) h3 (fun y hy=>.inl (.inl hy)) (fun b hb hy=>by simp at hb; rcases hb with rfl|rfl|rfl<;>simp only at hy<;>omega),h3.size⟩)
 have kyd_y3_c11:kyd_y3C sn fr now id E O L n gL gI gS cL kb base w ids ss 11:=cyS (s:=1) (x:=fun d=>Instr.storeAt 63 (.pointer (some ⟨gS,0+(Int.toNat (fr-200))*13,none⟩)) (.agg (List.toArray (kyd_v2 E O)))) (fun d e=>e) (fun d wx bk hb hm hx hcame=>by
  obtain rfl:=Option.some.inj hb
  obtain⟨w',h1,h2,h3,h4⟩:=own_storeG (P:=Tryz.prog) (t:=63) (v:=.agg (List.toArray (kyd_v2 E O))) (0+(Int.toNat (fr-200))*13) 13 hx.2.2 rfl (by omega) (by kernel_rfl) (ones_all rfl)
  rw[show 0+(Int.toNat (fr-200))*13=(Int.toNat (fr-200))*13 by omega,show(.agg (List.toArray (kyd_v2 E O)):Value).cells.toList=SayR.cells ⟨1,E+1,O,⟨false,0,0,0,⟨#[]⟩,false,0,0,0,⟨#[]⟩⟩⟩from rfl,flatV_put (f:=SayR.cells) (z:=13) (fun _=>rfl) (by omega)]at h2
  exact⟨(),w',h1,rfl,⟨hx.1.kept h3 (fun y ⟨a,ha,hy⟩ ⟨b,hb,hy2⟩=>by cases ha; cases hb; simp only at hy hy2; omega),hx.2.1.kept h3 (fun y ⟨a,ha,hy⟩ ⟨b,hb,hy2⟩=>by cases ha; cases hb; simp only at hy hy2; omega),h2⟩,hm.offA (fun _ h=>h) h3 (fun y ⟨a,ha,hy⟩=>.inl (.inr (.inr (by cases ha; exact hy)))) (fun b hb ⟨a,ha,hy⟩=>by cases ha; simp at hb; rcases hb with rfl|rfl|rfl<;>simp only at hy<;>omega),Nat.le_of_eq h4.symm⟩)
 have kyd_y3_R:∀e_∈(rZsY 2 [0,1,2,4,5,6,7]++[rY 3 2 0 2 1 kb,rY 8 2 1 0 9 w.heap.size,⟨10,2,oh2,fun _=>[oE ((0:Int)<=(fr-200)∧(fr-200)<((2:Nat):Int))],fun _=>[]⟩]:List (RegY (Unit))),kyd_y3C sn fr now id E O L n gL gI gS cL kb base w ids ss e_.i:=certsY_reg _ kyd_y3_X (fun d=>by kernel_rfl) (by kernel_rfl) (fun d sz=>by kernel_rfl)
 have kyd_y3_A:∀i_,i_<12->kyd_y3C sn fr now id E O L n gL gI gS cL kb base w ids ss i_:=allY (l:=[9,11]) (by kernel_rfl) kyd_y3_R ⟨kyd_y3_c9,kyd_y3_c11,trivial⟩
 refine holds_mixY (Δ:=Unit) (fun y=>y=gL∨y=gI∨y=gS) (kyd_y3v sn fr now E O gS kb) kyd_y3F (kyd_y3m sn n gL gI gS cL kb w) (kyd_y3X sn fr now E O L n gL gI gS cL base ids ss) [0,3,10,11,12] (fun d=>[(0,(pt kb 0)),(3,i6 id),(10,(pt (w.heap.size+1) 0)),(11,.bool false),(12,i6 (fr-200))]) (fun d=>(kyd_b1 sn n gL gI gS cL kb w)) () (fun _ h=>h.elim) (by kernel_rfl) (by kernel_rfl) (by kernel_rfl) (fun wx hm=>⟨hL.kept hm.kept.drew (fun _ _ h=>h),hI.kept hm.kept.drew (fun _ _ h=>h),hS.kept hm.kept.drew (fun _ _ h=>h)⟩) (by kernel_rfl) kyd_y3_A (fun d=>by kernel_rfl) (fun d=>by kernel_rfl) (fun d W1 hfin hX1 hz1 hm1=>?_)
 obtain⟨hL1,hI1,hS1⟩:OwnR W1 base 73 4 (some ⟨gL,0,none⟩) n cL (flatV LeaM.cells (L.set (Int.toNat sn) ⟨E+1,fr,now+30,O⟩))∧OwnR W1 base 3 1 (some ⟨gI,0,none⟩) 2 2 (flatV intC ids)∧OwnR W1 base 63 13 (some ⟨gS,0,none⟩) 2 2 (flatV SayR.cells (ss.set (Int.toNat (fr-200)) ⟨1,E+1,O,⟨false,0,0,0,⟨#[]⟩,false,0,0,0,⟨#[]⟩⟩⟩)):=hX1
 refine hgE 11 (dz 7 0x200010108000) [0,10,11,12,68,69] [oE ((0:Int)<=(fr-200)∧(fr-200)<((2:Nat):Int))] [(kb,1,1)] [.ops [1,1,1,1,1,0,1,0,1] [7],.code [1,1,1,1,1,1]] ⟨[(0,(pt kb 0)),(10,(pt (w.heap.size+1) 0)),(11,.bool false),(12,i6 (fr-200)),(68,i6 id),(69,.pointer (some ⟨gI,0+(Int.toNat (fr-200))*1,none⟩))],(kyd_b1 sn n gL gI gS cL kb w),[],W1.heap.size⟩ ?_
 refine holds_opSU (w:=w) (S':=(fun y=>y=gL∨y=gI∨y=gS)) (x:=Instr.storeAt 3 (.pointer (some ⟨gI,0+(Int.toNat (fr-200))*1,none⟩)) (i6 id)) (fun W_=>OwnR W_ base 73 4 (some ⟨gL,0,none⟩) n cL (flatV LeaM.cells (L.set (Int.toNat sn) ⟨E+1,fr,now+30,O⟩))∧OwnR W_ base 3 1 (some ⟨gI,0,none⟩) 2 2 (flatV intC (ids.set (Int.toNat (fr-200)) id))∧OwnR W_ base 63 13 (some ⟨gS,0,none⟩) 2 2 (flatV SayR.cells (ss.set (Int.toNat (fr-200)) ⟨1,E+1,O,⟨false,0,0,0,⟨#[]⟩,false,0,0,0,⟨#[]⟩⟩⟩))) (by kernel_rfl) (by kernel_rfl) (fun wx hm=>?_) (fun W2 hX2 hm2=>?_)
 ·have hm0:=MemOk.bckS hm1 hm (fun x hx=>by obtain⟨b,hb,hr,he⟩:=hx; exact(hm1.own b hb hr).imp_left (fun h=>he▸h) |>.imp_right (fun h=>he▸h))
  have hIx:=hI1.kept hm.kept (fun y ⟨a,ha,hy⟩ ⟨b,hb,hr,he⟩=>by cases ha; simp at hb; rcases hb with rfl|rfl|rfl<;>simp at hr he hy<;>omega)
  obtain⟨w',h1,h2,h3,h4⟩:=own_storeG (P:=Tryz.prog) (t:=3) (v:=i6 id) (0+(Int.toNat (fr-200))*1) 1 hIx rfl (by omega) (by kernel_rfl) (ones_all rfl)
  rw[show 0+(Int.toNat (fr-200))*1=(Int.toNat (fr-200))*1 by omega,show(i6 id:Value).cells.toList=intC id from rfl,flatV_put (f:=intC) (z:=1) (fun _=>rfl) (by omega)]at h2
  exact⟨w',h1,⟨(hL1.kept hm.kept (fun y ⟨a,ha,hy⟩ ⟨b,hb,hr,he⟩=>by cases ha; simp at hb; rcases hb with rfl|rfl|rfl<;>simp at hr he hy<;>omega)).kept h3 (fun y ⟨a,ha,hy⟩ ⟨b,hb,hy2⟩=>by cases ha; cases hb; simp only at hy hy2; omega),h2,(hS1.kept hm.kept (fun y ⟨a,ha,hy⟩ ⟨b,hb,hr,he⟩=>by cases ha; simp at hb; rcases hb with rfl|rfl|rfl<;>simp at hr he hy<;>omega)).kept h3 (fun y ⟨a,ha,hy⟩ ⟨b,hb,hy2⟩=>by cases ha; cases hb; simp only at hy hy2; omega)⟩,hm0.offA (fun _ h=>h) h3 (fun y ⟨a,ha,hy⟩=>.inl (.inr (.inl (by cases ha; exact hy)))) (fun b hb ⟨a,ha,hy⟩=>by cases ha; simp at hb; rcases hb with rfl|rfl|rfl<;>simp only at hy<;>omega)⟩
 obtain⟨hL2,hI2,hS2⟩:OwnR W2 base 73 4 (some ⟨gL,0,none⟩) n cL (flatV LeaM.cells (L.set (Int.toNat sn) ⟨E+1,fr,now+30,O⟩))∧OwnR W2 base 3 1 (some ⟨gI,0,none⟩) 2 2 (flatV intC (ids.set (Int.toNat (fr-200)) id))∧OwnR W2 base 63 13 (some ⟨gS,0,none⟩) 2 2 (flatV SayR.cells (ss.set (Int.toNat (fr-200)) ⟨1,E+1,O,⟨false,0,0,0,⟨#[]⟩,false,0,0,0,⟨#[]⟩⟩⟩)):=hX2
 refine holds_wins [⟨gS,0+(Int.toNat (fr-200))*13,(kyd_v2 E O)⟩] (fun _ y hy=>?_) ?_
 ·simp only[List.mem_cons,List.not_mem_nil,or_false]at hy
  subst hy
  exact⟨fun⟨b,hb,hr,he⟩=>(by simp at hb; rcases hb with rfl|rfl|rfl<;>simp at hr he<;>omega),(hS2.own gS ⟨_,rfl,rfl⟩).2,own_elem (f:=SayR.cells) (fun _=>rfl) hS2 (x:=⟨1,E+1,O,⟨false,0,0,0,⟨#[]⟩,false,0,0,0,⟨#[]⟩⟩⟩) (by rw[List.getElem?_set_self (by omega)])⟩
 refine hgS 16 [oh0,oh0,oh0,(oA 0 2 1),oh0,oh2,⟨false,0,[⟨true,0,0,13⟩]⟩,(oA 2 0 13),oh0] [10,11] [oE ((0:Int)<=(fr-200)∧(fr-200)<((2:Nat):Int))] [(kb,2,1),(gS,0+(Int.toNat (fr-200))*13,13),(w.heap.size+1,0,13)] [.code [1,1,1,1,1,1,1]] [⟨kb,119,false,(kyd_v3 n gL gI gS cL)⟩,⟨w.heap.size,59,true,(kyd_v1 sn)⟩,⟨w.heap.size+1,63,true,(kyd_v2 E O)⟩] [⟨gS,0+(Int.toNat (fr-200))*13,(kyd_v2 E O)⟩] W2.heap.size ?_
 refine hrt [[⟨false,2,0,13⟩]] [.agg (List.toArray (kyd_v2 E O)),.bool true] [(w.heap.size+1,0,13)] ?_
 intro wx hm
 exact⟨rfl,hL2.kept hm.kept (fun y ⟨a,ha,hy⟩ ⟨b,hb,hr,he⟩=>by cases ha; simp at hb; rcases hb with rfl|rfl|rfl<;>simp at hr he hy<;>omega),hI2.kept hm.kept (fun y ⟨a,ha,hy⟩ ⟨b,hb,hr,he⟩=>by cases ha; simp at hb; rcases hb with rfl|rfl|rfl<;>simp at hr he hy<;>omega),hS2.kept hm.kept (fun y ⟨a,ha,hy⟩ ⟨b,hb,hr,he⟩=>by cases ha; simp at hb; rcases hb with rfl|rfl|rfl<;>simp at hr he hy<;>omega),(MemOk.bck hm2 hm).kept⟩
end Go.Proofs.YtcmpkkapkdlfhaaGreat
