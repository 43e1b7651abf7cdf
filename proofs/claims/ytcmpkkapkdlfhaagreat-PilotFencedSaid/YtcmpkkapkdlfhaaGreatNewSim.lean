import Derived.Test.YtcmpkkapkdlfhaaGreatPil10
namespace Go.Proofs.YtcmpkkapkdlfhaaGreat
open Go.RowKit
set_option maxHeartbeats 4000000
set_option maxRecDepth 100000
section
variable (kb gI gS S:Nat) (w:World)
def kn_v1 (d:Option Nat × Option Nat × Nat):List Value:=[.slice none 0 0,.slice (some ⟨(d.1.getD 0),0,none⟩) 2 2,.slice (some ⟨(d.2.1.getD 0),0,none⟩) 2 2]
def kn_v2:List Value:=rp 3 (i6 0) ++ [.bool false] ++ rp 3 (i6 0) ++ [sT ⟨#[]⟩,.bool false] ++ rp 3 (i6 0) ++ [sT ⟨#[]⟩] ++ rp 3 (i6 0) ++ [.bool false] ++ rp 3 (i6 0) ++ [sT ⟨#[]⟩,.bool false] ++ rp 3 (i6 0) ++ [sT ⟨#[]⟩]
@[simp] def kn_b1 (i:Nat) (kb:Nat) (gI:Nat) (gS:Nat) (A:Option Addr) (cp:Nat):List Bk:=[⟨kb,119,true,[.slice A i cp,.slice (some ⟨gI,0,none⟩) 2 2,.slice (some ⟨gS,0,none⟩) 2 2]⟩]
@[simp] def kn_b2:List Bk:=[⟨kb,119,true,[.slice none 0 0,.slice (some ⟨gI,0,none⟩) 2 2,.slice (some ⟨gS,0,none⟩) 2 2]⟩]
def kn_Q:Exit → Act → World → Prop:=bodyPost Tryz.prog Tryz.f28 (fun e w'=>∃ kb_ gI_ gS_ A_ cp_,e = .returned (.tuple #[(pt kb_ 0),i6 0]) ∧ w.heap.size ≤ kb_ ∧ Blk w' kb_ 119 [.slice A_ S cp_,.slice (some ⟨gI_,0,none⟩) 2 2,.slice (some ⟨gS_,0,none⟩) 2 2] ∧ OwnR w' w.heap.size 73 4 A_ S cp_ (flatV LeaM.cells (List.replicate S ⟨0,0,0,-1⟩)) ∧ (w.heap.size ≤ gI_ ∧ Blk w' gI_ 3 [i6 0,i6 0] ∧ w.heap.size ≤ gS_ ∧ Blk w' gS_ 63 (kn_v2)) ∧ Kept (fun _=>False) w w')
def kn_y2s:List (Nat × Value):=[(0,i6 (S:Int)),(2,.pointer none),(3,i6 0)]
def kn_y2v (d:Option Nat × Option Nat × Nat):List (Option Value):=[some (.slice (some ⟨(d.1.getD 0),0,none⟩) 2 2),some (.slice (some ⟨(d.2.1.getD 0),0,none⟩) 2 2),some (.agg (List.toArray (kn_v1 d))),some ((pt d.2.2 0)),some ((pt d.2.2 0))]
def kn_y2F (d:Option Nat × Option Nat × Nat) (k:Nat):Bool:=([d.1.isSome,d.2.1.isSome,true,true,true]:List Bool)[k]?.getD true
def kn_y2m (d:Option Nat × Option Nat × Nat):List (List Bk):=[[],[],[⟨d.2.2,119,true,(kn_v1 d)⟩]]
abbrev kn_y2X (w:World) (c_:Nat) (d:Option Nat × Option Nat × Nat) (W_:World):Prop:=match c_ with | 0=>(True) ∧ (∀ g_,d.1 = some g_ → w.heap.size ≤ g_ ∧ Blk W_ g_ 3 [i6 0,i6 0]) ∧ (∀ g_,d.2.1 = some g_ → w.heap.size ≤ g_ ∧ Blk W_ g_ 63 (kn_v2)) | 1=>(w.heap.size ≤ (d.1.getD 0) ∧ Blk W_ (d.1.getD 0) 3 [i6 0,i6 0] ∧ w.heap.size ≤ (d.2.1.getD 0) ∧ Blk W_ (d.2.1.getD 0) 63 (kn_v2)) ∧ True | 2=>(w.heap.size ≤ (d.1.getD 0) ∧ Blk W_ (d.1.getD 0) 3 [i6 0,i6 0] ∧ w.heap.size ≤ (d.2.1.getD 0) ∧ Blk W_ (d.2.1.getD 0) 63 (kn_v2)) ∧ True | _=>True
def kn_y2C (i_:Nat):Prop:=cY Tryz.prog Tryz.f28 [1,1,0] 32 [] (kn_Q S w) [.code [1,1,1]] (kn_y2s S) [none,none,some 0,some 1,none] 2 (kn_y2v) kn_y2F w (fun _=>False) (kn_y2m) w.heap.size (kn_y2X w) i_
end
def KnI (S:Nat) (kb:Nat) (gI:Nat) (gS:Nat) (w:World)  (m:Nat) (st:St) (W0:World):Prop:=
 ∃ (i:Nat) (A:Option Addr) (cp:Nat) (z:Nat),m + i = S ∧ i ≤ S ∧ OwnR W0 w.heap.size 73 4 A i cp (flatV LeaM.cells (List.replicate i ⟨0,0,0,-1⟩)) ∧ (w.heap.size ≤ gI ∧ Blk W0 gI 3 [i6 0,i6 0] ∧ w.heap.size ≤ gS ∧ Blk W0 gS 63 (kn_v2)) ∧ st = ⟨[(0,i6 (S:Int)),(2,.pointer none),(3,i6 0),(4,(pt kb 0)),(5,i6 (i:Int))],(kn_b1 i kb gI gS A cp),[],z⟩
theorem keeper_new (S:Nat) (hS:1 ≤ S ∧ S ≤ 8) (w:World) :
  Calls Tryz.prog 28 #[i6 (S:Int)] w (fun e w'=>∃ kb_ gI_ gS_ A_ cp_,e = .returned (.tuple #[.pointer (some ⟨kb_,0,none⟩),i6 0]) ∧ w.heap.size ≤ kb_ ∧ Blk w' kb_ 119 [.slice A_ S cp_,.slice (some ⟨gI_,0,none⟩) 2 2,.slice (some ⟨gS_,0,none⟩) 2 2] ∧ OwnR w' w.heap.size 73 4 A_ S cp_ (flatV LeaM.cells (List.replicate S ⟨0,0,0,-1⟩)) ∧ (w.heap.size ≤ gI_ ∧ Blk w' gI_ 3 [i6 0,i6 0] ∧ w.heap.size ≤ gS_ ∧ Blk w' gS_ 63 [i6 0,i6 0,i6 0,.bool false,i6 0,i6 0,i6 0,sT ⟨#[]⟩,.bool false,i6 0,i6 0,i6 0,sT ⟨#[]⟩,i6 0,i6 0,i6 0,.bool false,i6 0,i6 0,i6 0,sT ⟨#[]⟩,.bool false,i6 0,i6 0,i6 0,sT ⟨#[]⟩]) ∧ Kept (fun _=>False) w w'):=by
 refine cH (S:=(fun _=>False)) (n:=32) Tryz.func28 (MemOk.none w _) ?_
 refine hgE 21 (dz 9 1073741824) [0,2,3] (rE 3 (dF (((S:Int):Int) < 1)) ++ [dF (((S:Int):Int) > 8)]) [] [.code [1,1,0],.code [1,1,1]] ⟨[(0,i6 (S:Int)),(2,.pointer none),(3,i6 0)],[],[],w.heap.size⟩ ?_
 have kn_y2_X:StayY w (fun _=>False) (kn_y2m) (kn_y2X w):=by
  intro c_ d wx w' bk hb hm hx hk
  match c_,hb,hx with
  | 0,hb,hx=>
   obtain rfl:=Option.some.inj hb
   exact ⟨trivial,fun g_ hg_=>⟨(hx.2.1 g_ hg_).1,(hx.2.1 g_ hg_).2.kept hk (fun ⟨b,hb,_⟩=>(by cases hb))⟩,fun g_ hg_=>⟨(hx.2.2 g_ hg_).1,(hx.2.2 g_ hg_).2.kept hk (fun ⟨b,hb,_⟩=>by cases hb)⟩⟩
  | 1,hb,hx=>
   obtain rfl:=Option.some.inj hb
   obtain ⟨⟨k1,k2,k3,k4⟩,_⟩:=hx
   exact ⟨⟨k1,k2.kept hk (fun h=>tysIn_not rfl (blk_ty k2) (turned_tys hm _ h)),k3,k4.kept hk (fun h=>tysIn_not rfl (blk_ty k4) (turned_tys hm _ h))⟩,trivial⟩
  | 2,hb,hx=>
   obtain rfl:=Option.some.inj hb
   obtain ⟨⟨k1,k2,k3,k4⟩,_⟩:=hx
   exact ⟨⟨k1,k2.kept hk (fun h=>tysIn_not rfl (blk_ty k2) (turned_tys hm _ h)),k3,k4.kept hk (fun h=>tysIn_not rfl (blk_ty k4) (turned_tys hm _ h))⟩,trivial⟩
  | c_ + 3,hb,hx=>exact trivial
 have kn_y2_c0:kn_y2C S w 0:=cyN 0 3 [i6 0,i6 0] (fun d g=>(some g,d.2)) (fun g=>.slice (some ⟨g,0,none⟩) 2 2) (fun c_ d wx w' bk hcB hb hm hx hk hz hBl=>by
  have hs:=kn_y2_X c_ d wx w' bk hb hm hx hk
  match c_,hb,hx,hs,hcB with
  | 0,hb,hx,hs,hcB=>exact ⟨hs.1,⟨(fun g_ hg_=>by obtain rfl:=Option.some.inj hg_; exact ⟨hz,hBl⟩),hs.2.2⟩⟩
  | c_ + 1,hb,hx,hs,hcB=>exact absurd hcB (by omega))
 have kn_y2_c1:kn_y2C S w 1:=cyN 0 63 (kn_v2) (fun d g=>(d.1,some g,d.2.2)) (fun g=>.slice (some ⟨g,0,none⟩) 2 2) (fun c_ d wx w' bk hcB hb hm hx hk hz hBl=>by
  have hs:=kn_y2_X c_ d wx w' bk hb hm hx hk
  match c_,hb,hx,hs,hcB with
  | 0,hb,hx,hs,hcB=>exact ⟨hs.1,⟨hs.2.1,(fun g_ hg_=>by obtain rfl:=Option.some.inj hg_; exact ⟨hz,hBl⟩)⟩⟩
  | c_ + 1,hb,hx,hs,hcB=>exact absurd hcB (by omega))
 have kn_y2_c2:kn_y2C S w 2:=cyW (s:=0) (x:=fun d=>Instr.build 119 #[(1,.slice (some ⟨(d.1.getD 0),0,none⟩) 2 2),(2,.slice (some ⟨(d.2.1.getD 0),0,none⟩) 2 2)]) (fun (d:Option Nat × Option Nat × Nat) (_:Unit)=>d) (fun d=>.agg (List.toArray (kn_v1 d))) (fun d wx bk hb hm hx hcame=>by
  obtain rfl:=Option.some.inj hb
  obtain ⟨g1_,hg1_⟩:∃ g_,d.1 = some g_:=Option.isSome_iff_exists.1 (hcame 0 (List.mem_of_getElem? (i:=0) (by kernel_rfl)) (dst_ne (k:=12) (by kernel_rfl)))
  obtain ⟨g2_,hg2_⟩:∃ g_,d.2.1 = some g_:=Option.isSome_iff_exists.1 (hcame 1 (List.mem_of_getElem? (i:=1) (by kernel_rfl)) (dst_ne (k:=13) (by kernel_rfl)))
  obtain ⟨_,hx1,hx2⟩:=hx
  obtain ⟨k1,k2⟩:=hx1 _ hg1_
  obtain ⟨k3,k4⟩:=hx2 _ hg2_
  exact ⟨(),wx,(show (Instr.build 119 #[(1,.slice (some ⟨(d.1.getD 0),0,none⟩) 2 2),(2,.slice (some ⟨(d.2.1.getD 0),0,none⟩) 2 2)]).run Tryz.prog wx = .ok (.agg (List.toArray (kn_v1 d))) wx by kernel_rfl),rfl,⟨⟨by rw [hg1_]; exact k1,by rw [hg1_]; exact k2,by rw [hg2_]; exact k3,by rw [hg2_]; exact k4⟩,trivial⟩,hm,Nat.le_refl _⟩)
 have kn_y2_c3:kn_y2C S w 3:=cyW (s:=1) (x:=fun d=>Instr.box 119 (.agg (List.toArray (kn_v1 d)))) (fun (d:Option Nat × Option Nat × Nat) (g:Nat)=>(d.1,d.2.1,g)) (fun d=>(pt d.2.2 0)) (fun d wx bk hb hm hx hcame=>by
  obtain rfl:=Option.some.inj hb
  obtain ⟨⟨k1,k2,k3,k4⟩,_⟩:=hx
  obtain ⟨w',h1,h2,h3,h4⟩:=run_box (P:=Tryz.prog) wx 119 (.agg (List.toArray (kn_v1 d)))
  exact ⟨wx.heap.size,w',h1,rfl,⟨⟨k1,k2.kept h3 (fun h=>h),k3,k4.kept h3 (fun h=>h)⟩,trivial⟩,hm.adopt (h3.mono (fun _ _ h=>h.elim)) h2 hm.kept.size (fun b hb e=>absurd (hm.blk b hb).lt (by dsimp only at e; omega)),h4⟩)
 have kn_y2_R:∀ e_ ∈ (rZsY 2 [4]:List (RegY (Option Nat × Option Nat × Nat))),kn_y2C S w e_.i:=certsY_reg _ kn_y2_X (fun d=>by kernel_rfl) (by kernel_rfl) (fun d sz=>by kernel_rfl)
 have kn_y2_A:∀ i_,i_ < 5 → kn_y2C S w i_:=allY (l:=[0,1,2,3]) (by kernel_rfl) kn_y2_R ⟨kn_y2_c0,kn_y2_c1,kn_y2_c2,kn_y2_c3,trivial⟩
 refine holds_mixY (Δ:=Option Nat × Option Nat × Nat) (fun _=>False) (kn_y2v) kn_y2F (kn_y2m) (kn_y2X w) [0,2,3,4] (fun d=>[(0,i6 (S:Int)),(2,.pointer none),(3,i6 0),(4,(pt d.2.2 0))]) (fun d=>[⟨d.2.2,119,true,(kn_v1 d)⟩]) (none,none,0) (fun _ h=>h) (by kernel_rfl) (by kernel_rfl) (by kernel_rfl) (fun wx hm=>⟨tI,(fun _ h=>by cases h),(fun _ h=>by cases h)⟩) (by kernel_rfl) kn_y2_A (fun d=>by kernel_rfl) (fun d=>by kernel_rfl) (fun d W1 hfin hX1 hz1 hm1=>?_)
 obtain ⟨gI,hgI⟩:∃ g,d.1 = some g:=Option.isSome_iff_exists.1 (hfin 0 (Nat.le_of_ble_eq_true (by kernel_rfl)) (dst_ne (k:=12) (by kernel_rfl)))
 obtain ⟨gS,hgS⟩:∃ g,d.2.1 = some g:=Option.isSome_iff_exists.1 (hfin 1 (Nat.le_of_ble_eq_true (by kernel_rfl)) (dst_ne (k:=13) (by kernel_rfl)))
 obtain ⟨d1,d2,kb⟩:=d
 dsimp only at hgI hgS
 subst hgI hgS
 obtain ⟨hF1,_⟩:=hX1
 replace hF1:w.heap.size ≤ gI ∧ Blk W1 gI 3 [i6 0,i6 0] ∧ w.heap.size ≤ gS ∧ Blk W1 gS 63 (kn_v2):=hF1
 replace hm1:MemOk w (fun _=>False) (kn_b2 kb gI gS) [] W1.heap.size W1:=hm1
 change Holds _ _ _ _ W1 (Turned (kn_b2 kb gI gS)) _ [.code [1,1,1]] ⟨[(0,i6 (S:Int)),(2,.pointer none),(3,i6 0),(4,(pt kb 0))],(kn_b2 kb gI gS),[],W1.heap.size⟩
 refine hgE 9 [oh0] [0,2,3,4,5] [] [] [.code [1,1,1,0,1,0],.blk 0,.code [1,1,1,1]] ⟨[(0,i6 (S:Int)),(2,.pointer none),(3,i6 0),(4,(pt kb 0)),(5,i6 0)],(kn_b2 kb gI gS),[],W1.heap.size⟩ ?_
 refine holds_loopW (w:=w) (S':=fun _=>False) (KnI S kb gI gS w) S (by kernel_rfl) (fun W0 hm=>⟨⟨0,none,0,_,by omega,by omega,OwnR.nil _ _ _ _,⟨hF1.1,hF1.2.1.kept hm.kept (fun h=>tysIn_not rfl (blk_ty hF1.2.1) (turned_tys hm1 _ h)),hF1.2.2.1,hF1.2.2.2.kept hm.kept (fun h=>tysIn_not rfl (blk_ty hF1.2.2.2) (turned_tys hm1 _ h))⟩,rfl⟩,MemOk.bck hm1 hm⟩) ?_
 rintro m _ W2 ⟨i,A,cp,z,hmi,hin,hO1,hF2,rfl⟩ hm2 J hJ
 have hkb:w.heap.size ≤ kb:=(hm2.own _ (List.mem_of_getElem? (i:=0) rfl) rfl).resolve_left (fun h=>h)
 by_cases h1:i < S
 rotate_left
 ·skip
  refine hgS 18 (dz 7 0) [2,3] [dF (((i:Int):Int) < (S:Int))] [] [.code [1,1,1,1,1]] (kn_b1 i kb gI gS A cp) [] W2.heap.size ?_
  refine hrt [] [(pt kb 0),i6 0] [] ?_
  intro wx hm
  obtain rfl:i = S:=by omega
  exact ⟨kb,gI,gS,A,cp,rfl,hkb,hm.at_ 0 rfl,hO1.keptT hm.kept (turned_tys hm2) rfl,⟨hF2.1,hF2.2.1.kept hm.kept (fun h=>tysIn_not rfl (blk_ty hF2.2.1) (turned_tys hm2 _ h)),hF2.2.2.1,hF2.2.2.2.kept hm.kept (fun h=>tysIn_not rfl (blk_ty hF2.2.2.2) (turned_tys hm2 _ h))⟩,(MemOk.bck hm2 hm).kept⟩
 refine hgE 22 (dz 11 0x1000800001000) [0,2,3,4,5,21,25,27] [dT (((i:Int):Int) < (S:Int))] [(kb,0,1)] [.ops [1,1,1,0,1,0,0,1,0,0] [7,8,9,10],.blk 1,.code [1,1,1,0,1,0,0,1,1],.inv J,.blk 0,.code [1,1,1,1]] ⟨[(0,i6 (S:Int)),(2,.pointer none),(3,i6 0),(4,(pt kb 0)),(5,i6 (i:Int)),(21,(pt kb 0)),(25,.slice A i cp),(27,.slice (some ⟨W2.heap.size,0,none⟩) 1 1)],[⟨kb,119,true,[.slice A i cp,.slice (some ⟨gI,0,none⟩) 2 2,.slice (some ⟨gS,0,none⟩) 2 2]⟩,⟨W2.heap.size,73,true,[i6 0,i6 0,i6 0,i6 (-1)]⟩],[],W2.heap.size + 1⟩ ?_
 have hkl:kb < W2.heap.size:=(hm2.at_ 0 rfl).lt
 refine holds_opV (w:=w) (S':=(fun _=>False)) (Y:=Option Addr × Nat) (dst:=(some 28)) (x:=Builtin.append_ #[116,116] 116 #[.slice A i cp,.slice (some ⟨W2.heap.size,0,none⟩) 1 1]) (fun yq=>.slice yq.1 (i + 1) yq.2) (kn_b1 i kb gI gS A cp) (fun yq W_=>OwnR W_ w.heap.size 73 4 yq.1 (i + 1) yq.2 (flatV LeaM.cells (List.replicate (i + 1) ⟨0,0,0,-1⟩)) ∧ (w.heap.size ≤ gI ∧ Blk W_ gI 3 [i6 0,i6 0] ∧ w.heap.size ≤ gS ∧ Blk W_ gS 63 (kn_v2))) (fun yq=>[(28,.slice yq.1 (i + 1) yq.2),(0,i6 (S:Int)),(2,.pointer none),(3,i6 0),(4,(pt kb 0)),(5,i6 (i:Int)),(21,(pt kb 0)),(25,.slice A i cp),(27,.slice (some ⟨W2.heap.size,0,none⟩) 1 1)]) (by kernel_rfl) (by kernel_rfl) (fun _=>rfl) (fun wx hm=>?_) (fun yq W3 hX3 hm3=>?_)
 ·have hO_:=hO1.keptT hm.kept (turned_tys hm2) rfl
  have hm0:=MemOk.bck hm2 hm
  have hF_:w.heap.size ≤ gI ∧ Blk wx gI 3 [i6 0,i6 0] ∧ w.heap.size ≤ gS ∧ Blk wx gS 63 (kn_v2):=⟨hF2.1,hF2.2.1.kept hm.kept (fun h=>tysIn_not rfl (blk_ty hF2.2.1) (turned_tys hm2 _ h)),hF2.2.2.1,hF2.2.2.2.kept hm.kept (fun h=>tysIn_not rfl (blk_ty hF2.2.2.2) (turned_tys hm2 _ h))⟩
  obtain ⟨A',cp',w',h1,h2,h3,h4⟩:=run_appendR (P:=Tryz.prog) wx w.heap.size 116 116 73 (.agg #[i6 0,i6 0,i6 0,i6 0]) 4 32 A i cp (flatV LeaM.cells (List.replicate i ⟨0,0,0,-1⟩)) ⟨W2.heap.size,0,none⟩ 1 1 [i6 0,i6 0,i6 0,i6 (-1)] (by kernel_rfl) (by kernel_rfl) (by kernel_rfl) (by decide) hO_ rfl (fun j x hj=>by rw [add_norm,Nat.zero_add]; exact (hm.at_ 1 rfl).at_ hj) (ones_all rfl) (by omega) (by decide) hm0.kept.size
  rw [show [i6 0,i6 0,i6 0,i6 (-1)] = LeaM.cells ⟨0,0,0,-1⟩ from rfl,flatV_snoc,← List.replicate_succ'] at h2
  have hT_:=own_tys hO_
  exact ⟨(A',cp'),w',h1,⟨h2,hF_.1,hF_.2.1.kept h3 (fun h=>tysIn_not rfl (blk_ty hF_.2.1) (hT_ _ h)),hF_.2.2.1,hF_.2.2.2.kept h3 (fun h=>tysIn_not rfl (blk_ty hF_.2.2.2) (hT_ _ h))⟩,(hm0.sub (bk':=(kn_b1 i kb gI gS A cp)) (by simp)).offA (fun _ h=>h) h3 (fun y hy=>.inr (hO_.own y hy).1) (off_tys (hm0.sub (bk':=(kn_b1 i kb gI gS A cp)) (by simp)) (own_tys hO_) rfl)⟩
 obtain ⟨A2,cp2⟩:=yq
 obtain ⟨hO3,hF3⟩:=hX3
 refine hgE 13 (dz 6 0x2001000800) [0,2,3,4,5] [n64 (((i:Int) + 1))] [(kb,0,1)] [.inv J,.blk 0,.code [1,1,1,1]] ⟨[(0,i6 (S:Int)),(2,.pointer none),(3,i6 0),(4,(pt kb 0)),(5,i6 ((i:Int) + 1))],[⟨kb,119,true,[.slice A2 (i + 1) cp2,.slice (some ⟨gI,0,none⟩) 2 2,.slice (some ⟨gS,0,none⟩) 2 2]⟩],[],W3.heap.size⟩ ?_
 rw [← cast_succ i]
 intro a_ w9 hf hm
 exact hJ (m - 1) _ a_ w9 (by omega) ⟨i + 1,A2,cp2,_,by omega,by omega,hO3.keptT hm.kept (turned_tys hm3) rfl,⟨hF3.1,hF3.2.1.kept hm.kept (fun h=>tysIn_not rfl (blk_ty hF3.2.1) (turned_tys hm3 _ h)),hF3.2.2.1,hF3.2.2.2.kept hm.kept (fun h=>tysIn_not rfl (blk_ty hF3.2.2.2) (turned_tys hm3 _ h))⟩,rfl⟩ hf (MemOk.bck hm3 hm)
def zer16:ByteArray:=bytesI (List.replicate 16 0)
def sayZ:SayR:=⟨0,0,0,⟨false,0,0,0,⟨#[]⟩,false,0,0,0,⟨#[]⟩⟩⟩
theorem blk_own2 {w:World} {base g:Nat} {e:TypeId} {z:Nat} {cs:List Value} (hb:base ≤ g) (h:Blk w g e cs) (hl:cs.length = 2 * z) (_hz:2 * z ≤ 100:=by omega):OwnR w base e z (some ⟨g,0,none⟩) 2 2 cs:=
 ownR_of (r:=[]) hb (by rw [List.append_nil]; exact h) (Nat.le_refl _) (by simp only [maxLen]; omega) (by omega) (by rw [List.append_nil]; omega)
def zrec:RecM:=⟨true,0,0,0,zer16,false,0,0,0,⟨#[]⟩⟩
structure KeyN (W:World) (b S kb gI gS:Nat) (A:Option Addr) (cp:Nat):Prop where
 h0:b ≤ kb
 h1:Blk W kb 119 [.slice A S cp,.slice (some ⟨gI,0,none⟩) 2 2,.slice (some ⟨gS,0,none⟩) 2 2]
 h2:OwnR W b 73 4 A S cp (flatV LeaM.cells (List.replicate S ⟨0,0,0,-1⟩))
 h3:b ≤ gI
 h4:Blk W gI 3 [i6 0,i6 0]
 h5:b ≤ gS
 h6:Blk W gS 63 [i6 0,i6 0,i6 0,.bool false,i6 0,i6 0,i6 0,sT ⟨#[]⟩,.bool false,i6 0,i6 0,i6 0,sT ⟨#[]⟩,i6 0,i6 0,i6 0,.bool false,i6 0,i6 0,i6 0,sT ⟨#[]⟩,.bool false,i6 0,i6 0,i6 0,sT ⟨#[]⟩]
theorem KeyN.some_ {W:World} {b S kb gI gS:Nat} {A:Option Addr} {cp:Nat} (h:KeyN W b S kb gI gS A cp) (hS:1 ≤ S ∧ S ≤ 8):∃ g,A = some ⟨g,0,none⟩:=by
 obtain ⟨g,h1,_⟩:=OwnR.cell (j:=0) (v:=i6 0) h.h2 (by obtain ⟨m,rfl⟩:∃ m,S = m + 1:=⟨S - 1,by omega⟩; rfl)
 exact ⟨g,h1⟩
theorem byts16z:Byts (List.replicate 16 0):=fun x hx=>by rw [List.eq_of_mem_replicate hx]; decide
theorem tysIn_up {es fs:List TypeId} {w:World} {y:Nat} (h:TysIn es w y) (hs:es.all fs.contains = true):TysIn fs w y:=by
 obtain ⟨e,h1,h2⟩:=h
 exact ⟨e,by have h3:=List.all_eq_true.1 hs e (by simpa using h1); simpa using h3,h2⟩
theorem own_some {W:World} {b S:Nat} {A:Option Addr} {cp:Nat} (h:OwnR W b 61 10 A S cp (flatV RecM.cells (List.replicate S zrec))) (hS:1 ≤ S ∧ S ≤ 8):∃ g,A = some ⟨g,0,none⟩:=by
 obtain ⟨g,h1,_⟩:=OwnR.cell (j:=0) (v:=.bool true) h (by obtain ⟨m,rfl⟩:∃ m,S = m + 1:=⟨S - 1,by omega⟩; rfl)
 exact ⟨g,h1⟩
def rowV2 (S:Nat) (row:Nat → Nat × Nat) (m:Nat):List Value:=[.slice (some ⟨(row m).1,0,none⟩) S (row m).2]
def rowS (row:Nat → Nat × Nat) (n g c:Nat):Nat → Nat × Nat:=fun m=>if m = n then (g,c) else row m
theorem rows_snoc {S n g c:Nat} {row:Nat → Nat × Nat}:flatV (rowV2 S row) (List.range n) ++ [.slice (some ⟨g,0,none⟩) S c] = flatV (rowV2 S (rowS row n g c)) (List.range (n + 1)):=by
 rw [List.range_succ]
 unfold flatV
 rw [List.map_append,List.flatten_append]
 have e1:List.map (rowV2 S row) (List.range n) = List.map (rowV2 S (rowS row n g c)) (List.range n):=by
  apply List.map_congr_left
  intro m hm
  have hm:=List.mem_range.1 hm
  unfold rowV2 rowS
  rw [if_neg (by omega)]
 have e2:[Value.slice (some ⟨g,0,none⟩) S c] = (List.map (rowV2 S (rowS row n g c)) [n]).flatten:=by
  simp [rowV2,rowS]
 rw [e1,e2]
structure NSim (w:World) (S kb gI gS gL cL n:Nat) (row:Nat → Nat × Nat) (b:Nat) (W:World):Prop where
 key:KeyN W w.heap.size S kb gI gS (some ⟨gL,0,none⟩) cL
 rcd:∀ m,m < n → OwnR W w.heap.size 61 10 (some ⟨(row m).1,0,none⟩) S (row m).2 (flatV RecM.cells (List.replicate S zrec))
 one:∀ m m',m < n → m' < n → (row m).1 = (row m').1 → m = m'
 low:kb < b ∧ gI < b ∧ gS < b ∧ gL < b ∧ ∀ m,m < n → (row m).1 < b
theorem NSim.kept {w W W':World} {S kb gI gS gL cL n b:Nat} {row:Nat → Nat × Nat} {T:Nat → Prop} (h:NSim w S kb gI gS gL cL n row b W) (hk:Kept T W W') (hT:∀ y,T y → b ≤ y ∨ TysIn [23,54,83] W y):NSim w S kb gI gS gL cL n row b W':=by
 obtain ⟨l1,l2,l3,l4,l5⟩:=h.low
 have H:∀ {g:Nat} {e:TypeId},g < b → TyIn W e g → ([23,54,83]:List TypeId).contains e = false → ¬ T g:=fun hg ht hn hx=>by
  rcases hT _ hx with h1 | h1
  ·omega
  ·exact tysIn_not hn ht h1
 refine ⟨⟨h.key.h0,h.key.h1.kept hk (H l1 (blk_ty h.key.h1) rfl),h.key.h2.kept hk (fun y hy hx=>?_),h.key.h3,h.key.h4.kept hk (H l2 (blk_ty h.key.h4) rfl),h.key.h5,h.key.h6.kept hk (H l3 (blk_ty h.key.h6) rfl)⟩,fun m hm=>(h.rcd m hm).kept hk (fun y hy hx=>?_),h.one,h.low⟩
 ·have e:=ownS_some y hy
  subst e
  exact H l4 (h.key.h2.ty _ hy) rfl hx
 ·have e:=ownS_some y hy
  subst e
  exact H (l5 m hm) ((h.rcd m hm).ty _ hy) rfl hx
theorem NSim.mono {w W:World} {S kb gI gS gL cL n b b':Nat} {row:Nat → Nat × Nat} (h:NSim w S kb gI gS gL cL n row b W) (hb:b ≤ b'):NSim w S kb gI gS gL cL n row b' W:=by
 obtain ⟨l1,l2,l3,l4,l5⟩:=h.low
 exact { h with low:=⟨by omega,by omega,by omega,by omega,fun m hm=>by have:=l5 m hm; omega⟩ }
theorem NSim.start {w W:World} {S kb gI gS gL cL:Nat} {row:Nat → Nat × Nat} (h:KeyN W w.heap.size S kb gI gS (some ⟨gL,0,none⟩) cL):NSim w S kb gI gS gL cL 0 row W.heap.size W:=
 ⟨h,fun _ h=>absurd h (Nat.not_lt_zero _),fun _ _ h=>absurd h (Nat.not_lt_zero _),h.h1.lt,h.h4.lt,h.h6.lt,(h.h2.own _ ⟨_,rfl,rfl⟩).2,fun _ h=>absurd h (Nat.not_lt_zero _)⟩
theorem NSim.add {w W:World} {S kb gI gS gL cL n b g c:Nat} {row:Nat → Nat × Nat} (h:NSim w S kb gI gS gL cL n row b W) (hb:w.heap.size ≤ b) (hg:OwnR W b 61 10 (some ⟨g,0,none⟩) S c (flatV RecM.cells (List.replicate S zrec))):NSim w S kb gI gS gL cL (n + 1) (rowS row n g c) W.heap.size W:=by
 have hgo:=hg.own _ ⟨_,rfl,rfl⟩
 obtain ⟨l1,l2,l3,l4,l5⟩:=h.low
 have hge:b ≤ g:=hgo.1
 have hgl:g < W.heap.size:=hgo.2
 refine ⟨h.key,fun m hm=>?_,fun m m' hm hm'=>?_,by omega,by omega,by omega,by omega,fun m hm=>?_⟩
 ·unfold rowS
  by_cases e:m = n
  ·simp only [if_pos e]
   exact hg.below hb
  ·simp only [if_neg e]
   exact h.rcd m (by omega)
 ·unfold rowS
  by_cases e:m = n
  ·by_cases e':m' = n
   ·intro _; omega
   ·simp only [if_pos e,if_neg e']
    intro h1
    have:=l5 m' (by omega)
    omega
  ·by_cases e':m' = n
   ·simp only [if_neg e,if_pos e']
    intro h1
    have:=l5 m (by omega)
    omega
   ·simp only [if_neg e,if_neg e']
    exact h.one m m' (by omega) (by omega)
 ·unfold rowS
  by_cases e:m = n
  ·simp only [if_pos e]; omega
  ·simp only [if_neg e]
   have:=l5 m (by omega)
   omega
structure NewS (N S:Nat) (s:SimM):Prop where
 sN:s.N = N
 sS:s.S = S
 recs:s.recs = fun _ _=>zrec
 lea:s.lea = fun _=>⟨0,0,0,-1⟩
 ids:s.ids = [0,0]
 says:s.says = [sayZ,sayZ]
theorem map_const {α:Type} (n:Nat) (x:α):(List.range n).map (fun _=>x) = List.replicate n x:=by simp [List.map_const']
theorem sim_made {w W:World} {N S kb gI gS gL cL sb cp:Nat} {A:Option Addr} {row:Nat → Nat × Nat} (hN:3 ≤ N ∧ N ≤ 6) (h:NSim w S kb gI gS gL cL N row W.heap.size W) (hO:OwnR W w.heap.size 83 1 A N cp (flatV (rowV2 S row) (List.range N))) (hB:Blk W sb 54 [i6 (N:Int),i6 (S:Int),.slice A N cp,.pointer (some ⟨kb,0,none⟩),.slice none 0 0]) (hk:Kept (fun _=>False) w W):∃ s_:SimM,(Ending.returned (.pointer (some ⟨sb,0,none⟩))) = .returned (.pointer (some ⟨s_.sb,0,none⟩)) ∧ SimAt W W.heap.size s_ ∧ (NewS N S s_ ∧ SimLo w.heap.size s_) ∧ Kept (fun _=>False) w W:=by
 obtain ⟨g,rfl,_⟩:=OwnR.cell (j:=0) (v:=.slice (some ⟨(row 0).1,0,none⟩) S (row 0).2) hO (by obtain ⟨m,rfl⟩:∃ m,N = m + 1:=⟨N - 1,by omega⟩; rw [List.range_succ_eq_map]; rfl)
 obtain ⟨l1,l2,l3,l4,l5⟩:=h.low
 have hz:=hk.size
 have z0:∀ {e:TypeId} {z n c:Nat} {B:Option Addr} {cs:List Value},OwnR W w.heap.size e z B n c cs → OwnR W 0 e z B n c cs:=fun h=>h.below (Nat.zero_le _)
 refine ⟨⟨N,S,sb,kb,g,cp,gL,cL,gI,gS,row,fun _ _=>zrec,fun _=>⟨0,0,0,-1⟩,[0,0],[sayZ,sayZ]⟩,rfl,⟨hB,h.key.h1,z0 hO,fun m hm=>?_,h.one,?_,blk_own2 (Nat.zero_le _) h.key.h4 rfl,blk_own2 (Nat.zero_le _) h.key.h6 rfl,hB.lt,l1,(hO.own _ ⟨_,rfl,rfl⟩).2,l4,l2,l3,l5⟩,⟨⟨rfl,rfl,rfl,rfl,rfl,rfl⟩,(h.key.h2.own _ ⟨_,rfl,rfl⟩).1,h.key.h3,h.key.h5,fun n hn=>((h.rcd n hn).own _ ⟨_,rfl,rfl⟩).1⟩,hk⟩
 ·show OwnR W 0 61 10 (some ⟨(row m).1,0,none⟩) S (row m).2 (flatV RecM.cells ((List.range S).map (fun _=>zrec)))
  rw [map_const]
  exact z0 (h.rcd m hm)
 ·show OwnR W 0 73 4 (some ⟨gL,0,none⟩) S cL (flatV LeaM.cells ((List.range S).map (fun _=>(⟨0,0,0,-1⟩:LeaM))))
  rw [map_const]
  exact z0 h.key.h2
section
variable (N S n kb:Nat) (A:Option Addr) (cp:Nat) (w:World)
def nsm_v1:List Value:=[i6 (N:Int),i6 (S:Int),.slice A n cp,(pt kb 0),.slice none 0 0]
def nsm_v2:List Value:=[i6 (N:Int),i6 (S:Int),.slice none 0 0,.pointer none,.slice none 0 0]
def nsm_v3:List Value:=rp 16 (.int .u8 0)
def nsm_n1:List Nat:=[1,1,1,0,1,0,0,1,0,0,1,0,1,0,0,1,0,0]
def nsm_n2:List Nat:=[1,1,1,0,1,0,0,1,0,0,1,1]
def nsm_n3:List Nat:=[1,1,1,0,1,0,0,1,1]
@[simp] def nsm_b1:List Bk:=[⟨w.heap.size,23,true,[i6 (N:Int),i6 (S:Int)]⟩,⟨w.heap.size + 1,54,true,(nsm_v1 N S n kb A cp)⟩]
@[simp] def nsm_b2:List Bk:=[⟨w.heap.size,23,true,[i6 (N:Int),i6 (S:Int)]⟩,⟨w.heap.size + 1,54,true,(nsm_v2 N S)⟩]
end
def NsmI (N:Nat) (S:Nat) (kb:Nat) (gL:Nat) (cL:Nat) (gI:Nat) (gS:Nat) (w:World)  (m:Nat) (st:St) (W0:World):Prop:=
 ∃ (n:Nat) (A:Option Addr) (cp:Nat) (row:Nat → Nat × Nat) (z:Nat),m + n = N ∧ n ≤ N ∧ NSim w S kb gI gS gL cL n row W0.heap.size W0 ∧ OwnR W0 w.heap.size 83 1 A n cp (flatV (rowV2 S row) (List.range n)) ∧ st = ⟨[(1,(pt w.heap.size 0)),(2,.pointer none),(3,(pt (w.heap.size + 1) 0)),(4,i6 (n:Int))],(nsm_b1 N S n kb A cp w),[],z⟩
def NsmK (N:Nat) (S:Nat) (n:Nat) (kb:Nat) (gL:Nat) (cL:Nat) (gI:Nat) (gS:Nat) (A:Option Addr) (cp:Nat) (row:Nat → Nat × Nat) (w:World) (W2:World)  (m:Nat) (st:St) (W0:World):Prop:=
 ∃ (i:Nat) (B:Option Addr) (cb:Nat) (z:Nat),m + i = S ∧ i ≤ S ∧ W2.heap.size ≤ W0.heap.size ∧ NSim w S kb gI gS gL cL n row W2.heap.size W0 ∧ OwnR W0 w.heap.size 83 1 A n cp (flatV (rowV2 S row) (List.range n)) ∧ OwnR W0 W2.heap.size 61 10 B i cb (flatV RecM.cells (List.replicate i zrec)) ∧ st = ⟨[(1,(pt w.heap.size 0)),(2,.pointer none),(3,(pt (w.heap.size + 1) 0)),(4,i6 (n:Int)),(5,.slice B i cb),(6,i6 (i:Int))],(nsm_b1 N S n kb A cp w),[],z⟩
theorem new_sim (N S:Nat) (hN:3 ≤ N ∧ N ≤ 6) (hS:1 ≤ S ∧ S ≤ 8) (w:World) :
  Calls Tryz.prog 9 #[.agg #[i6 (N:Int),i6 (S:Int)]] w (fun e w'=>∃ s_:SimM,e = .returned (.pointer (some ⟨s_.sb,0,none⟩)) ∧ SimAt w' w'.heap.size s_ ∧ (NewS N S s_ ∧ SimLo w.heap.size s_) ∧ Kept (fun _=>False) w w'):=by
 refine cH (S:=(fun _=>False)) (n:=48) Tryz.func9 (MemOk.none w _) ?_
 refine hgE 20 (dz 9 0x101080000002000800) [1,2,3,11,13] [] [(w.heap.size,0,2),(w.heap.size,1,1)] [.ops [1,1,0] [3,4,5,6,7,8,9],.code [1,1,1]] ⟨[(1,(pt w.heap.size 0)),(2,.pointer none),(3,(pt (w.heap.size + 1) 0)),(11,(pt (w.heap.size + 1) 0)),(13,i6 (S:Int))],(nsm_b2 N S w),[],w.heap.size + 2⟩ ?_
 refine holds_callV (w:=w) (S':=(fun _=>False)) (Y:=Nat × Nat × Nat × Option Addr × Nat) (fun yq=>.tuple #[(pt yq.1 0),i6 0]) (fun yq=>(nsm_b2 N S w)) (fun yq W_=>KeyN W_ w.heap.size S yq.1 yq.2.1 yq.2.2.1 yq.2.2.2.1 yq.2.2.2.2) (fun yq=>[(14,.tuple #[(pt yq.1 0),i6 0]),(1,(pt w.heap.size 0)),(2,.pointer none),(3,(pt (w.heap.size + 1) 0)),(11,(pt (w.heap.size + 1) 0)),(13,i6 (S:Int))]) (show _ = some (28,[i6 (S:Int)],some 14,[]) by kernel_rfl) tI (fun _=>rfl) (fun wx hm=>?_) (fun yq W1 hX1 hm1=>?_)
 ·refine (keeper_new S hS wx).mono fun e w' hq=>?_
  obtain ⟨kb,gI,gS,A,cp,h1,h2,h3,h4,h5,h6⟩:=hq
  have hz:=hm.kept.size
  exact ⟨(kb,gI,gS,A,cp),h1,⟨Nat.le_trans hz h2,h3,h4.below hz,Nat.le_trans hz h5.1,h5.2.1,Nat.le_trans hz h5.2.2.1,h5.2.2.2⟩,hm.offA (fun _ h=>h) h6 (fun _ h=>h.elim) (fun b hb h=>h.elim)⟩
 obtain ⟨kb,gI,gS,A,cL⟩:=yq
 replace hX1:KeyN W1 w.heap.size S kb gI gS A cL:=hX1
 obtain ⟨gL,rfl⟩:=hX1.some_ hS
 replace hm1:MemOk w (fun _=>False) (nsm_b2 N S w) [] W1.heap.size W1:=hm1
 change Holds _ _ _ _ W1 (Turned (nsm_b2 N S w)) _ [.ops [1,1,0] [4,5,6,7,8,9],.code [1,1,1]] ⟨[(14,.tuple #[(pt kb 0),i6 0]),(1,(pt w.heap.size 0)),(2,.pointer none),(3,(pt (w.heap.size + 1) 0)),(11,(pt (w.heap.size + 1) 0)),(13,i6 (S:Int))],(nsm_b2 N S w),[],W1.heap.size⟩
 refine hgE 16 (dz 7 0x1031800000) [1,2,3,4] [] [(w.heap.size + 1,3,1)] [.code [1,1,1,0,1,0],.blk 0,.code [1,1,1,1]] ⟨[(1,(pt w.heap.size 0)),(2,.pointer none),(3,(pt (w.heap.size + 1) 0)),(4,i6 0)],[⟨w.heap.size,23,true,[i6 (N:Int),i6 (S:Int)]⟩,⟨w.heap.size + 1,54,true,[i6 (N:Int),i6 (S:Int),.slice none 0 0,(pt kb 0),.slice none 0 0]⟩],[],W1.heap.size⟩ ?_
 refine holds_loopW (w:=w) (S':=fun _=>False) (NsmI N S kb gL cL gI gS w) N (by kernel_rfl) (fun W0 hm=>⟨⟨0,none,0,fun _=>(0,0),_,by omega,by omega,((NSim.start hX1).kept hm.kept (fun y hy=>.inr (tysIn_up (turned_tys hm1 y hy) rfl))).mono hm.kept.size,OwnR.nil _ _ _ _,rfl⟩,MemOk.bck hm1 hm⟩) ?_
 rintro m _ W2 ⟨n,A,cp,row,z,hmi,hin,hN2,hO2,rfl⟩ hm2 J hJ
 have hsbl:w.heap.size + 1 < W2.heap.size:=(hm2.at_ 1 rfl).lt
 have hgl:w.heap.size < W2.heap.size:=(hm2.at_ 0 rfl).lt
 by_cases h1:n < N
 rotate_left
 ·skip
  refine hgS 18 (dz 7 16779264) [2] [dF (((n:Int):Int) < (N:Int))] [(w.heap.size,0,1)] [.code [1,1,1,1,1]] (nsm_b1 N S n kb A cp w) [] W2.heap.size ?_
  refine hrt [] [(pt (w.heap.size + 1) 0)] [] ?_
  intro wx hm
  obtain rfl:n = N:=by omega
  exact sim_made hN ((hN2.kept hm.kept (fun y hy=>.inr (tysIn_up (turned_tys hm2 y hy) rfl))).mono hm.kept.size) (hO2.keptT hm.kept (turned_tys hm2) rfl) (hm.at_ 1 rfl) (MemOk.bck hm2 hm).kept
 refine hgE 25 (dz 7 0x1001000800) [1,2,3,4,5,6] [dT (((n:Int):Int) < (N:Int))] [(w.heap.size,0,1)] [.code [1,1,1,0,1,0,0,1,0,0,1,0,1,0],.blk 2,.code nsm_n2,.blk 1,.code nsm_n3,.inv J,.blk 0,.code [1,1,1,1]] ⟨[(1,(pt w.heap.size 0)),(2,.pointer none),(3,(pt (w.heap.size + 1) 0)),(4,i6 (n:Int)),(5,.slice none 0 0),(6,i6 0)],(nsm_b1 N S n kb A cp w),[],W2.heap.size⟩ ?_
 refine holds_loopW (w:=w) (S':=fun _=>False) (NsmK N S n kb gL cL gI gS A cp row w W2) S (by kernel_rfl) (fun W0 hm=>⟨⟨0,none,0,_,by omega,by omega,hm.kept.size,hN2.kept hm.kept (fun y hy=>.inr (tysIn_up (turned_tys hm2 y hy) rfl)),hO2.keptT hm.kept (turned_tys hm2) rfl,OwnR.nil _ _ _ _,rfl⟩,MemOk.bck hm2 hm⟩) ?_
 rintro m' _ W3 ⟨i,B,cb,z',hmi2,hin2,h23,hN3,hO3,hP3,rfl⟩ hm3 J2 hJ2
 by_cases h2:i < S
 rotate_left
 ·skip
  refine hgE 21 (dz 12 0x1021800000001010800) [1,2,3,4,37,41,43] [dF (((i:Int):Int) < (S:Int))] [(w.heap.size,1,1),(w.heap.size + 1,2,1)] [.ops nsm_n2 [7,8,9,10],.blk 1,.code nsm_n3,.inv J,.blk 0,.code [1,1,1,1]] ⟨[(1,(pt w.heap.size 0)),(2,.pointer none),(3,(pt (w.heap.size + 1) 0)),(4,i6 (n:Int)),(37,(pt (w.heap.size + 1) 0)),(41,.slice A n cp),(43,.slice (some ⟨W3.heap.size,0,none⟩) 1 1)],[⟨w.heap.size,23,true,[i6 (N:Int),i6 (S:Int)]⟩,⟨w.heap.size + 1,54,true,(nsm_v1 N S n kb A cp)⟩,⟨W3.heap.size,83,true,[.slice B i cb]⟩],[],W3.heap.size + 1⟩ ?_
  obtain rfl:S = i:=by omega
  obtain ⟨gB,rfl⟩:∃ g,B = some ⟨g,0,none⟩:=own_some hP3 hS
  have hw2:=hm2.kept.size
  have hw3:=hm3.kept.size
  refine holds_opV (w:=w) (S':=(fun _=>False)) (Y:=Option Addr × Nat) (dst:=(some 44)) (x:=Builtin.append_ #[51,51] 51 #[.slice A n cp,.slice (some ⟨W3.heap.size,0,none⟩) 1 1]) (fun yq=>.slice yq.1 (n + 1) yq.2) (nsm_b1 N S n kb A cp w) (fun yq W_=>W2.heap.size ≤ W_.heap.size ∧ NSim w S kb gI gS gL cL n row W2.heap.size W_ ∧ OwnR W_ W2.heap.size 61 10 (some ⟨gB,0,none⟩) S cb (flatV RecM.cells (List.replicate S zrec)) ∧ OwnR W_ w.heap.size 83 1 yq.1 (n + 1) yq.2 (flatV (rowV2 S (rowS row n gB cb)) (List.range (n + 1)))) (fun yq=>[(44,.slice yq.1 (n + 1) yq.2),(1,(pt w.heap.size 0)),(2,.pointer none),(3,(pt (w.heap.size + 1) 0)),(4,i6 (n:Int)),(37,(pt (w.heap.size + 1) 0)),(41,.slice A n cp),(43,.slice (some ⟨W3.heap.size,0,none⟩) 1 1)]) (by kernel_rfl) (by kernel_rfl) (fun _=>rfl) (fun wx hm=>?_) (fun yq W4 hXa hma=>?_)
  ·have hO_:=hO3.keptT hm.kept (turned_tys hm3) rfl
   have hm0:=MemOk.bck hm3 hm
   have hN_:=hN3.kept hm.kept (fun y hy=>.inr (tysIn_up (turned_tys hm3 y hy) rfl))
   have hP_:=hP3.keptT hm.kept (turned_tys hm3) rfl
   obtain ⟨A',cp',w',h1,h2,h3,h4⟩:=run_appendR (P:=Tryz.prog) wx w.heap.size 51 51 83 (.slice none 0 0) 1 24 A n cp (flatV (rowV2 S row) (List.range n)) ⟨W3.heap.size,0,none⟩ 1 1 [.slice (some ⟨gB,0,none⟩) S cb] (by kernel_rfl) (by kernel_rfl) (by kernel_rfl) (by decide) hO_ rfl (fun j x hj=>by rw [add_norm,Nat.zero_add]; exact (hm.at_ 2 rfl).at_ hj) (ones_all rfl) (by omega) (by decide) (by have:=hm0.kept.size; have:=hm.kept.size; omega)
   rw [rows_snoc] at h2
   have hT_:=own_tys hO_
   exact ⟨(A',cp'),w',h1,⟨Nat.le_trans h23 (Nat.le_trans hm.kept.size h3.size),hN_.kept h3 (fun y hy=>.inr (tysIn_up (hT_ y hy) rfl)),hP_.keptT h3 hT_ rfl,h2⟩,(hm0.sub (bk':=(nsm_b1 N S n kb A cp w)) (by simp)).offA (fun _ h=>h) h3 (fun y hy=>.inr (by have:=(hO_.own y hy).1; have:=hm2.kept.size; omega)) (off_tys (hm0.sub (bk':=(nsm_b1 N S n kb A cp w)) (by simp)) hT_ rfl)⟩
  obtain ⟨A2,cp2⟩:=yq
  obtain ⟨_,hN4,hP4,hO4⟩:=hXa
  refine holds_go (f:=13) (hs:=[oh0,oh0,(oA 1 2 1),oh0,oh2,oh0]) [1,2,3,4] [true,true] (show _ = some (Res.mk [inR .i64 (((n:Int) + 1))] (dupR [(w.heap.size + 1,2,1)]) [.inv J,.blk 0,.code [1,1,1,1]] ⟨[(1,(pt w.heap.size 0)),(2,.pointer none),(3,(pt (w.heap.size + 1) 0)),(4,i6 ((n:Int) + 1))],[⟨w.heap.size,23,true,[i6 (N:Int),i6 (S:Int)]⟩,⟨w.heap.size + 1,54,true,[i6 (N:Int),i6 (S:Int),.slice A2 (n + 1) cp2,(pt kb 0),.slice none 0 0]⟩],[],W4.heap.size⟩) by kernel_rfl) ⟨in64 (by omega),trivial⟩ ?_
  rw [← cast_succ n]
  intro a_ w9 hf hm
  exact hJ (m - 1) _ a_ w9 (by omega) ⟨n + 1,A2,cp2,(rowS row n gB cb),_,by omega,by omega,NSim.add (hN4.kept hm.kept (fun y hy=>.inr (tysIn_up (turned_tys hma y hy) rfl))) (by omega) (hP4.keptT hm.kept (turned_tys hma) rfl),hO4.keptT hm.kept (turned_tys hma) rfl,rfl⟩ hf (MemOk.bck hma hm)
 refine hgE 18 (dz 7 0x1001010800) [1,2,3,4,5,6,31,32] [dT (((i:Int):Int) < (S:Int))] [(w.heap.size,1,1)] [.ops nsm_n1 [2,3,4,5,6],.blk 3,.code [1,1,1,0,1,0,0,1,0,0,1,0,1,0,0,1,1],.inv J2,.blk 2,.code nsm_n2,.blk 1,.code nsm_n3,.inv J,.blk 0,.code [1,1,1,1]] ⟨[(1,(pt w.heap.size 0)),(2,.pointer none),(3,(pt (w.heap.size + 1) 0)),(4,i6 (n:Int)),(5,.slice B i cb),(6,i6 (i:Int)),(31,.slice B i cb),(32,.slice (some ⟨W3.heap.size,0,none⟩) 16 16)],[⟨w.heap.size,23,true,[i6 (N:Int),i6 (S:Int)]⟩,⟨w.heap.size + 1,54,true,(nsm_v1 N S n kb A cp)⟩,⟨W3.heap.size,5,true,(nsm_v3)⟩],[],W3.heap.size + 1⟩ ?_
 refine holds_opR (dst:=(some 33)) (x:=convert 34 9 (.slice (some ⟨W3.heap.size,0,none⟩) 16 16)) (sT zer16) (by kernel_rfl) (by kernel_rfl) rfl (fun wx hm=>?_) ?_
 ·exact run_bytesAt (P:=Tryz.prog) wx 34 9 5 _ _ _ _ _ (List.replicate 16 0) [] [] (by kernel_rfl) (by kernel_rfl) (by kernel_rfl) (hm.at_ 2 rfl) rfl rfl byts16z
 refine hgE 5 (dz 2 0) [1,2,3,4,5,6,31,35] [] [] [.ops nsm_n1 [5,6],.blk 3,.code [1,1,1,0,1,0,0,1,0,0,1,0,1,0,0,1,1],.inv J2,.blk 2,.code nsm_n2,.blk 1,.code nsm_n3,.inv J,.blk 0,.code [1,1,1,1]] ⟨[(1,(pt w.heap.size 0)),(2,.pointer none),(3,(pt (w.heap.size + 1) 0)),(4,i6 (n:Int)),(5,.slice B i cb),(6,i6 (i:Int)),(31,.slice B i cb),(35,.slice (some ⟨W3.heap.size + 1,0,none⟩) 1 1)],[⟨w.heap.size,23,true,[i6 (N:Int),i6 (S:Int)]⟩,⟨w.heap.size + 1,54,true,(nsm_v1 N S n kb A cp)⟩,⟨W3.heap.size,5,true,(nsm_v3)⟩,⟨W3.heap.size + 1,61,true,[.bool true,i6 0,i6 0,i6 0,sT zer16,.bool false,i6 0,i6 0,i6 0,sT ⟨#[]⟩]⟩],[],W3.heap.size + 2⟩ ?_
 have hw2:=hm2.kept.size
 have hw3:=hm3.kept.size
 refine holds_opV (w:=w) (S':=(fun _=>False)) (Y:=Option Addr × Nat) (dst:=(some 36)) (x:=Builtin.append_ #[83,83] 83 #[.slice B i cb,.slice (some ⟨W3.heap.size + 1,0,none⟩) 1 1]) (fun yq=>.slice yq.1 (i + 1) yq.2) (nsm_b1 N S n kb A cp w) (fun yq W_=>W2.heap.size ≤ W_.heap.size ∧ NSim w S kb gI gS gL cL n row W2.heap.size W_ ∧ OwnR W_ w.heap.size 83 1 A n cp (flatV (rowV2 S row) (List.range n)) ∧ OwnR W_ W2.heap.size 61 10 yq.1 (i + 1) yq.2 (flatV RecM.cells (List.replicate (i + 1) zrec))) (fun yq=>[(36,.slice yq.1 (i + 1) yq.2),(1,(pt w.heap.size 0)),(2,.pointer none),(3,(pt (w.heap.size + 1) 0)),(4,i6 (n:Int)),(5,.slice B i cb),(6,i6 (i:Int)),(31,.slice B i cb),(35,.slice (some ⟨W3.heap.size + 1,0,none⟩) 1 1)]) (by kernel_rfl) (by kernel_rfl) (fun _=>rfl) (fun wx hm=>?_) (fun yq W4 hXa hma=>?_)
 ·have hO_:=hP3.keptT hm.kept (turned_tys hm3) rfl
  have hm0:=MemOk.bck hm3 hm
  have hN_:=hN3.kept hm.kept (fun y hy=>.inr (tysIn_up (turned_tys hm3 y hy) rfl))
  have hR_:=hO3.keptT hm.kept (turned_tys hm3) rfl
  obtain ⟨A',cp',w',h1,h2,h3,h4⟩:=run_appendR (P:=Tryz.prog) wx W2.heap.size 83 83 61 (.agg #[.bool false,i6 0,i6 0,i6 0,sT ⟨#[]⟩,.bool false,i6 0,i6 0,i6 0,sT ⟨#[]⟩]) 10 96 B i cb (flatV RecM.cells (List.replicate i zrec)) ⟨W3.heap.size + 1,0,none⟩ 1 1 [.bool true,i6 0,i6 0,i6 0,sT zer16,.bool false,i6 0,i6 0,i6 0,sT ⟨#[]⟩] (by kernel_rfl) (by kernel_rfl) (by kernel_rfl) (by decide) hO_ rfl (fun j x hj=>by rw [add_norm,Nat.zero_add]; exact (hm.at_ 3 rfl).at_ hj) (ones_all rfl) (by omega) (by decide) (by have:=hm0.kept.size; have:=hm.kept.size; omega)
  rw [show [.bool true,i6 0,i6 0,i6 0,sT zer16,.bool false,i6 0,i6 0,i6 0,sT ⟨#[]⟩] = RecM.cells zrec from rfl,flatV_snoc,← List.replicate_succ'] at h2
  have hT_:=own_tys hO_
  exact ⟨(A',cp'),w',h1,⟨Nat.le_trans h23 (Nat.le_trans hm.kept.size h3.size),hN_.kept h3 (fun y hy=>.inl (hO_.own y hy).1),hR_.keptT h3 hT_ rfl,h2⟩,(hm0.sub (bk':=(nsm_b1 N S n kb A cp w)) (by simp)).offA (fun _ h=>h) h3 (fun y hy=>.inr (by have:=(hO_.own y hy).1; have:=hm2.kept.size; omega)) (off_tys (hm0.sub (bk':=(nsm_b1 N S n kb A cp w)) (by simp)) hT_ rfl)⟩
 obtain ⟨A2,cp2⟩:=yq
 obtain ⟨h24,hN4,hR4,hP4⟩:=hXa
 refine holds_go (f:=11) (hs:=[oh0,oh0,oh2,oh0]) [1,2,3,4,5,6] [true,true] (show _ = some (Res.mk [inR .i64 (((i:Int) + 1))] (dupR []) [.inv J2,.blk 2,.code nsm_n2,.blk 1,.code nsm_n3,.inv J,.blk 0,.code [1,1,1,1]] ⟨[(1,(pt w.heap.size 0)),(2,.pointer none),(3,(pt (w.heap.size + 1) 0)),(4,i6 (n:Int)),(5,.slice A2 (i + 1) cp2),(6,i6 ((i:Int) + 1))],(nsm_b1 N S n kb A cp w),[],W4.heap.size⟩) by kernel_rfl) ⟨in64 (by omega),trivial⟩ ?_
 rw [← cast_succ i]
 intro a_ w9 hf hm
 exact hJ2 (m' - 1) _ a_ w9 (by omega) ⟨i + 1,A2,cp2,_,by omega,by omega,Nat.le_trans h24 hm.kept.size,hN4.kept hm.kept (fun y hy=>.inr (tysIn_up (turned_tys hma y hy) rfl)),hR4.keptT hm.kept (turned_tys hma) rfl,hP4.keptT hm.kept (turned_tys hma) rfl,rfl⟩ hf (MemOk.bck hma hm)
end Go.Proofs.YtcmpkkapkdlfhaaGreat
