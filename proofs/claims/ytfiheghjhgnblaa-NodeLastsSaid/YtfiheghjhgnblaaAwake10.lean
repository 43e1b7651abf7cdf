import Derived.Test.YtfiheghjhgnblaaNodeS
import Derived.Test.YtfiheghjhgnblaaNodeA
import Derived.Test.YtfiheghjhgnblaaPlat4
namespace Go.Proofs.Ytfiheghjhgnblaa
open Go.RowKit
def awk_v1:List Value:=[.int .i64 1,.int .i64 0,.int .i64 2] ++ rp 5 (.int .i64 0) ++ [.string ⟨#[]⟩]
def awk_v2:List Value:=[.int .i64 1,.int .i64 2,.int .i64 0,.bool true,.int .i64 2,.int .i64 0,.int .i64 0,.string zeros16,.bool false] ++ rp 3 (.int .i64 0) ++ [.string ⟨#[]⟩]
def awk_v3:List Value:=((awk_v1.set 0 (.int .i64 2)).set 2 (.int .i64 1))
def awk_v4:List Value:=((((awk_v2.set 0 (.int .i64 2)).set 3 (.bool false)).set 4 (.int .i64 0)).set 7 (.string ⟨#[]⟩))
def awk_v5:List Value:=rp 8 (.int .i64 0) ++ [.string ⟨#[]⟩]
def awk_v6:List Value:=((awk_v4.set 0 (.int .i64 6)).set 1 (.int .i64 0))
@[simp] def awk_b1 (pb:Nat) (sb1:Nat) (nb1:Nat):List Bk:=[⟨sb1,82,false,[(pt pb 0),i6 1]⟩,⟨nb1,69,false,[(pt sb1 0),i6 1]⟩]
@[simp] def awk_b2 (pb:Nat) (sb1:Nat) (sb2:Nat) (nb1:Nat) (nb2:Nat) (W4:World):List Bk:=[⟨sb1,82,false,[(pt pb 0),i6 1]⟩,⟨nb1,69,false,[(pt sb1 0),i6 1]⟩,⟨W4.heap.size,45,true,(awk_v2)⟩,⟨sb2,82,false,[(pt pb 0),i6 1]⟩,⟨nb2,69,false,[(pt sb2 0),i6 1]⟩]
@[simp] def awk_b3 (pb:Nat) (sb1:Nat) (sb2:Nat) (nb1:Nat) (nb2:Nat) (W4:World) (W6:World) (z14:Nat):List Bk:=[⟨sb1,82,false,[(pt pb 0),i6 1]⟩,⟨nb1,69,false,[(pt sb1 0),i6 1]⟩,⟨W4.heap.size,45,true,(awk_v2)⟩,⟨sb2,82,false,[(pt pb 0),i6 1]⟩,⟨nb2,69,false,[(pt sb2 0),i6 1]⟩,⟨W6.heap.size,45,true,(awk_v4)⟩,⟨z14,45,true,(awk_v6)⟩]
set_option maxRecDepth 100000 in
set_option maxHeartbeats 4000000 in
theorem awake10P  (w:World) :
  Calls Try.prog 7 #[] w (RetK (.bool true) w):=by
 refine calls_of_holds (S:=(fun _=>False)) (l:=[]) (n:=96) Try.func7 (body_of (by kernel_rfl)) rfl (by simp) (MemOk.none w _) ?_
 refine hgE 9 [oh0] [0] [] [] [.ops [1,0] [0,1,2,3,4,5],.code [1,1]] ⟨[(0,.bool false)],[],[],w.heap.size⟩ ?_
 refine holds_callW (w:=w) (S':=(fun _=>False)) (Y:=Nat × Nat × Nat) (fun (⟨lb,mb,pb⟩:Nat × Nat × Nat)=>.tuple #[(pt pb 0),i6 0]) (fun (⟨lb,mb,pb⟩:Nat × Nat × Nat)=>[]) (fun (⟨lb,mb,pb⟩:Nat × Nat × Nat) W_=>(w.heap.size ≤ lb ∧ lb < mb ∧ mb < pb) ∧ PlatAt 64 80 W_ pb (newPl lb mb 1)) (fun (⟨lb,mb,pb⟩:Nat × Nat × Nat)=>[(17,.tuple #[(pt pb 0),i6 0]),(0,.bool false)]) (show _ = some (8,[i6 1],some 17,[]) by kernel_rfl) tI (fun _=>rfl) (fun wx hm=>?_) (fun y W1 hX1 hm1=>?_)
 ·refine (new_pl 1 (by omega) wx).mono fun e w' ⟨lb',mb',pb',he,h1,h2,h3,h4,h5⟩=>?_
  have hs:wx.heap.size = w.heap.size:=hm.size
  exact ⟨(lb',mb',pb'),he,⟨⟨by omega,h2,h3⟩,h4⟩,(hm.same h5).2⟩
 obtain ⟨lb,mb,pb⟩:=y
 obtain ⟨hz_pb,hX1⟩:=hX1
 have hA_pb:=on_new lb mb 1
 have hP1pb:=hX1
 have hl_hP1pb:=on_lt hA_pb hP1pb
 have hnT:∀ xx,(xx = pb ∨ xx = lb ∨ xx = mb) → ¬ Turned [] xx:=by
  rintro xx hx2 ⟨b,hb,hr,he⟩
  simp at hb
 refine hgE 12 [oh0,oh0,oh0,oh0,oh0,oh0] [0,1,21] [] [] [.ops [1,1,0] [1,2,3,4,5,6],.code [1,1,1]] ⟨[(0,.bool false),(1,(pt pb 0)),(21,(pt pb 0))],[],[],W1.heap.size⟩ ?_
 refine holds_callW (w:=w) (S':=(fun _=>False)) (Y:=Nat × Nat) (fun (⟨sb1,nb1⟩:Nat × Nat)=>.tuple #[(pt nb1 0),i6 0]) (fun (⟨sb1,nb1⟩:Nat × Nat)=>(awk_b1 pb sb1 nb1)) (fun (⟨sb1,nb1⟩:Nat × Nat) W_=>(W1.heap.size ≤ sb1 ∧ sb1 < nb1) ∧ PlatAt 64 80 W_ pb (newPl lb mb 1)) (fun (⟨sb1,nb1⟩:Nat × Nat)=>[(22,.tuple #[(pt nb1 0),i6 0]),(0,.bool false),(1,(pt pb 0)),(21,(pt pb 0))]) (show _ = some (9,[(pt pb 0),i6 1],some 22,[]) by kernel_rfl) tI (fun _=>rfl) (fun wx hm=>?_) (fun y W2 hX2 hm2=>?_)
 ·refine (nodeNew_st (newPl lb mb 1) pb 1 (by omega) (by rw [hA_pb.n]; omega) wx (hP1pb.kept hm.kept (fun xx hx=>hnT xx (by have:=on_mine hA_pb hx; omega)))).mono fun e w' ⟨sb',nb',he,h1,h2,h3,h4,h5⟩=>?_
  have hs:wx.heap.size = W1.heap.size:=hm.size
  exact ⟨(sb',nb'),he,⟨⟨by omega,h2⟩,(hP1pb.kept hm.kept (fun xx hx=>hnT xx (by have:=on_mine hA_pb hx; omega))).kept h5 (fun _ _ h=>h)⟩,((MemOk.back2 hm1 hm).add h5 [⟨sb',82,false,_⟩,⟨nb',69,false,_⟩] ⟨h3,h4,trivial⟩ (by simp; omega) (by simp; omega)).2⟩
 clear hnT
 obtain ⟨sb1,nb1⟩:=y
 obtain ⟨hz_nb1,hX2⟩:=hX2
 have hP2pb:=hX2
 have hl_hP2pb:=on_lt hA_pb hP2pb
 have hgb2_0:sb1 < W2.heap.size:=(hm2.at_ 0 rfl).lt
 have hgb2_1:nb1 < W2.heap.size:=(hm2.at_ 1 rfl).lt
 have hnT:∀ xx,(xx = pb ∨ xx = lb ∨ xx = mb) → ¬ Turned (awk_b1 pb sb1 nb1) xx:=by
  rintro xx hx2 ⟨b,hb,hr,he⟩
  simp at hb
  rcases hb with rfl | rfl <;> simp at he hr <;> omega
 refine hgE 24 [oh0,oh0,oh0,oh0,oh0,oh0,oh0,oh0,oh0,oh0,⟨false,3,[]⟩,oh0,oh0] [0,1,3,31] [fF,fF,fF,fF] [] [.ops [1,1,1,1,0] [1,2],.code [1,1,1,1,1]] ⟨[(0,.bool false),(1,(pt pb 0)),(3,(pt nb1 0)),(31,(pt nb1 0))],(awk_b1 pb sb1 nb1),[],W2.heap.size⟩ ?_
 obtain ⟨hA_f,hK_f,hG_f⟩:=on_fmt hA_pb hP2pb.ok (by omega) 1 (by omega)
 have hnB:∀ b ∈ ((awk_b1 pb sb1 nb1):List Bk),¬ (b.g = pb ∨ b.g = lb ∨ b.g = mb):=by
  intro b hb hx2
  simp at hb
  rcases hb with rfl | rfl <;> simp at hx2 <;> omega
 refine holds_callW (w:=w) (S':=(fun _=>False)) (Y:=Nat) (fun _=>i6 0) (fun _=>(awk_b1 pb sb1 nb1)) (fun _ W_=>PlatAt 64 80 W_ pb (fmtPl (newPl lb mb 1) 1)) (fun _=>[(32,i6 0),(0,.bool false),(1,(pt pb 0)),(3,(pt nb1 0)),(31,(pt nb1 0))]) (show _ = some (10,[(pt nb1 0)],some 32,[]) by kernel_rfl) tI (fun _=>rfl) (fun wx hm=>?_) (fun _ W3 hX3 hm3=>?_)
 ·refine (nodeFormat_pl (newPl lb mb 1) pb sb1 nb1 1 lb mb 0 (by omega) hA_pb (by omega) (fun h=>by have:=on_mine hA_pb h; omega) (fun h=>by have:=on_mine hA_pb h; omega) (by omega) wx (hP2pb.kept hm.kept (fun xx hx=>hnT xx (by have:=on_mine hA_pb hx; omega))) (hm.at_ 0 rfl) (hm.at_ 1 rfl)).mono fun e w' ⟨h1,h2,h3⟩=>?_
  exact ⟨0,h1,h2,(MemOk.back2 hm2 hm).off (fun _ h=>h) h3 (fun x h=>.inr (by have:=on_mine hA_pb h; omega)) (fun b hb h=>hnB b hb (by have:=on_mine hA_pb h; omega))⟩
 clear hnT hnB
 have hP3pb:=hX3
 have hl_hP3pb:=on_lt hA_f hP3pb
 have hgb3_0:sb1 < W3.heap.size:=(hm3.at_ 0 rfl).lt
 have hgb3_1:nb1 < W3.heap.size:=(hm3.at_ 1 rfl).lt
 have hnT:∀ xx,(xx = pb ∨ xx = lb ∨ xx = mb) → ¬ Turned (awk_b1 pb sb1 nb1) xx:=by
  rintro xx hx2 ⟨b,hb,hr,he⟩
  simp at hb
  rcases hb with rfl | rfl <;> simp at he hr <;> omega
 refine hgE 9 [oh0,oh0,oh0] [0,1,5,34,35] [] [] [.ops [1,1,1,1,1,0] [2,3,4,5,6,7,8],.code [1,1,1,1,1,1]] ⟨[(0,.bool false),(1,(pt pb 0)),(5,i6 0),(34,(pt nb1 0)),(35,.agg (List.toArray (awk_v1)))],(awk_b1 pb sb1 nb1),[],W3.heap.size⟩ ?_
 have hQ1:AskOk (⟨1,0,2,0,0,0,0,0,(⟨#[]⟩)⟩:AskM):=⟨by decide,by decide,(fun _=>by decide),(fun h=>absurd h (by decide)),(fun h=>absurd h (by decide)),(fun _=>rfl),(fun h=>absurd h (by decide)),(fun h=>absurd h (by decide)),(fun _=>rfl),(fun h=>absurd h (by decide)),(fun _=>rfl),(fun h=>absurd h (by decide)),(fun _=>⟨rfl,rfl⟩),(fun h=>absurd h (by decide)),(fun _=>rfl)⟩
 obtain ⟨hA_s1,hO_s1,hS_s1,hG_s1⟩:=on_serv hA_f hP3pb.ok hQ1
 have hg0:gotM (fmtPl (newPl lb mb 1) 1) 0 = fmtR:=hG_f 0 (by omega)
 have hs1:servS (fmtPl (newPl lb mb 1) 1) (⟨1,0,2,0,0,0,0,0,(⟨#[]⟩)⟩:AskM) = ⟨1,2,0,⟨true,2,0,0,zeros16,false,0,0,0,noText⟩⟩:=by
  rw [hS_s1]
  show (applyM (gotM (fmtPl (newPl lb mb 1) 1) 0) _).2 = _
  rw [hg0]
  rfl
 have hnB:∀ b ∈ ((awk_b1 pb sb1 nb1):List Bk),¬ (b.g = pb ∨ b.g = lb ∨ b.g = mb):=by
  intro b hb hx2
  simp at hb
  rcases hb with rfl | rfl <;> simp at hx2 <;> omega
 refine holds_callW (w:=w) (S':=(fun _=>False)) (Y:=Nat) (fun _=>.tuple #[.agg (List.toArray (awk_v2)),.bool true]) (fun _=>(awk_b1 pb sb1 nb1)) (fun _ W_=>PlatAt 64 80 W_ pb (servPl (fmtPl (newPl lb mb 1) 1) (⟨1,0,2,0,0,0,0,0,(⟨#[]⟩)⟩:AskM))) (fun _=>[(36,.tuple #[.agg (List.toArray (awk_v2)),.bool true]),(0,.bool false),(1,(pt pb 0)),(5,i6 0),(34,(pt nb1 0)),(35,.agg (List.toArray (awk_v1)))]) (show _ = some (12,[(pt nb1 0),.agg (List.toArray (awk_v1))],some 36,[]) by kernel_rfl) tI (fun _=>rfl) (fun wx hm=>?_) (fun _ W4 hX4 hm4=>?_)
 ·refine (serve_pl (fmtPl (newPl lb mb 1) 1) pb sb1 nb1 1 (⟨1,0,2,0,0,0,0,0,(⟨#[]⟩)⟩:AskM) hQ1 (by decide) (by rw [hA_f.n]; decide) hA_f.off (by have:=hA_f.acts; omega) (fun h=>by have:=on_mine hA_f h; omega) (fun h=>by have:=on_mine hA_f h; omega) (by omega) wx (hP3pb.kept hm.kept (fun xx hx=>hnT xx (by have:=on_mine hA_f hx; omega))) (hm.at_ 0 rfl) (hm.at_ 1 rfl)).mono fun e w' ⟨h1,h2,h3⟩=>?_
  rw [hO_s1,hs1] at h1
  exact ⟨0,h1,h2,(MemOk.back2 hm3 hm).off (fun _ h=>h) h3 (fun x h=>.inr (by have:=on_mine hA_f h; omega)) (fun b hb h=>hnB b hb (by have:=on_mine hA_f h; omega))⟩
 clear hnT hnB
 have hP4pb:=hX4
 have hl_hP4pb:=on_lt hA_s1 hP4pb
 have hgb4_0:sb1 < W4.heap.size:=(hm4.at_ 0 rfl).lt
 have hgb4_1:nb1 < W4.heap.size:=(hm4.at_ 1 rfl).lt
 have hnT:∀ xx,(xx = pb ∨ xx = lb ∨ xx = mb) → ¬ Turned (awk_b1 pb sb1 nb1) xx:=by
  rintro xx hx2 ⟨b,hb,hr,he⟩
  simp at hb
  rcases hb with rfl | rfl <;> simp at he hr <;> omega
 refine hgE 13 [oh0,oh0,oh0,oh0,(oA 2 0 13),oh0,oh0] [0,5,6,7,40] [] [(W4.heap.size,0,13)] [.ops [1,1,1,1,1,1,0] [1,2,3,4,5,6],.code [1,1,1,1,1,1,1]] ⟨[(0,.bool false),(5,i6 0),(6,(pt W4.heap.size 0)),(7,.bool true),(40,(pt pb 0))],[⟨sb1,82,false,[(pt pb 0),i6 1]⟩,⟨nb1,69,false,[(pt sb1 0),i6 1]⟩,⟨W4.heap.size,45,true,(awk_v2)⟩],[],W4.heap.size + 1⟩ ?_
 refine holds_callW (w:=w) (S':=(fun _=>False)) (Y:=Nat × Nat) (fun (⟨sb2,nb2⟩:Nat × Nat)=>.tuple #[(pt nb2 0),i6 0]) (fun (⟨sb2,nb2⟩:Nat × Nat)=>(awk_b2 pb sb1 sb2 nb1 nb2 W4)) (fun (⟨sb2,nb2⟩:Nat × Nat) W_=>(W4.heap.size + 1 ≤ sb2 ∧ sb2 < nb2) ∧ PlatAt 64 80 W_ pb (servPl (fmtPl (newPl lb mb 1) 1) (⟨1,0,2,0,0,0,0,0,(⟨#[]⟩)⟩:AskM))) (fun (⟨sb2,nb2⟩:Nat × Nat)=>[(41,.tuple #[(pt nb2 0),i6 0]),(0,.bool false),(5,i6 0),(6,(pt W4.heap.size 0)),(7,.bool true),(40,(pt pb 0))]) (show _ = some (9,[(pt pb 0),i6 1],some 41,[]) by kernel_rfl) tI (fun _=>rfl) (fun wx hm=>?_) (fun y W5 hX5 hm5=>?_)
 ·refine (nodeNew_st (servPl (fmtPl (newPl lb mb 1) 1) (⟨1,0,2,0,0,0,0,0,(⟨#[]⟩)⟩:AskM)) pb 1 (by omega) (by rw [hA_s1.n]; omega) wx (hP4pb.kept hm.kept (fun xx hx=>hnT xx (by have:=on_mine hA_s1 hx; omega)))).mono fun e w' ⟨sb',nb',he,h1,h2,h3,h4,h5⟩=>?_
  have hs:wx.heap.size = W4.heap.size + 1:=hm.size
  exact ⟨(sb',nb'),he,⟨⟨by omega,h2⟩,(hP4pb.kept hm.kept (fun xx hx=>hnT xx (by have:=on_mine hA_s1 hx; omega))).kept h5 (fun _ _ h=>h)⟩,((MemOk.back2 hm4 hm).add h5 [⟨sb',82,false,_⟩,⟨nb',69,false,_⟩] ⟨h3,h4,trivial⟩ (by simp; omega) (by simp; omega)).2⟩
 clear hnT
 obtain ⟨sb2,nb2⟩:=y
 obtain ⟨hz_nb2,hX5⟩:=hX5
 have hP5pb:=hX5
 have hl_hP5pb:=on_lt hA_s1 hP5pb
 have hgb5_0:sb1 < W5.heap.size:=(hm5.at_ 0 rfl).lt
 have hgb5_1:nb1 < W5.heap.size:=(hm5.at_ 1 rfl).lt
 have hgb5_2:W4.heap.size < W5.heap.size:=(hm5.at_ 2 rfl).lt
 have hgb5_3:sb2 < W5.heap.size:=(hm5.at_ 3 rfl).lt
 have hgb5_4:nb2 < W5.heap.size:=(hm5.at_ 4 rfl).lt
 have hnT:∀ xx,(xx = pb ∨ xx = lb ∨ xx = mb) → ¬ Turned (awk_b2 pb sb1 sb2 nb1 nb2 W4) xx:=by
  rintro xx hx2 ⟨b,hb,hr,he⟩
  simp at hb
  rcases hb with rfl | rfl | rfl | rfl | rfl <;> simp at he hr <;> omega
 refine hgE 25 [oh0,oh0,oh0,oh0,oh0,oh0,oh0,oh0,oh0,oh0,⟨false,3,[]⟩,oh0,oh0,oh0] [0,5,6,7,8,51,52] [fF,fF,fF,fF] [] [.ops [1,1,1,1,1,1,1,1,0] [2,3,4,5,6,7,8],.code [1,1,1,1,1,1,1,1,1]] ⟨[(0,.bool false),(5,i6 0),(6,(pt W4.heap.size 0)),(7,.bool true),(8,(pt nb2 0)),(51,(pt nb2 0)),(52,.agg (List.toArray (awk_v3)))],(awk_b2 pb sb1 sb2 nb1 nb2 W4),[],W5.heap.size⟩ ?_
 have hQ2:AskOk (⟨2,0,1,0,0,0,0,0,(⟨#[]⟩)⟩:AskM):=⟨by decide,by decide,(fun _=>by decide),(fun h=>absurd h (by decide)),(fun h=>absurd h (by decide)),(fun _=>rfl),(fun h=>absurd h (by decide)),(fun h=>absurd h (by decide)),(fun _=>rfl),(fun h=>absurd h (by decide)),(fun _=>rfl),(fun h=>absurd h (by decide)),(fun _=>⟨rfl,rfl⟩),(fun h=>absurd h (by decide)),(fun _=>rfl)⟩
 obtain ⟨hA_s2,hO_s2,hS_s2,hG_s2⟩:=on_serv hA_s1 hP5pb.ok hQ2
 have hg1:gotM (servPl (fmtPl (newPl lb mb 1) 1) (⟨1,0,2,0,0,0,0,0,(⟨#[]⟩)⟩:AskM)) 0 = ⟨true,2,0,0,zeros16,false,0,0,0,noText⟩:=by
  rw [hG_s1 0 (by omega),if_pos rfl]
  unfold behM
  show (applyM (gotM (fmtPl (newPl lb mb 1) 1) 0) _).1 = _
  rw [hg0]
  rfl
 have hs2:servS (servPl (fmtPl (newPl lb mb 1) 1) (⟨1,0,2,0,0,0,0,0,(⟨#[]⟩)⟩:AskM)) (⟨2,0,1,0,0,0,0,0,(⟨#[]⟩)⟩:AskM) = ⟨2,2,0,blankR 0⟩:=by
  rw [hS_s2]
  show (applyM (gotM (servPl (fmtPl (newPl lb mb 1) 1) (⟨1,0,2,0,0,0,0,0,(⟨#[]⟩)⟩:AskM)) 0) _).2 = _
  rw [hg1]
  rfl
 have hnB:∀ b ∈ ((awk_b2 pb sb1 sb2 nb1 nb2 W4):List Bk),¬ (b.g = pb ∨ b.g = lb ∨ b.g = mb):=by
  intro b hb hx2
  simp at hb
  rcases hb with rfl | rfl | rfl | rfl | rfl <;> simp at hx2 <;> omega
 refine holds_callW (w:=w) (S':=(fun _=>False)) (Y:=Nat) (fun _=>.tuple #[.agg (List.toArray (awk_v4)),.bool true]) (fun _=>(awk_b2 pb sb1 sb2 nb1 nb2 W4)) (fun _ W_=>PlatAt 64 80 W_ pb (servPl (servPl (fmtPl (newPl lb mb 1) 1) (⟨1,0,2,0,0,0,0,0,(⟨#[]⟩)⟩:AskM)) (⟨2,0,1,0,0,0,0,0,(⟨#[]⟩)⟩:AskM))) (fun _=>[(53,.tuple #[.agg (List.toArray (awk_v4)),.bool true]),(0,.bool false),(5,i6 0),(6,(pt W4.heap.size 0)),(7,.bool true),(8,(pt nb2 0)),(51,(pt nb2 0)),(52,.agg (List.toArray (awk_v3)))]) (show _ = some (12,[(pt nb2 0),.agg (List.toArray (awk_v3))],some 53,[]) by kernel_rfl) tI (fun _=>rfl) (fun wx hm=>?_) (fun _ W6 hX6 hm6=>?_)
 ·refine (serve_pl (servPl (fmtPl (newPl lb mb 1) 1) (⟨1,0,2,0,0,0,0,0,(⟨#[]⟩)⟩:AskM)) pb sb2 nb2 1 (⟨2,0,1,0,0,0,0,0,(⟨#[]⟩)⟩:AskM) hQ2 (by decide) (by rw [hA_s1.n]; decide) hA_s1.off (by have:=hA_s1.acts; omega) (fun h=>by have:=on_mine hA_s1 h; omega) (fun h=>by have:=on_mine hA_s1 h; omega) (by omega) wx (hP5pb.kept hm.kept (fun xx hx=>hnT xx (by have:=on_mine hA_s1 hx; omega))) (hm.at_ 3 rfl) (hm.at_ 4 rfl)).mono fun e w' ⟨h1,h2,h3⟩=>?_
  rw [hO_s2,hs2] at h1
  exact ⟨0,h1,h2,(MemOk.back2 hm5 hm).off (fun _ h=>h) h3 (fun x h=>.inr (by have:=on_mine hA_s1 h; omega)) (fun b hb h=>hnB b hb (by have:=on_mine hA_s1 h; omega))⟩
 clear hnT hnB
 have hP6pb:=hX6
 have hl_hP6pb:=on_lt hA_s2 hP6pb
 have hgb6_0:sb1 < W6.heap.size:=(hm6.at_ 0 rfl).lt
 have hgb6_1:nb1 < W6.heap.size:=(hm6.at_ 1 rfl).lt
 have hgb6_2:W4.heap.size < W6.heap.size:=(hm6.at_ 2 rfl).lt
 have hgb6_3:sb2 < W6.heap.size:=(hm6.at_ 3 rfl).lt
 have hgb6_4:nb2 < W6.heap.size:=(hm6.at_ 4 rfl).lt
 have hnT:∀ xx,(xx = pb ∨ xx = lb ∨ xx = mb) → ¬ Turned (awk_b2 pb sb1 sb2 nb1 nb2 W4) xx:=by
  rintro xx hx2 ⟨b,hb,hr,he⟩
  simp at hb
  rcases hb with rfl | rfl | rfl | rfl | rfl <;> simp at he hr <;> omega
 refine hgE 14 [oh0,oh0,oh0,oh0,(oA 5 0 13),oh0,oh0,oh0] [0,5,6,7,10,11,57,58] [] [(W6.heap.size,0,13)] [.ops [1,1,1,1,1,1,1,1,1,0] [2,3,4,5,6,7,8],.code [1,1,1,1,1,1,1,1,1,1]] ⟨[(0,.bool false),(5,i6 0),(6,(pt W4.heap.size 0)),(7,.bool true),(10,(pt W6.heap.size 0)),(11,.bool true),(57,(pt nb2 0)),(58,.agg (List.toArray (awk_v5)))],[⟨sb1,82,false,[(pt pb 0),i6 1]⟩,⟨nb1,69,false,[(pt sb1 0),i6 1]⟩,⟨W4.heap.size,45,true,(awk_v2)⟩,⟨sb2,82,false,[(pt pb 0),i6 1]⟩,⟨nb2,69,false,[(pt sb2 0),i6 1]⟩,⟨W6.heap.size,45,true,(awk_v4)⟩],[],W6.heap.size + 1⟩ ?_
 refine hcp (.tuple #[.agg (List.toArray (awk_v6)),.bool true]) 12 [(pt nb2 0),.agg (List.toArray (awk_v5))] (some 59) [] tI rfl (fun wx hm=>serve_zero pb sb2 nb2 1 (by omega) wx (hm.at_ 3 rfl) (hm.at_ 4 rfl)) fun z14 hz14=>?_
 replace hz14:W6.heap.size + 1 ≤ z14:=hz14
 refine hgE 12 [oh0,oh0,oh0,oh0,(oA 6 0 13),oh0] [0,5,6,7,10,11,12,13] [] [(z14,0,13)] [.ops [1,1,1,1,1,1,1,1,1,1,0] [0,1,2,3,4,5],.code [1,1,1,1,1,1,1,1,1,1,1]] ⟨[(0,.bool false),(5,i6 0),(6,(pt W4.heap.size 0)),(7,.bool true),(10,(pt W6.heap.size 0)),(11,.bool true),(12,(pt z14 0)),(13,.bool true)],(awk_b3 pb sb1 sb2 nb1 nb2 W4 W6 z14),[],z14 + 1⟩ ?_
 refine hcp (.tuple #[.pointer none,i6 1]) 9 [.pointer none,i6 1] (some 63) [] tI rfl (fun wx hm=>nodeNew_nil wx) fun z16 hz16=>?_
 replace hz16:z14 + 1 ≤ z16:=hz16
 refine hgE 43 [oh0,oh0,oh0,oh0,oh0,oh0,oh0,oh0,oh1,⟨true,0,[⟨false,2,0,1⟩]⟩,oh1,oh3,oh0,oh1,oh3,oh0,⟨true,0,[⟨false,5,0,13⟩]⟩,oh1,⟨true,1,[]⟩,oh3,oh0,oh1,oh3,oh0,⟨true,0,[⟨false,6,0,13⟩]⟩,oh1,⟨true,1,[]⟩,oh3,oh0,oh1,oh3,oh0,oh1,oh1,oh3,oh0] [0] [tT,tT,tT,tT,tT,tT,tT,tT,tT,vV,tT,tT,tT,tT,tT,tT,vV,tT,tT,tT,tT,tT,tT] [(W4.heap.size,0,1),(W6.heap.size,0,13),(z14,0,13)] [.code [1,1,1,1,1,1,1,1,1,1,1,1]] ⟨[(0,.bool true)],(awk_b3 pb sb1 sb2 nb1 nb2 W4 W6 z14),[],z16⟩ ?_
 refine hrt [] [.bool true] [] ?_
 intro wx hm
 exact ⟨rfl,(MemOk.back2 hm6 hm).kept⟩
end Go.Proofs.Ytfiheghjhgnblaa
