import Derived.Test.YtfiheghjhgnblaaAwake10
import Derived.Test.YtfiheghjhgnblaaRefAp
import Derived.Test.YtfiheghjhgnblaaPlat5
import Derived.Test.YtfiheghjhgnblaaSortX
import Derived.Test.YtfiheghjhgnblaaPickZ
namespace Go.Proofs.Ytfiheghjhgnblaa
open Go.RowKit
set_option maxRecDepth 100000 in
set_option maxHeartbeats 4000000 in
theorem pick10_n (c n v:Int) (h:pickZ c n = v) (hc:c < 0) (h1:1 ≤ n) (h2:n ≤ 9223372036854775807) (h3:-9223372036854775808 ≤ c ∧ c ≤ 9223372036854775807) (w:World) :
  Calls Try.prog 14 #[.int .i64 c,.int .i64 n] w (RetK (.int .i64 v) w):=by
 refine calls_of_holds (S:=(fun _=>False)) (l:=[.int .i64 c,.int .i64 n]) (n:=13) Try.func14 (body_of (by kernel_rfl)) rfl (by simp) (MemOk.none w _) ?_
 refine hgE 27 [oh0,oh0,oh0,oh1,oh0,oh2,oh2,oh0,oh0,oh0,oh2,oh0] [4] [oE ((decide ((c:Int) < 0)) = true) (decide_eq_true hc),n64 ((c + 1)),n64 ((0 - (c + 1))),oE ((0:Int) ≤ (0 - (c + 1)) ∧ (0:Int) < n)] [] [.code [1,1,1]] ⟨[(4,i6 ((0 - (c + 1)) % n))],[],[],w.heap.size⟩ ?_
 refine hrt [] [i6 ((0 - (c + 1)) % n)] [] ?_
 intro wx hm
 refine ⟨?_,hm.kept⟩
 subst h
 simp only [oneOf,pickZ,if_pos hc]
 congr 3
 omega
set_option maxRecDepth 100000 in
set_option maxHeartbeats 4000000 in
theorem pick10_p (c n v:Int) (h:pickZ c n = v) (hc:¬ c < 0) (h1:1 ≤ n) (h2:n ≤ 9223372036854775807) (h3:-9223372036854775808 ≤ c ∧ c ≤ 9223372036854775807) (w:World) :
  Calls Try.prog 14 #[.int .i64 c,.int .i64 n] w (RetK (.int .i64 v) w):=by
 refine calls_of_holds (S:=(fun _=>False)) (l:=[.int .i64 c,.int .i64 n]) (n:=13) Try.func14 (body_of (by kernel_rfl)) rfl (by simp) (MemOk.none w _) ?_
 refine hgE 22 [oh0,oh0,oh0,oh0,oh0,oh0,oh2,oh0] [4] [dF ((c:Int) < 0),oE ((0:Int) ≤ c ∧ (0:Int) < n)] [] [.code [1,1,1]] ⟨[(4,i6 (c % n))],[],[],w.heap.size⟩ ?_
 refine hrt [] [i6 (c % n)] [] ?_
 intro wx hm
 refine ⟨?_,hm.kept⟩
 subst h
 simp only [oneOf,pickZ,if_neg hc]
theorem pick10 (c n v:Int) (h:pickZ c n = v) (w:World) (h1:1 ≤ n) (h2:n ≤ 9223372036854775807) (h3:-9223372036854775808 ≤ c ∧ c ≤ 9223372036854775807):Calls Try.prog 14 #[.int .i64 c,.int .i64 n] w (RetK (.int .i64 v) w):=by
 by_cases hc:c < 0
 ·exact pick10_n c n v h hc h1 h2 h3 w
 ·exact pick10_p c n v h hc h1 h2 h3 w
def nla_v1 (r:RecM):List Value:=[.bool r.used,i6 r.fence,i6 r.de,i6 r.ds,sT r.block,.bool r.op,i6 r.ie,i6 r.is,i6 r.mask,sT r.staged]
def nla_v2:List Value:=rp 16 (.int .u8 0)
def nla_v3:List Value:=[.bool true] ++ rp 3 (.int .i64 0) ++ [.string zeros16,.bool false] ++ rp 3 (.int .i64 0) ++ [.string ⟨#[]⟩]
def nla_v4 (acts:Nat → Act10) (i:Nat):List Value:=[i6 ((acts i).ask.kind),i6 ((acts i).ask.stripe),i6 ((acts i).ask.epoch),i6 ((acts i).ask.seq),i6 ((acts i).ask.mask),i6 ((acts i).ask.node),i6 ((acts i).ask.oe),i6 ((acts i).ask.os),sT ((acts i).ask.block)]
def nla_v5 (acts:Nat → Act10) (i:Nat):List Value:=[i6 ((acts i).what),i6 ((acts i).stripe),i6 ((acts i).n),i6 ((acts i).ask.kind),i6 ((acts i).ask.stripe),i6 ((acts i).ask.epoch),i6 ((acts i).ask.seq),i6 ((acts i).ask.mask),i6 ((acts i).ask.node),i6 ((acts i).ask.oe),i6 ((acts i).ask.os),sT ((acts i).ask.block),sT ((acts i).text),.slice (acts i).ka ((acts i).kn) ((acts i).kc)]
def nla_v6 (q:AskM):List Value:=[i6 q.kind,i6 0,i6 q.epoch,i6 q.seq,i6 q.mask,i6 q.node,i6 q.oe,i6 q.os,sT q.block]
def nla_v7 (x:RecM):List Value:=[.bool x.used,i6 x.fence,i6 x.de,i6 x.ds,sT x.block,.bool x.op,i6 x.ie,i6 x.is,i6 x.mask,sT x.staged]
def nla_v8 (s:SayR):List Value:=[i6 s.st,i6 s.ep,i6 s.ou,.bool s.rc.used,i6 s.rc.fence,i6 s.rc.de,i6 s.rc.ds,sT s.rc.block,.bool s.rc.op,i6 s.rc.ie,i6 s.rc.is,i6 s.rc.mask,sT s.rc.staged]
def nla_v9 (y:RecM):List Value:=[.bool y.used,i6 y.fence,i6 y.de,i6 y.ds,sT y.block,.bool y.op,i6 y.ie,i6 y.is,i6 y.mask,sT y.staged]
def nla_v10:List Value:=rp 3 (.int .i64 0) ++ [.bool false] ++ rp 3 (.int .i64 0) ++ [.string ⟨#[]⟩,.bool false] ++ rp 3 (.int .i64 0) ++ [.string ⟨#[]⟩]
def nla_n1:List Nat:=[0,1,2,3,4,5,6,7,8,9]
def nla_n2:List Nat:=[0,1,2,3,4,5,6,7]
def nla_n3:List Nat:=[0,2,4,6,7,8,9,10,11,12,13,14,15,16,91]
def nla_n4:List Nat:=[0,2,4,6,7,8,9,10,11,12,13,84,85]
def nla_n5:List Nat:=[1,1,1,1,1,1,0,1,0,0,1,0,0,1,1,1,0,1,0]
def nla_n6:List Nat:=[1,1,1,1,1,1,0,1,0,0,1,0,0,1,1,1,0,1]
def nla_n7:List Nat:=[1,1,1,1,1,1,0,1,0,0,1,0,0,1,1,1,1,0]
def nla_n8:List Nat:=[1,1,1,1,1,1,0,1,0,0,1,0,0,1,1,1,1,1,0]
def nla_n9:List Nat:=[1,1,1,1,1,1,0,1,0,0,1,0,0,1,1,1,1,1,1,0]
def nla_n10:List Nat:=[1,1,1,1,1,1,0,1,0,0,1,0,0,1,1,1,1,1,1,1,0]
def nla_n11:List Nat:=[1,1,1,1,1,1,0,1,0,0,1,0,0,1,1,1,1,1,1,1,1,1,0]
def nla_n12:List Nat:=[1,1,1,1,1,1,0,1,0,0,1,0,0,1,1,1,1,1,1,1,1,1,1]
def nla_n13:List Nat:=[1,1,1,1,1,1,0,1,0,0,1,0,0,1,1,1,1,1,1,1,1,1]
def nla_n14:List Nat:=[1,1,1,1,1,1,0,1,0,0,1,0,0,1,1,1,1,1,1,1,1]
def nla_n15:List Nat:=[1,1,1,1,1,1,0,1,0,0,1,0,0,1,1,1,1,1,1,1]
def nla_n16:List Nat:=[1,1,1,1,1,1,0,1,0,0,1,0,0,1,1,1,1,1,1]
def nla_n17:List Nat:=[1,1,1,1,1,1,0,1,0,0,1,0,0,1,1,1,1,1]
def nla_n18:List Nat:=[1,1,1,1,1,1,0,1,0,0,1,0,0,1,1,1,1]
def nla_n19:List Nat:=[1,1,1,1,1,1,0,1,0,0,1,1]
def nla_n20:List Bool:=[true,false,false,false,false,false,false,false,true,true,false]
def nla_n21:List OH:=[oh0,oh0,oh0,oh0,⟨false,0,[⟨false,7,0,13⟩]⟩,oh0,oh0]
@[simp] def nla_b1 (r:RecM) (pb:Nat) (sb:Nat) (nb:Nat) (W3:World):List Bk:=[⟨W3.heap.size + 1,43,true,(nla_v1 r)⟩,⟨sb,82,false,[(pt pb 0),i6 1]⟩,⟨nb,69,false,[(pt sb 0),i6 1]⟩]
@[simp] def nla_b2 (pb:Nat) (sb:Nat) (nb:Nat):List Bk:=[⟨sb,82,false,[(pt pb 0),i6 1]⟩,⟨nb,69,false,[(pt sb 0),i6 1]⟩]
@[simp] def nla_b3 (acts:Nat → Act10) (i:Nat) (q:AskM) (r:RecM) (pb:Nat) (sb:Nat) (nb:Nat) (W3:World) (W20:World) (z17:Nat):List Bk:=[⟨W3.heap.size + 1,43,true,(nla_v1 r)⟩,⟨sb,82,false,[(pt pb 0),i6 1]⟩,⟨nb,69,false,[(pt sb 0),i6 1]⟩,⟨W20.heap.size,41,true,(nla_v5 acts i)⟩,⟨z17,35,true,(nla_v6 q)⟩]
@[simp] def nla_b4 (acts:Nat → Act10) (i:Nat) (q:AskM) (r:RecM) (x:RecM) (s:SayR) (pb:Nat) (sb:Nat) (nb:Nat) (W3:World) (W20:World) (z17:Nat) (z28:Nat):List Bk:=[⟨W3.heap.size + 1,43,true,(nla_v1 r)⟩,⟨sb,82,false,[(pt pb 0),i6 1]⟩,⟨nb,69,false,[(pt sb 0),i6 1]⟩,⟨W20.heap.size,41,true,(nla_v5 acts i)⟩,⟨z17,35,true,(nla_v6 q)⟩,⟨z28,43,true,(nla_v7 x)⟩,⟨z28 + 1,45,true,(nla_v8 s)⟩]
@[simp] def nla_b5 (y:RecM) (pb:Nat) (sb2:Nat) (nb2:Nat) (W3:World):List Bk:=[⟨W3.heap.size + 1,43,true,(nla_v9 y)⟩,⟨sb2,82,false,[(pt pb 0),i6 1]⟩,⟨nb2,69,false,[(pt sb2 0),i6 1]⟩]
@[simp] def nla_b6 (acts:Nat → Act10) (i:Nat) (q:AskM) (r:RecM) (x:RecM) (s:SayR) (pb:Nat) (sb:Nat) (nb:Nat) (W3:World) (W20:World) (W31:World) (z17:Nat) (z28:Nat):List Bk:=[⟨W3.heap.size + 1,43,true,(nla_v1 r)⟩,⟨sb,82,false,[(pt pb 0),i6 1]⟩,⟨nb,69,false,[(pt sb 0),i6 1]⟩,⟨W20.heap.size,41,true,(nla_v5 acts i)⟩,⟨z17,35,true,(nla_v6 q)⟩,⟨z28,43,true,(nla_v7 x)⟩,⟨z28 + 1,45,true,(nla_v8 s)⟩,⟨W31.heap.size,45,true,(nla_v8 s)⟩]
@[simp] def nla_b7 (acts:Nat → Act10) (i:Nat) (q:AskM) (r:RecM) (x:RecM) (s:SayR) (pb:Nat) (sb:Nat) (nb:Nat) (W3:World) (W20:World) (W31:World) (z17:Nat) (z28:Nat):List Bk:=[⟨W3.heap.size + 1,43,true,(nla_v1 r)⟩,⟨sb,82,false,[(pt pb 0),i6 1]⟩,⟨nb,69,false,[(pt sb 0),i6 1]⟩,⟨W20.heap.size,41,true,(nla_v5 acts i)⟩,⟨z17,35,true,(nla_v6 q)⟩,⟨z28,43,true,(nla_v7 x)⟩,⟨z28 + 1,45,true,(nla_v8 s)⟩,⟨W31.heap.size,45,true,(nla_v10)⟩]
@[simp] def nla_b8 (acts:Nat → Act10) (i:Nat) (q:AskM) (r:RecM) (x:RecM) (s:SayR) (pb:Nat) (sb:Nat) (sb2:Nat) (nb:Nat) (nb2:Nat) (W3:World) (W20:World) (W31:World) (z17:Nat) (z28:Nat):List Bk:=[⟨W3.heap.size + 1,43,true,(nla_v1 r)⟩,⟨sb,82,false,[(pt pb 0),i6 1]⟩,⟨nb,69,false,[(pt sb 0),i6 1]⟩,⟨W20.heap.size,41,true,(nla_v5 acts i)⟩,⟨z17,35,true,(nla_v6 q)⟩,⟨z28,43,true,(nla_v7 x)⟩,⟨z28 + 1,45,true,(nla_v8 s)⟩,⟨W31.heap.size,45,true,(nla_v10)⟩,⟨sb2,82,false,[(pt pb 0),i6 1]⟩,⟨nb2,69,false,[(pt sb2 0),i6 1]⟩]
@[simp] def nla_b9 (acts:Nat → Act10) (i:Nat) (q:AskM) (x:RecM) (y:RecM) (s:SayR) (pb:Nat) (sb:Nat) (sb2:Nat) (nb:Nat) (nb2:Nat) (W3:World) (W20:World) (W31:World) (z17:Nat) (z28:Nat) (z48:Nat):List Bk:=[⟨W3.heap.size + 1,43,true,(nla_v9 y)⟩,⟨sb,82,false,[(pt pb 0),i6 1]⟩,⟨nb,69,false,[(pt sb 0),i6 1]⟩,⟨W20.heap.size,41,true,(nla_v5 acts i)⟩,⟨z17,35,true,(nla_v6 q)⟩,⟨z28,43,true,(nla_v7 x)⟩,⟨z28 + 1,45,true,(nla_v8 s)⟩,⟨W31.heap.size,45,true,(nla_v10)⟩,⟨sb2,82,false,[(pt pb 0),i6 1]⟩,⟨nb2,69,false,[(pt sb2 0),i6 1]⟩,⟨z48,43,true,(nla_v9 y)⟩]
def NLastsI (A:Option Addr) (n:Nat) (cp:Nat) (lb:Nat) (mb:Nat) (pb:Nat) (W3:World)  (m:Nat) (st:St) (W1:World):Prop:=
 ∃ (i:Nat) (M:Pl) (r:RecM) (sb:Nat) (nb:Nat) (z:Nat),m + i = 50 ∧ ClPl lb mb 1 (2 + 2 * (i:Int)) M ∧ gotM M 0 = r ∧ (pb < sb ∧ sb < nb) ∧ PlatAt 64 80 W1 pb M ∧ st = ⟨[(0,.slice A n cp),(2,.bool false),(4,(pt pb 0)),(6,(pt nb 0)),(7,.int .i64 0),(8,(pt (W3.heap.size + 1) 0)),(9,.int .i64 (i:Int))],(nla_b1 r pb sb nb W3),[],z⟩
set_option maxRecDepth 100000 in
set_option maxHeartbeats 4000000 in
theorem lasts_any (A:Option Addr) (n cp:Nat) (acts:Nat → Act10) (w:World) (HF:Acts10At w A n acts) (HK:∀ k,k < n → ∃ kf,NumsAt w (acts k).ka (acts k).kn kf) :
  Calls Try.prog 6 #[.slice A n cp] w (RetK (.bool true) w):=by
 refine calls_of_holds (S:=(fun _=>False)) (l:=[.slice A n cp]) (n:=153) Try.func6 (body_of (by kernel_rfl)) rfl (by simp) (MemOk.none w _) ?_
 refine hgE 9 [oh0] [0,2] [] [] [.ops [1,0] [0,1],.code [1,1]] ⟨[(0,.slice A n cp),(2,.bool false)],[],[],w.heap.size⟩ ?_
 refine hcp (.bool true) 7 [] (some 21) [] tI rfl (fun wx hm=>awake10P wx) fun z2 hz2=>?_
 replace hz2:w.heap.size ≤ z2:=hz2
 refine hgE 7 [oh0] [0,2,3] [] [] [.ops [1,1,0] [0,1,2,3,4,5],.code [1,1,1]] ⟨[(0,.slice A n cp),(2,.bool false),(3,.bool true)],[],[],z2⟩ ?_
 refine holds_callW (w:=w) (S':=(fun _=>False)) (Y:=Nat × Nat × Nat) (fun (⟨lb,mb,pb⟩:Nat × Nat × Nat)=>.tuple #[(pt pb 0),i6 0]) (fun (⟨lb,mb,pb⟩:Nat × Nat × Nat)=>[]) (fun (⟨lb,mb,pb⟩:Nat × Nat × Nat) W_=>z2 ≤ lb ∧ lb < mb ∧ mb < pb ∧ PlatAt 64 80 W_ pb (newPl lb mb 1)) (fun (⟨lb,mb,pb⟩:Nat × Nat × Nat)=>[(23,.tuple #[(pt pb 0),i6 0]),(0,.slice A n cp),(2,.bool false),(3,.bool true)]) (show _ = some (8,[i6 1],some 23,[]) by kernel_rfl) tI (fun _=>rfl) (fun wx hm=>?_) (fun y W1 hX1 hm1=>?_)
 ·refine (new_pl 1 (by omega) wx).mono fun e w' ⟨lb,mb,pb,he,h1,h2,h3,h4,h5⟩=>?_
  exact ⟨(lb,mb,pb),he,⟨by rw [hm.size] at h1; exact h1,h2,h3,h4⟩,(hm.same h5).2⟩
 obtain ⟨lb,mb,pb⟩:=y
 obtain ⟨hl_lb,hl_mb,hl_pb,hP1⟩:=hX1
 have hlt_pb:pb < W1.heap.size:=hP1.lt.1
 have hw0:w.heap.size ≤ lb:=by omega
 have hO:=(on_new lb mb 1).lm
 have hnT:∀ xx,(xx = pb ∨ xx = lb ∨ xx = mb) → ¬ Turned [] xx:=by
  rintro xx _ ⟨b,hb,hr,he⟩
  simp at hb
 have hnB:∀ b ∈ ([]:List Bk),¬ (b.g = pb ∨ b.g = lb ∨ b.g = mb):=by simp
 refine hgE 12 [oh0,oh0,oh0,oh0,oh0,oh0] [0,2,3,4,27] [] [] [.ops [1,1,1,0] [1,2,3,4,5,6],.code [1,1,1,1]] ⟨[(0,.slice A n cp),(2,.bool false),(3,.bool true),(4,(pt pb 0)),(27,(pt pb 0))],[],[],W1.heap.size⟩ ?_
 refine holds_callW (w:=w) (S':=(fun _=>False)) (Y:=Nat × Nat) (fun (⟨sb,nb⟩:Nat × Nat)=>.tuple #[(pt nb 0),i6 0]) (fun (⟨sb,nb⟩:Nat × Nat)=>(nla_b2 pb sb nb)) (fun (⟨sb,nb⟩:Nat × Nat) W_=>(W1.heap.size ≤ sb ∧ sb < nb) ∧ PlatAt 64 80 W_ pb (newPl lb mb 1)) (fun (⟨sb,nb⟩:Nat × Nat)=>[(28,.tuple #[(pt nb 0),i6 0]),(0,.slice A n cp),(2,.bool false),(3,.bool true),(4,(pt pb 0)),(27,(pt pb 0))]) (show _ = some (9,[(pt pb 0),i6 1],some 28,[]) by kernel_rfl) tI (fun _=>rfl) (fun wx hm=>?_) (fun y W2 hX2 hm2=>?_)
 ·refine (nodeNew_st (newPl lb mb 1) pb 1 (by omega) (by rw [hO.n]; omega) wx (hP1.kept hm.kept (fun x h=>hnT x (hO.mine x h)))).mono fun e w' ⟨sb',nb',he,h1,h2,h3,h4,h5⟩=>?_
  have hs:wx.heap.size = W1.heap.size:=hm.size
  exact ⟨(sb',nb'),he,⟨⟨by omega,h2⟩,(hP1.kept hm.kept (fun x h=>hnT x (hO.mine x h))).kept h5 (fun _ _ h=>h)⟩,((MemOk.back2 hm1 hm).add h5 [⟨sb',82,false,_⟩,⟨nb',69,false,_⟩] ⟨h3,h4,trivial⟩ (by simp; omega) (by simp; omega)).2⟩
 obtain ⟨sb,nb⟩:=y
 obtain ⟨⟨hz_sb,hy_nb⟩,hP2⟩:=hX2
 clear hnT hnB
 have hPlW2:=hP2.lt.1
 have hgbW2_0:sb < W2.heap.size:=(hm2.at_ 0 rfl).lt
 have hgbW2_1:nb < W2.heap.size:=(hm2.at_ 1 rfl).lt
 have hwwW2:=hm2.kept.size
 have hnT:∀ xx,(xx = pb ∨ xx = lb ∨ xx = mb) → ¬ Turned (nla_b2 pb sb nb) xx:=by
  rintro xx hx2 ⟨b,hb,hr,he⟩
  simp at hb
  rcases hb with rfl | rfl <;> simp at he hr <;> omega
 have hnB:∀ b ∈ ((nla_b2 pb sb nb):List Bk),¬ (b.g = pb ∨ b.g = lb ∨ b.g = mb):=by
  intro b hb hx2
  simp at hb
  rcases hb with rfl | rfl <;> simp at hx2 <;> omega
 refine hgE 24 [oh0,oh0,oh0,oh0,oh0,oh0,oh0,oh0,oh0,oh0,⟨false,3,[]⟩,oh0,oh0,oh0,⟨false,3,[]⟩,oh0,oh0] [0,2,4,6,7,41,42] [fF,fF,fF,fF,fF,fF,fF] [] [.ops [1,1,1,1,0,0] [12,13,14],.code [1,1,1,1,0,1],.code [1,1,1,1,1]] ⟨[(0,.slice A n cp),(2,.bool false),(4,(pt pb 0)),(6,(pt nb 0)),(7,i6 0),(41,.bool false),(42,(pt nb 0))],(nla_b2 pb sb nb),[],W2.heap.size⟩ ?_
 refine holds_callW (w:=w) (S':=(fun _=>False)) (Y:=Nat) (fun _=>i6 0) (fun _=>(nla_b2 pb sb nb)) (fun _ W_=>PlatAt 64 80 W_ pb (fmtPl (newPl lb mb 1) 1)) (fun _=>[(43,i6 0),(0,.slice A n cp),(2,.bool false),(4,(pt pb 0)),(6,(pt nb 0)),(7,i6 0),(41,.bool false),(42,(pt nb 0))]) (show _ = some (10,[(pt nb 0)],some 43,[false = false]) by kernel_rfl) ⟨rfl,tI⟩ (fun _=>rfl) (fun wx hm=>?_) (fun _ W3 hP3 hm3=>?_)
 ·refine (nodeFormat_pl (newPl lb mb 1) pb sb nb 1 lb mb 0 (by omega) (on_new lb mb 1) (by omega) (fun h=>by have:=hO.mine sb h; omega) (fun h=>by have:=hO.mine nb h; omega) (by omega) wx (hP2.kept hm.kept (fun x h=>hnT x (hO.mine x h))) (hm.at_ 0 rfl) (hm.at_ 1 rfl)).mono fun e w' ⟨h1,h2,h3⟩=>?_
  exact ⟨0,h1,h2,(MemOk.back2 hm2 hm).off (fun _ h=>h) h3 (fun x h=>.inr (by have:=hO.mine x h; omega)) (fun b hb h=>hnB b hb (hO.mine _ h))⟩
 have hO':=(cl_fmt (on_new lb mb 1) hP2.ok (by omega) 0 (by omega)).on.lm
 clear hO
 have hO:=hO'
 clear hO'
 clear hnT hnB
 have hPlW3:=hP3.lt.1
 have hgbW3_0:sb < W3.heap.size:=(hm3.at_ 0 rfl).lt
 have hgbW3_1:nb < W3.heap.size:=(hm3.at_ 1 rfl).lt
 have hwwW3:=hm3.kept.size
 have hnT:∀ xx,(xx = pb ∨ xx = lb ∨ xx = mb) → ¬ Turned (nla_b2 pb sb nb) xx:=by
  rintro xx hx2 ⟨b,hb,hr,he⟩
  simp at hb
  rcases hb with rfl | rfl <;> simp at he hr <;> omega
 have hnB:∀ b ∈ ((nla_b2 pb sb nb):List Bk),¬ (b.g = pb ∨ b.g = lb ∨ b.g = mb):=by
  intro b hb hx2
  simp at hb
  rcases hb with rfl | rfl <;> simp at hx2 <;> omega
 refine hgE 11 [oh0,⟨false,3,[]⟩,oh0,oh0] [0,2,4,6,7,46] [fF,fF,fF] [] [.ops [1,1,1,1,1,0] [1,2,3,4],.code [1,1,1,1,1,1]] ⟨[(0,.slice A n cp),(2,.bool false),(4,(pt pb 0)),(6,(pt nb 0)),(7,i6 0),(46,.slice (some ⟨W3.heap.size,0,none⟩) 16 16)],[⟨sb,82,false,[(pt pb 0),i6 1]⟩,⟨nb,69,false,[(pt sb 0),i6 1]⟩,⟨W3.heap.size,5,true,(nla_v2)⟩],[],W3.heap.size + 1⟩ ?_
 refine holds_opR (dst:=(some 47)) (x:=convert 53 9 (.slice (some ⟨W3.heap.size,0,none⟩) 16 16)) (.string zeros16) (by kernel_rfl) (by kernel_rfl) rfl (fun wx hm=>?_) ?_
 ·exact run_bytesAt (P:=Try.prog) wx 53 9 5 _ _ _ _ _ (List.replicate 16 0) [] [] (by kernel_rfl) (by kernel_rfl) (by kernel_rfl) (hm.at_ 2 rfl) rfl rfl byts16
 refine hgE 13 [oh0,oh0,(oA 3 0 10),oh0] [0,2,4,6,7,8,9] [] [(W3.heap.size + 1,0,10)] [.code [1,1,1,1,1,1,0,1,0],.blk 0,.code [1,1,1,1,1,1,1]] ⟨[(0,.slice A n cp),(2,.bool false),(4,(pt pb 0)),(6,(pt nb 0)),(7,i6 0),(8,(pt (W3.heap.size + 1) 0)),(9,i6 0)],[⟨sb,82,false,[(pt pb 0),i6 1]⟩,⟨nb,69,false,[(pt sb 0),i6 1]⟩,⟨W3.heap.size,5,true,(nla_v2)⟩,⟨W3.heap.size + 1,43,true,(nla_v3)⟩],[],W3.heap.size + 2⟩ ?_
 obtain ⟨_,_,hG0⟩:=on_fmt (on_new lb mb 1) hP2.ok (by omega) 1 (by omega)
 have hC0:=cl_fmt (on_new lb mb 1) hP2.ok (by omega) 0 (by omega)
 have hgr:pb < W3.heap.size + 1:=by omega
 refine holds_prune [0,2,4,6,7,8,9] [true,true,false,true] ?_
 refine holds_fits (st:=⟨[(0,.slice A n cp),(2,.bool false),(4,(pt pb 0)),(6,(pt nb 0)),(7,.int .i64 0),(8,(pt (W3.heap.size + 1) 0)),(9,.int .i64 0)],[⟨sb,82,false,[(pt pb 0),.int .i64 1]⟩,⟨nb,69,false,[(pt sb 0),.int .i64 1]⟩,⟨W3.heap.size + 1,43,true,(nla_v3)⟩],[],W3.heap.size + 2⟩) (st':=⟨[(0,.slice A n cp),(2,.bool false),(4,(pt pb 0)),(6,(pt nb 0)),(7,.int .i64 0),(8,(pt (W3.heap.size + 1) 0)),(9,.int .i64 0)],[⟨W3.heap.size + 1,43,true,(nla_v3)⟩,⟨sb,82,false,[(pt pb 0),.int .i64 1]⟩,⟨nb,69,false,[(pt sb 0),.int .i64 1]⟩],[],W3.heap.size + 2⟩) (fun a_ w_ hf_ hm_=>⟨hf_,hm_.perm (List.perm_append_comm (l₁:=[_]) (l₂:=[_,_]))⟩) ?_
 refine holds_loopW (w:=w) (S':=fun _=>False) (NLastsI A n cp lb mb pb W3) 50 (by kernel_rfl) (fun W4 hm=>⟨⟨0,fmtPl (newPl lb mb 1) 1,fmtR,sb,nb,_,rfl,hC0,(by rw [hG0 0 (by omega),if_pos (by omega)]),⟨by omega,by omega⟩,hP3.kept hm.kept (fun x h=>hnT x (hO.mine x h)),rfl⟩,MemOk.back2 hm3 hm⟩) ?_
 clear hG0 hC0 hnT hnB hO
 rintro m _ W20 ⟨i,M,r,sb,nb,z',hmi,hC,hgot,⟨hpsb,hsnb⟩,hP20,rfl⟩ hm20 J hJ
 have hO:=hC.on.lm
 have hPlW20:=hP20.lt.1
 have hgbW20_0:W3.heap.size + 1 < W20.heap.size:=(hm20.at_ 0 rfl).lt
 have hgbW20_1:sb < W20.heap.size:=(hm20.at_ 1 rfl).lt
 have hgbW20_2:nb < W20.heap.size:=(hm20.at_ 2 rfl).lt
 have hwwW20:=hm20.kept.size
 have hnT:∀ xx,(xx = pb ∨ xx = lb ∨ xx = mb) → ¬ Turned (nla_b1 r pb sb nb W3) xx:=by
  rintro xx hx2 ⟨b,hb,hr,he⟩
  simp at hb
  rcases hb with rfl | rfl | rfl <;> simp at he hr <;> omega
 have hnB:∀ b ∈ ((nla_b1 r pb sb nb W3):List Bk),¬ (b.g = pb ∨ b.g = lb ∨ b.g = mb):=by
  intro b hb hx2
  simp at hb
  rcases hb with rfl | rfl | rfl <;> simp at hx2 <;> omega
 by_cases h1:i < n
 rotate_left
 ·skip
  refine hgE 21 [oh0,oh0,oh0,oh0,oh0,oh0,oh0,⟨false,3,[]⟩,oh0,oh0] [2] [dF (((i:Int):Int) < (n:Int)),dF (((i:Int):Int) < (n:Int)),dF (((i:Int):Int) < (n:Int)),fF] [] [.code [1,1,1,1,1,1,1,1]] ⟨[(2,.bool true)],(nla_b1 r pb sb nb W3),[],W20.heap.size⟩ ?_
  refine hrt [] [.bool true] [] ?_
  intro wx hm
  exact ⟨rfl,(MemOk.back2 hm20 hm).kept⟩
 by_cases h2:i < 50
 rotate_left
 ·skip
  refine hgE 21 [oh0,oh0,oh0,oh0,oh0,oh1,oh1,oh3,oh0,oh0] [2] [dT (((i:Int):Int) < (n:Int)),dT (((i:Int):Int) < (n:Int)),dT (((i:Int):Int) < (n:Int)),dF (((i:Int):Int) < 50)] [] [.code [1,1,1,1,1,1,1,1]] ⟨[(2,.bool true)],(nla_b1 r pb sb nb W3),[],W20.heap.size⟩ ?_
  refine hrt [] [.bool true] [] ?_
  intro wx hm
  exact ⟨rfl,(MemOk.back2 hm20 hm).kept⟩
 obtain ⟨ha,b,o,rfl,hb,hc⟩:=HF i h1
 obtain ⟨kf,hkf⟩:=HK i h1
 obtain ⟨q,hq⟩:∃ q,fitF (acts i).ask = q:=⟨_,rfl⟩
 have hqok:=qs_ok (hq ▸ fitF_ok (acts i).ask) (k:=0) (by omega)
 obtain ⟨B,hB⟩:∃ B,pickZ (acts i).what 5 = B:=⟨_,rfl⟩
 obtain ⟨⟨x,s⟩,hxs⟩:∃ xs,applyM r (qs q 0) = xs:=⟨_,rfl⟩
 have hrk:RecOk r:=hgot ▸ got_ok M 0 (by omega)
 have hnb:∀ x,x < w.heap.size → ¬ Turned (nla_b1 r pb sb nb W3) x:=by
  rintro x hx ⟨b,hb,hr,he⟩
  simp at hb
  rcases hb with rfl | rfl | rfl <;> simp at he hr <;> omega
 refine holds_wins [⟨b,o + i * 14,(acts i).cells⟩] (fun _ x hx=>?_) ?_
 ·simp only [List.mem_singleton] at hx
  subst hx
  exact ⟨hnb _ hb,win_kept hb hc rfl hm20.kept id⟩
 refine hgE 32 [oh0,oh0,oh0,oh0,oh0,oh1,oh1,oh3,oh1,oh0,oh0,oh2,⟨false,0,[⟨true,0,0,14⟩]⟩,oh0,(oA 3 0 14),oh0,(oA 3 3 9)] [0,2,4,6,7,8,9,10,64] [dT (((i:Int):Int) < (n:Int)),dT (((i:Int):Int) < (n:Int)),dT (((i:Int):Int) < (n:Int)),dT (((i:Int):Int) < 50),oE ((0:Int) ≤ (i:Int) ∧ (i:Int) < ((n:Nat):Int))] [(b,o + i * 14,14),(W20.heap.size,0,14),(W20.heap.size,3,9)] [.ops [1,1,1,1,1,1,0,1,0,0,1,0,0,1,0] [2,3,4],.code [1,1,1,1,1,1,0,1,0,0,1,0,0,1,1],.blk 1,.code nla_n19,.inv J,.blk 0,.code [1,1,1,1,1,1,1]] ⟨[(0,.slice (some ⟨b,o,none⟩) n cp),(2,.bool false),(4,(pt pb 0)),(6,(pt nb 0)),(7,i6 0),(8,(pt (W3.heap.size + 1) 0)),(9,i6 (i:Int)),(10,(pt W20.heap.size 0)),(64,.agg (List.toArray (nla_v4 acts i)))],[⟨W3.heap.size + 1,43,true,(nla_v1 r)⟩,⟨sb,82,false,[(pt pb 0),i6 1]⟩,⟨nb,69,false,[(pt sb 0),i6 1]⟩,⟨W20.heap.size,41,true,(nla_v5 acts i)⟩],[⟨b,o + i * 14,(nla_v5 acts i)⟩],W20.heap.size + 1⟩ ?_
 refine hcp (.agg #[i6 q.kind,i6 q.stripe,i6 q.epoch,i6 q.seq,i6 q.mask,i6 q.node,i6 q.oe,i6 q.os,sT q.block]) 11 [.agg (List.toArray (nla_v4 acts i))] (some 65) [] tI rfl (fun wx hm=>fitP (acts i).ask q hq wx ha.ask) fun z17 hz17=>?_
 replace hz17:W20.heap.size + 1 ≤ z17:=hz17
 refine hgE 16 [oh0,(oA 4 0 9),oh0,(oA 4 1 1),oh0,(oA 3 0 1)] [0,2,4,6,7,8,9,10,11,68] [] [(z17,0,9),(z17,1,1),(W20.heap.size,0,1)] [.ops [1,1,1,1,1,1,0,1,0,0,1,0,0,1,1,1,0,0] [2,3],.code nla_n6,.code nla_n18,.blk 1,.code nla_n19,.inv J,.blk 0,.code [1,1,1,1,1,1,1]] ⟨[(0,.slice (some ⟨b,o,none⟩) n cp),(2,.bool false),(4,(pt pb 0)),(6,(pt nb 0)),(7,i6 0),(8,(pt (W3.heap.size + 1) 0)),(9,i6 (i:Int)),(10,(pt W20.heap.size 0)),(11,(pt z17 0)),(68,i6 ((acts i).what))],(nla_b3 acts i q r pb sb nb W3 W20 z17),[⟨b,o + i * 14,(nla_v5 acts i)⟩],z17 + 1⟩ ?_
 refine hcp (i6 B) 14 [i6 ((acts i).what),i6 5] (some 69) [] tI rfl (fun wx hm=>pick10 _ _ _ hB wx (by omega) (by omega) ha.what) fun z19 hz19=>?_
 replace hz19:z17 + 1 ≤ z19:=hz19
 refine hgE 5 [oh0] [0,2,4,6,7,8,9,10,11,70] [] [] [.code nla_n6,.code nla_n18,.blk 1,.code nla_n19,.inv J,.blk 0,.code [1,1,1,1,1,1,1]] ⟨[(0,.slice (some ⟨b,o,none⟩) n cp),(2,.bool false),(4,(pt pb 0)),(6,(pt nb 0)),(7,i6 0),(8,(pt (W3.heap.size + 1) 0)),(9,i6 (i:Int)),(10,(pt W20.heap.size 0)),(11,(pt z17 0)),(70,.bool (B == 4))],(nla_b3 acts i q r pb sb nb W3 W20 z17),[⟨b,o + i * 14,(nla_v5 acts i)⟩],z19⟩ ?_
 clear hnb
 refine holds_wins [] (fun _ _ h=>by cases h) ?_
 suffices HX:∀ (W30:World) (d:Int),0 ≤ d ∧ d ≤ 3 → PlatAt 64 80 W30 pb (armPl M d) → MemOk w (fun _=>False) (nla_b3 acts i q r pb sb nb W3 W20 z17) [] W30.heap.size W30 → Holds [] Try.prog (bodyOf Try.f6) 153 W30 (Turned (nla_b3 acts i q r pb sb nb W3 W20 z17)) (bodyPost Try.prog Try.f6 (RetK (.bool true) w)) [.ops nla_n7 nla_n1,.code nla_n17,.blk 1,.code nla_n19,.inv J,.blk 0,.code [1,1,1,1,1,1,1]] ⟨[(0,.slice (some ⟨b,o,none⟩) n cp),(2,.bool false),(4,(pt pb 0)),(6,(pt nb 0)),(7,.int .i64 0),(8,(pt (W3.heap.size + 1) 0)),(9,.int .i64 (i:Int)),(10,(pt W20.heap.size 0)),(11,(pt z17 0))],(nla_b3 acts i q r pb sb nb W3 W20 z17),[],W30.heap.size⟩ by
  rcases Bool.eq_false_or_eq_true (B == 4) with hA | hA
  ·skip
   obtain ⟨d,hd⟩:∃ d,pickZ (acts i).n 2 = d:=⟨_,rfl⟩
   have hdb:=pickZ_bd (acts i).n 2 (by omega)
   rw [hd] at hdb
   refine hgE 8 [oh1,oh0,oh0,(oA 3 2 1)] [0,2,4,6,7,8,9,10,11,71,73] [oE ((B == 4) = true) hA] [(W20.heap.size,2,1)] [.ops nla_n5 [3,4,5],.code nla_n18,.blk 1,.code nla_n19,.inv J,.blk 0,.code [1,1,1,1,1,1,1]] ⟨[(0,.slice (some ⟨b,o,none⟩) n cp),(2,.bool false),(4,(pt pb 0)),(6,(pt nb 0)),(7,i6 0),(8,(pt (W3.heap.size + 1) 0)),(9,i6 (i:Int)),(10,(pt W20.heap.size 0)),(11,(pt z17 0)),(71,(pt pb 0)),(73,i6 ((acts i).n))],(nla_b3 acts i q r pb sb nb W3 W20 z17),[],z19⟩ ?_
   refine hcp (i6 d) 14 [i6 ((acts i).n),i6 2] (some 74) [] tI rfl (fun wx hm=>pick10 _ _ _ hd wx (by omega) (by omega) ha.n) fun z22 hz22=>?_
   replace hz22:z19 ≤ z22:=hz22
   refine hgE 4 [oh2] [0,2,4,6,7,8,9,10,11,71,75] [n64 ((1 + d))] [] [.ops nla_n5 [5],.code nla_n18,.blk 1,.code nla_n19,.inv J,.blk 0,.code [1,1,1,1,1,1,1]] ⟨[(0,.slice (some ⟨b,o,none⟩) n cp),(2,.bool false),(4,(pt pb 0)),(6,(pt nb 0)),(7,i6 0),(8,(pt (W3.heap.size + 1) 0)),(9,i6 (i:Int)),(10,(pt W20.heap.size 0)),(11,(pt z17 0)),(71,(pt pb 0)),(75,i6 (1 + d))],(nla_b3 acts i q r pb sb nb W3 W20 z17),[],z22⟩ ?_
   clear hnB
   have hnB:∀ b ∈ ((nla_b3 acts i q r pb sb nb W3 W20 z17):List Bk),¬ (b.g = pb ∨ b.g = lb ∨ b.g = mb):=by
    intro b hb hx2
    simp at hb
    rcases hb with rfl | rfl | rfl | rfl | rfl <;> simp at hx2 <;> omega
   refine holds_callW (w:=w) (S':=(fun _=>False)) (Y:=Nat) (fun _=>i6 (armE (1 + d))) (fun _=>(nla_b3 acts i q r pb sb nb W3 W20 z17)) (fun _ W_=>PlatAt 64 80 W_ pb (armPl M (1 + d))) (fun _=>[(76,i6 (armE (1 + d))),(0,.slice (some ⟨b,o,none⟩) n cp),(2,.bool false),(4,(pt pb 0)),(6,(pt nb 0)),(7,i6 0),(8,(pt (W3.heap.size + 1) 0)),(9,i6 (i:Int)),(10,(pt W20.heap.size 0)),(11,(pt z17 0)),(71,(pt pb 0)),(75,i6 (1 + d))]) (show _ = some (18,[(pt pb 0),i6 (1 + d)],some 76,[]) by kernel_rfl) tI (fun _=>rfl) (fun wx hm=>?_) (fun _ W21 hP21 hm21=>?_)
   ·refine (arm_pl M pb (1 + d) wx (hP20.kept hm.kept (fun x h=>hnT x (hO.mine x h)))).mono fun e w' ⟨h1,h2,h3⟩=>?_
    exact ⟨0,h1,h2,(MemOk.back2 hm20 hm).off (fun _ h=>h) h3 (fun x h=>.inr (by have:=hO.mine x h; omega)) (fun b hb h=>hnB b hb (hO.mine _ h))⟩
   have hO':=hO.arm (1 + d)
   clear hO
   have hO:=hO'
   clear hO'
   clear hnT hnB
   have hPlW21:=hP21.lt.1
   have hgbW21_0:W3.heap.size + 1 < W21.heap.size:=(hm21.at_ 0 rfl).lt
   have hgbW21_1:sb < W21.heap.size:=(hm21.at_ 1 rfl).lt
   have hgbW21_2:nb < W21.heap.size:=(hm21.at_ 2 rfl).lt
   have hgbW21_3:W20.heap.size < W21.heap.size:=(hm21.at_ 3 rfl).lt
   have hgbW21_4:z17 < W21.heap.size:=(hm21.at_ 4 rfl).lt
   have hwwW21:=hm21.kept.size
   have hnT:∀ xx,(xx = pb ∨ xx = lb ∨ xx = mb) → ¬ Turned (nla_b3 acts i q r pb sb nb W3 W20 z17) xx:=by
    rintro xx hx2 ⟨b,hb,hr,he⟩
    simp at hb
    rcases hb with rfl | rfl | rfl | rfl | rfl <;> simp at he hr <;> omega
   have hnB:∀ b ∈ ((nla_b3 acts i q r pb sb nb W3 W20 z17):List Bk),¬ (b.g = pb ∨ b.g = lb ∨ b.g = mb):=by
    intro b hb hx2
    simp at hb
    rcases hb with rfl | rfl | rfl | rfl | rfl <;> simp at hx2 <;> omega
   refine hgE 6 [] [0,2,4,6,7,8,9,10,11] [] [] [.ops nla_n7 nla_n1,.code nla_n17,.blk 1,.code nla_n19,.inv J,.blk 0,.code [1,1,1,1,1,1,1]] ⟨[(0,.slice (some ⟨b,o,none⟩) n cp),(2,.bool false),(4,(pt pb 0)),(6,(pt nb 0)),(7,i6 0),(8,(pt (W3.heap.size + 1) 0)),(9,i6 (i:Int)),(10,(pt W20.heap.size 0)),(11,(pt z17 0))],(nla_b3 acts i q r pb sb nb W3 W20 z17),[],W21.heap.size⟩ ?_
   exact holds_ground [true,true,true,true,true] rfl (fun W hm hmW=>HX W (1 + d) (by omega) (hP21.kept hm.kept (fun x h=>hnT x (hO.mine x h))) (MemOk.back2 hm21 hmW))
  ·skip
   refine hgE 7 [oh0] [0,2,4,6,7,8,9,10,11] [oE ((B == 4) = false) hA] [] [.ops nla_n7 nla_n1,.code nla_n17,.blk 1,.code nla_n19,.inv J,.blk 0,.code [1,1,1,1,1,1,1]] ⟨[(0,.slice (some ⟨b,o,none⟩) n cp),(2,.bool false),(4,(pt pb 0)),(6,(pt nb 0)),(7,i6 0),(8,(pt (W3.heap.size + 1) 0)),(9,i6 (i:Int)),(10,(pt W20.heap.size 0)),(11,(pt z17 0))],(nla_b3 acts i q r pb sb nb W3 W20 z17),[],z19⟩ ?_
   have hP20':=hP20
   rw [show M = armPl M 0 from (arm_none hC).symm] at hP20'
   exact holds_ground [true,true,true,true,true] rfl (fun W hm hmW=>HX W 0 (by omega) (hP20'.kept hm.kept (fun x h=>hnT x ((hO.arm 0).mine x h))) (MemOk.back2 hm20 hmW))
 clear hnT hnB
 intro W30 d hdb hP30 hm30
 have hO':=hO.arm d
 clear hO
 have hO:=hO'
 clear hO'
 have hPlW30:=hP30.lt.1
 have hgbW30_0:W3.heap.size + 1 < W30.heap.size:=(hm30.at_ 0 rfl).lt
 have hgbW30_1:sb < W30.heap.size:=(hm30.at_ 1 rfl).lt
 have hgbW30_2:nb < W30.heap.size:=(hm30.at_ 2 rfl).lt
 have hgbW30_3:W20.heap.size < W30.heap.size:=(hm30.at_ 3 rfl).lt
 have hgbW30_4:z17 < W30.heap.size:=(hm30.at_ 4 rfl).lt
 have hwwW30:=hm30.kept.size
 have hnT:∀ xx,(xx = pb ∨ xx = lb ∨ xx = mb) → ¬ Turned (nla_b3 acts i q r pb sb nb W3 W20 z17) xx:=by
  rintro xx hx2 ⟨b,hb,hr,he⟩
  simp at hb
  rcases hb with rfl | rfl | rfl | rfl | rfl <;> simp at he hr <;> omega
 have hnB:∀ b ∈ ((nla_b3 acts i q r pb sb nb W3 W20 z17):List Bk),¬ (b.g = pb ∨ b.g = lb ∨ b.g = mb):=by
  intro b hb hx2
  simp at hb
  rcases hb with rfl | rfl | rfl | rfl | rfl <;> simp at hx2 <;> omega
 have hSV:=serv_step hC hP20.ok hdb hqok (by show (0:Int) < _; omega) hgot hxs (keepB (acts i).kn kf)
 have hac:=hC.on.acts
 have hacd:(armPl M d).acts = M.acts:=by rw [arm_is hdb]
 have hoffd:(armPl M d).off = false:=by rw [arm_is hdb]; exact hC.on.off
 refine hgE 5 [(oA 0 0 10),(oA 4 0 9)] [0,2,4,6,7,8,9,10,11,78,79] [] [(W3.heap.size + 1,0,10),(z17,0,9)] [.ops nla_n7 [2,3,4,5,6,7,8,9],.code nla_n17,.blk 1,.code nla_n19,.inv J,.blk 0,.code [1,1,1,1,1,1,1]] ⟨[(0,.slice (some ⟨b,o,none⟩) n cp),(2,.bool false),(4,(pt pb 0)),(6,(pt nb 0)),(7,i6 0),(8,(pt (W3.heap.size + 1) 0)),(9,i6 (i:Int)),(10,(pt W20.heap.size 0)),(11,(pt z17 0)),(78,.agg (List.toArray (nla_v1 r))),(79,.agg (List.toArray (nla_v6 q)))],(nla_b3 acts i q r pb sb nb W3 W20 z17),[],W30.heap.size⟩ ?_
 refine hcp (.tuple #[.agg (List.toArray (nla_v7 x)),.agg (List.toArray (nla_v8 s))]) 19 [.agg (List.toArray (nla_v1 r)),.agg (List.toArray (nla_v6 q))] (some 80) [] tI rfl (fun wx hm=>by have h:=refApply r (qs q 0) hrk hqok wx; rw [hxs] at h; exact h) fun z28 hz28=>?_
 replace hz28:W30.heap.size ≤ z28:=hz28
 refine hgE 15 [oh0,oh0,oh0,oh0,oh0,(oA 5 0 10),(oA 6 0 13),oh0,(oA 4 0 9)] nla_n4 [] [(z28,0,10),(z28 + 1,0,13),(z17,0,9)] [.ops nla_n8 [2,3,4,5,6,7,8],.code nla_n16,.blk 1,.code nla_n19,.inv J,.blk 0,.code [1,1,1,1,1,1,1]] ⟨[(0,.slice (some ⟨b,o,none⟩) n cp),(2,.bool false),(4,(pt pb 0)),(6,(pt nb 0)),(7,i6 0),(8,(pt (W3.heap.size + 1) 0)),(9,i6 (i:Int)),(10,(pt W20.heap.size 0)),(11,(pt z17 0)),(12,(pt z28 0)),(13,(pt (z28 + 1) 0)),(84,(pt nb 0)),(85,.agg (List.toArray (nla_v6 q)))],(nla_b4 acts i q r x s pb sb nb W3 W20 z17 z28),[],z28 + 2⟩ ?_
 clear hnB
 have hnB:∀ b ∈ ((nla_b4 acts i q r x s pb sb nb W3 W20 z17 z28):List Bk),¬ (b.g = pb ∨ b.g = lb ∨ b.g = mb):=by
  intro b hb hx2
  simp at hb
  rcases hb with rfl | rfl | rfl | rfl | rfl | rfl | rfl <;> simp at hx2 <;> omega
 suffices HX:∀ (W50:World) (M4:Pl) (y:RecM) (sb2 nb2:Nat),ClPl lb mb 1 (2 + 2 * (i:Int) + 2) M4 → gotM M4 0 = y → pb < sb2 → sb2 < nb2 → PlatAt 64 80 W50 pb M4 → MemOk w (fun _=>False) (nla_b5 y pb sb2 nb2 W3) [] W50.heap.size W50 → Holds [] Try.prog (bodyOf Try.f6) 153 W50 (Turned (nla_b5 y pb sb2 nb2 W3)) (bodyPost Try.prog Try.f6 (RetK (.bool true) w)) [.ops nla_n11 nla_n2,.code nla_n12,.blk 1,.code nla_n19,.inv J,.blk 0,.code [1,1,1,1,1,1,1]] ⟨[(0,.slice (some ⟨b,o,none⟩) n cp),(2,.bool false),(4,(pt pb 0)),(6,(pt nb2 0)),(7,.int .i64 0),(8,(pt (W3.heap.size + 1) 0)),(9,.int .i64 (i:Int))],(nla_b5 y pb sb2 nb2 W3),[],W50.heap.size⟩ by
  rcases hSV with ⟨hOk,hSy,hOf,hCl,hy⟩ | ⟨hOk,hSy,hOf,hCl,hy'⟩
  ·skip
   refine hgE 3 [] nla_n4 [] [] [.ops nla_n8 [2,3,4,5,6,7,8],.code nla_n16,.blk 1,.code nla_n19,.inv J,.blk 0,.code [1,1,1,1,1,1,1]] ⟨[(0,.slice (some ⟨b,o,none⟩) n cp),(2,.bool false),(4,(pt pb 0)),(6,(pt nb 0)),(7,i6 0),(8,(pt (W3.heap.size + 1) 0)),(9,i6 (i:Int)),(10,(pt W20.heap.size 0)),(11,(pt z17 0)),(12,(pt z28 0)),(13,(pt (z28 + 1) 0)),(84,(pt nb 0)),(85,.agg (List.toArray (nla_v6 q)))],(nla_b4 acts i q r x s pb sb nb W3 W20 z17 z28),[],z28 + 2⟩ ?_
   refine holds_callW (w:=w) (S':=(fun _=>False)) (Y:=Nat) (fun _=>.tuple #[.agg (List.toArray (nla_v8 s)),.bool true]) (fun _=>(nla_b4 acts i q r x s pb sb nb W3 W20 z17 z28)) (fun _ W_=>PlatAt 64 80 W_ pb (servPl (armPl M d) (qs q 0))) (fun _=>[(86,.tuple #[.agg (List.toArray (nla_v8 s)),.bool true]),(0,.slice (some ⟨b,o,none⟩) n cp),(2,.bool false),(4,(pt pb 0)),(6,(pt nb 0)),(7,i6 0),(8,(pt (W3.heap.size + 1) 0)),(9,i6 (i:Int)),(10,(pt W20.heap.size 0)),(11,(pt z17 0)),(12,(pt z28 0)),(13,(pt (z28 + 1) 0)),(84,(pt nb 0)),(85,.agg (List.toArray (nla_v6 q)))]) (show _ = some (12,[(pt nb 0),.agg (List.toArray (nla_v6 q))],some 86,[]) by kernel_rfl) tI (fun _=>rfl) (fun wx hm=>?_) (fun _ W31 hP31 hm31=>?_)
   ·refine (serve_pl (armPl M d) pb sb nb 1 (qs q 0) hqok (by show (0:Int) < 1; omega) (by rw [hO.n]; show (0:Int) < 1; omega) hoffd (by omega) (fun h=>by have:=hO.mine sb h; omega) (fun h=>by have:=hO.mine nb h; omega) (by omega) wx (hP30.kept hm.kept (fun x h=>hnT x (hO.mine x h))) (hm.at_ 1 rfl) (hm.at_ 2 rfl)).mono fun e w' ⟨h1,h2,h3⟩=>?_
    rw [hOk,hSy] at h1
    exact ⟨0,h1,h2,(MemOk.back2 hm30 hm).off (fun _ h=>h) h3 (fun x h=>.inr (by have:=hO.mine x h; omega)) (fun b hb h=>hnB b hb (hO.mine _ h))⟩
   have hO':=hO.serv (qs q 0)
   clear hO
   have hO:=hO'
   clear hO'
   clear hnT hnB
   have hPlW31:=hP31.lt.1
   have hgbW31_0:W3.heap.size + 1 < W31.heap.size:=(hm31.at_ 0 rfl).lt
   have hgbW31_1:sb < W31.heap.size:=(hm31.at_ 1 rfl).lt
   have hgbW31_2:nb < W31.heap.size:=(hm31.at_ 2 rfl).lt
   have hgbW31_3:W20.heap.size < W31.heap.size:=(hm31.at_ 3 rfl).lt
   have hgbW31_4:z17 < W31.heap.size:=(hm31.at_ 4 rfl).lt
   have hgbW31_5:z28 < W31.heap.size:=(hm31.at_ 5 rfl).lt
   have hgbW31_6:z28 + 1 < W31.heap.size:=(hm31.at_ 6 rfl).lt
   have hwwW31:=hm31.kept.size
   have hnT:∀ xx,(xx = pb ∨ xx = lb ∨ xx = mb) → ¬ Turned (nla_b4 acts i q r x s pb sb nb W3 W20 z17 z28) xx:=by
    rintro xx hx2 ⟨b,hb,hr,he⟩
    simp at hb
    rcases hb with rfl | rfl | rfl | rfl | rfl | rfl | rfl <;> simp at he hr <;> omega
   have hnB:∀ b ∈ ((nla_b4 acts i q r x s pb sb nb W3 W20 z17 z28):List Bk),¬ (b.g = pb ∨ b.g = lb ∨ b.g = mb):=by
    intro b hb hx2
    simp at hb
    rcases hb with rfl | rfl | rfl | rfl | rfl | rfl | rfl <;> simp at hx2 <;> omega
   refine hgE 13 nla_n21 [0,2,4,6,7,8,9,10,11,12,13,14,15,89] [] [(W31.heap.size,0,13)] [.ops nla_n9 [1,2],.code nla_n15,.blk 1,.code nla_n19,.inv J,.blk 0,.code [1,1,1,1,1,1,1]] ⟨[(0,.slice (some ⟨b,o,none⟩) n cp),(2,.bool false),(4,(pt pb 0)),(6,(pt nb 0)),(7,i6 0),(8,(pt (W3.heap.size + 1) 0)),(9,i6 (i:Int)),(10,(pt W20.heap.size 0)),(11,(pt z17 0)),(12,(pt z28 0)),(13,(pt (z28 + 1) 0)),(14,(pt W31.heap.size 0)),(15,.bool true),(89,(pt pb 0))],(nla_b6 acts i q r x s pb sb nb W3 W20 W31 z17 z28),[],W31.heap.size + 1⟩ ?_
   refine hcp (.bool false) 20 [(pt pb 0)] (some 90) [] tI rfl (fun wx hm=>by have h:=off_pl (servPl (armPl M d) (qs q 0)) pb wx (hP31.kept hm.kept (fun x h=>hnT x (hO.mine x h))); rw [hOf] at h; exact h) fun z33 hz33=>?_
   replace hz33:W31.heap.size + 1 ≤ z33:=hz33
   refine hgE 8 [oh0,oh0] nla_n3 [] [] [.ops nla_n10 [1],.code nla_n14,.blk 1,.code nla_n19,.inv J,.blk 0,.code [1,1,1,1,1,1,1]] ⟨[(0,.slice (some ⟨b,o,none⟩) n cp),(2,.bool false),(4,(pt pb 0)),(6,(pt nb 0)),(7,i6 0),(8,(pt (W3.heap.size + 1) 0)),(9,i6 (i:Int)),(10,(pt W20.heap.size 0)),(11,(pt z17 0)),(12,(pt z28 0)),(13,(pt (z28 + 1) 0)),(14,(pt W31.heap.size 0)),(15,.bool true),(16,.bool false),(91,(pt pb 0))],(nla_b6 acts i q r x s pb sb nb W3 W20 W31 z17 z28),[],z33⟩ ?_
   clear hnB
   have hnB:∀ b ∈ ((nla_b6 acts i q r x s pb sb nb W3 W20 W31 z17 z28):List Bk),¬ (b.g = pb ∨ b.g = lb ∨ b.g = mb):=by
    intro b hb hx2
    simp at hb
    rcases hb with rfl | rfl | rfl | rfl | rfl | rfl | rfl | rfl <;> simp at hx2 <;> omega
   refine holds_callW (w:=w) (S':=(fun _=>False)) (Y:=Nat) (fun _=>i6 0) (fun _=>(nla_b6 acts i q r x s pb sb nb W3 W20 W31 z17 z28)) (fun _ W_=>PlatAt 64 80 W_ pb (armPl (servPl (armPl M d) (qs q 0)) 0)) (fun _=>[(92,i6 0),(0,.slice (some ⟨b,o,none⟩) n cp),(2,.bool false),(4,(pt pb 0)),(6,(pt nb 0)),(7,i6 0),(8,(pt (W3.heap.size + 1) 0)),(9,i6 (i:Int)),(10,(pt W20.heap.size 0)),(11,(pt z17 0)),(12,(pt z28 0)),(13,(pt (z28 + 1) 0)),(14,(pt W31.heap.size 0)),(15,.bool true),(16,.bool false),(91,(pt pb 0))]) (show _ = some (18,[(pt pb 0),i6 0],some 92,[]) by kernel_rfl) tI (fun _=>rfl) (fun wx hm=>?_) (fun _ W32 hP32 hm32=>?_)
   ·refine (arm_pl (servPl (armPl M d) (qs q 0)) pb 0 wx (hP31.kept hm.kept (fun x h=>hnT x (hO.mine x h)))).mono fun e w' ⟨h1,h2,h3⟩=>?_
    exact ⟨0,h1,h2,(MemOk.back2 hm31 hm).off (fun _ h=>h) h3 (fun x h=>.inr (by have:=hO.mine x h; omega)) (fun b hb h=>hnB b hb (hO.mine _ h))⟩
   have hO':=hO.arm 0
   clear hO
   have hO:=hO'
   clear hO'
   clear hnT hnB
   have hPlW32:=hP32.lt.1
   have hgbW32_0:W3.heap.size + 1 < W32.heap.size:=(hm32.at_ 0 rfl).lt
   have hgbW32_1:sb < W32.heap.size:=(hm32.at_ 1 rfl).lt
   have hgbW32_2:nb < W32.heap.size:=(hm32.at_ 2 rfl).lt
   have hgbW32_3:W20.heap.size < W32.heap.size:=(hm32.at_ 3 rfl).lt
   have hgbW32_4:z17 < W32.heap.size:=(hm32.at_ 4 rfl).lt
   have hgbW32_5:z28 < W32.heap.size:=(hm32.at_ 5 rfl).lt
   have hgbW32_6:z28 + 1 < W32.heap.size:=(hm32.at_ 6 rfl).lt
   have hgbW32_7:W31.heap.size < W32.heap.size:=(hm32.at_ 7 rfl).lt
   have hwwW32:=hm32.kept.size
   have hnT:∀ xx,(xx = pb ∨ xx = lb ∨ xx = mb) → ¬ Turned (nla_b6 acts i q r x s pb sb nb W3 W20 W31 z17 z28) xx:=by
    rintro xx hx2 ⟨b,hb,hr,he⟩
    simp at hb
    rcases hb with rfl | rfl | rfl | rfl | rfl | rfl | rfl | rfl <;> simp at he hr <;> omega
   have hnB:∀ b ∈ ((nla_b6 acts i q r x s pb sb nb W3 W20 W31 z17 z28):List Bk),¬ (b.g = pb ∨ b.g = lb ∨ b.g = mb):=by
    intro b hb hx2
    simp at hb
    rcases hb with rfl | rfl | rfl | rfl | rfl | rfl | rfl | rfl <;> simp at hx2 <;> omega
   refine hgE 33 [oh0,oh1,(oA 7 0 13),(oA 6 0 13),oh2,oh0,oh0,oh0,oh0,⟨false,3,[]⟩,oh0,oh0,⟨false,3,[]⟩,oh0,(oA 5 0 10),(oA 0 0 10)] [0,2,4,6,7,8,9] [tT,vV,oE ((!((((s.st:Int) == s.st) && (((s.ep:Int) == s.ep) && (((s.ou:Int) == s.ou) && (((s.rc.used == s.rc.used) && (((s.rc.fence:Int) == s.rc.fence) && ((((s.rc.de:Int) == s.rc.de) && (((s.rc.ds:Int) == s.rc.ds) && true)) && (((s.rc.block:ByteArray) == s.rc.block) && ((s.rc.op == s.rc.op) && ((((s.rc.ie:Int) == s.rc.ie) && (((s.rc.is:Int) == s.rc.is) && true)) && (((s.rc.mask:Int) == s.rc.mask) && (((s.rc.staged:ByteArray) == s.rc.staged) && true)))))))) && true)))))) = false) (by rw [show ((((s.st:Int) == s.st) && (((s.ep:Int) == s.ep) && (((s.ou:Int) == s.ou) && (((s.rc.used == s.rc.used) && (((s.rc.fence:Int) == s.rc.fence) && ((((s.rc.de:Int) == s.rc.de) && (((s.rc.ds:Int) == s.rc.ds) && true)) && (((s.rc.block:ByteArray) == s.rc.block) && ((s.rc.op == s.rc.op) && ((((s.rc.ie:Int) == s.rc.ie) && (((s.rc.is:Int) == s.rc.is) && true)) && (((s.rc.mask:Int) == s.rc.mask) && (((s.rc.staged:ByteArray) == s.rc.staged) && true)))))))) && true))))) = true from by simp [bytes_beq]]; rfl),oE ((!((((s.st:Int) == s.st) && (((s.ep:Int) == s.ep) && (((s.ou:Int) == s.ou) && (((s.rc.used == s.rc.used) && (((s.rc.fence:Int) == s.rc.fence) && ((((s.rc.de:Int) == s.rc.de) && (((s.rc.ds:Int) == s.rc.ds) && true)) && (((s.rc.block:ByteArray) == s.rc.block) && ((s.rc.op == s.rc.op) && ((((s.rc.ie:Int) == s.rc.ie) && (((s.rc.is:Int) == s.rc.is) && true)) && (((s.rc.mask:Int) == s.rc.mask) && (((s.rc.staged:ByteArray) == s.rc.staged) && true)))))))) && true)))))) = false) (by rw [show ((((s.st:Int) == s.st) && (((s.ep:Int) == s.ep) && (((s.ou:Int) == s.ou) && (((s.rc.used == s.rc.used) && (((s.rc.fence:Int) == s.rc.fence) && ((((s.rc.de:Int) == s.rc.de) && (((s.rc.ds:Int) == s.rc.ds) && true)) && (((s.rc.block:ByteArray) == s.rc.block) && ((s.rc.op == s.rc.op) && ((((s.rc.ie:Int) == s.rc.ie) && (((s.rc.is:Int) == s.rc.is) && true)) && (((s.rc.mask:Int) == s.rc.mask) && (((s.rc.staged:ByteArray) == s.rc.staged) && true)))))))) && true))))) = true from by simp [bytes_beq]]; rfl),oE ((!((((s.st:Int) == s.st) && (((s.ep:Int) == s.ep) && (((s.ou:Int) == s.ou) && (((s.rc.used == s.rc.used) && (((s.rc.fence:Int) == s.rc.fence) && ((((s.rc.de:Int) == s.rc.de) && (((s.rc.ds:Int) == s.rc.ds) && true)) && (((s.rc.block:ByteArray) == s.rc.block) && ((s.rc.op == s.rc.op) && ((((s.rc.ie:Int) == s.rc.ie) && (((s.rc.is:Int) == s.rc.is) && true)) && (((s.rc.mask:Int) == s.rc.mask) && (((s.rc.staged:ByteArray) == s.rc.staged) && true)))))))) && true)))))) = false) (by rw [show ((((s.st:Int) == s.st) && (((s.ep:Int) == s.ep) && (((s.ou:Int) == s.ou) && (((s.rc.used == s.rc.used) && (((s.rc.fence:Int) == s.rc.fence) && ((((s.rc.de:Int) == s.rc.de) && (((s.rc.ds:Int) == s.rc.ds) && true)) && (((s.rc.block:ByteArray) == s.rc.block) && ((s.rc.op == s.rc.op) && ((((s.rc.ie:Int) == s.rc.ie) && (((s.rc.is:Int) == s.rc.is) && true)) && (((s.rc.mask:Int) == s.rc.mask) && (((s.rc.staged:ByteArray) == s.rc.staged) && true)))))))) && true))))) = true from by simp [bytes_beq]]; rfl),oE ((!((((s.st:Int) == s.st) && (((s.ep:Int) == s.ep) && (((s.ou:Int) == s.ou) && (((s.rc.used == s.rc.used) && (((s.rc.fence:Int) == s.rc.fence) && ((((s.rc.de:Int) == s.rc.de) && (((s.rc.ds:Int) == s.rc.ds) && true)) && (((s.rc.block:ByteArray) == s.rc.block) && ((s.rc.op == s.rc.op) && ((((s.rc.ie:Int) == s.rc.ie) && (((s.rc.is:Int) == s.rc.is) && true)) && (((s.rc.mask:Int) == s.rc.mask) && (((s.rc.staged:ByteArray) == s.rc.staged) && true)))))))) && true)))))) = false) (by rw [show ((((s.st:Int) == s.st) && (((s.ep:Int) == s.ep) && (((s.ou:Int) == s.ou) && (((s.rc.used == s.rc.used) && (((s.rc.fence:Int) == s.rc.fence) && ((((s.rc.de:Int) == s.rc.de) && (((s.rc.ds:Int) == s.rc.ds) && true)) && (((s.rc.block:ByteArray) == s.rc.block) && ((s.rc.op == s.rc.op) && ((((s.rc.ie:Int) == s.rc.ie) && (((s.rc.is:Int) == s.rc.is) && true)) && (((s.rc.mask:Int) == s.rc.mask) && (((s.rc.staged:ByteArray) == s.rc.staged) && true)))))))) && true))))) = true from by simp [bytes_beq]]; rfl),fF,fF,fF] [(W31.heap.size,0,13),(z28 + 1,0,13),(z28,0,10),(W3.heap.size + 1,0,10)] [.ops nla_n11 nla_n2,.code nla_n12,.blk 1,.code nla_n19,.inv J,.blk 0,.code [1,1,1,1,1,1,1]] ⟨[(0,.slice (some ⟨b,o,none⟩) n cp),(2,.bool false),(4,(pt pb 0)),(6,(pt nb 0)),(7,i6 0),(8,(pt (W3.heap.size + 1) 0)),(9,i6 (i:Int))],[⟨W3.heap.size + 1,43,true,(nla_v7 x)⟩,⟨sb,82,false,[(pt pb 0),i6 1]⟩,⟨nb,69,false,[(pt sb 0),i6 1]⟩,⟨W20.heap.size,41,true,(nla_v5 acts i)⟩,⟨z17,35,true,(nla_v6 q)⟩,⟨z28,43,true,(nla_v7 x)⟩,⟨z28 + 1,45,true,(nla_v8 s)⟩,⟨W31.heap.size,45,true,(nla_v8 s)⟩],[],W32.heap.size⟩ ?_
   refine holds_prune [0,2,4,6,7,8,9] [true,true,true,false,false,false,false,false] ?_
   exact holds_ground [true,true,true] rfl (fun W hm hmW=>HX W (armPl (servPl (armPl M d) (qs q 0)) 0) x sb nb hCl hy hpsb hsnb (hP32.kept hm.kept (fun x h=>hnT x (hO.mine x h))) (MemOk.back2 hm32 hmW))
  ·skip
   obtain ⟨y,hy⟩:∃ y,gotM (restartPl (armPl (servPl (armPl M d) (qs q 0)) 0) (keepB (acts i).kn kf)) 0 = y:=⟨_,rfl⟩
   replace hy':y = r ∨ y = x:=hy'.imp (fun h=>hy.symm.trans h) (fun h=>hy.symm.trans h)
   refine hgE 3 [] nla_n4 [] [] [.ops nla_n8 [2,3,4,5,6,7,8],.code nla_n16,.blk 1,.code nla_n19,.inv J,.blk 0,.code [1,1,1,1,1,1,1]] ⟨[(0,.slice (some ⟨b,o,none⟩) n cp),(2,.bool false),(4,(pt pb 0)),(6,(pt nb 0)),(7,i6 0),(8,(pt (W3.heap.size + 1) 0)),(9,i6 (i:Int)),(10,(pt W20.heap.size 0)),(11,(pt z17 0)),(12,(pt z28 0)),(13,(pt (z28 + 1) 0)),(84,(pt nb 0)),(85,.agg (List.toArray (nla_v6 q)))],(nla_b4 acts i q r x s pb sb nb W3 W20 z17 z28),[],z28 + 2⟩ ?_
   refine holds_callW (w:=w) (S':=(fun _=>False)) (Y:=Nat) (fun _=>.tuple #[.agg (List.toArray (nla_v10)),.bool false]) (fun _=>(nla_b4 acts i q r x s pb sb nb W3 W20 z17 z28)) (fun _ W_=>PlatAt 64 80 W_ pb (servPl (armPl M d) (qs q 0))) (fun _=>[(86,.tuple #[.agg (List.toArray (nla_v10)),.bool false]),(0,.slice (some ⟨b,o,none⟩) n cp),(2,.bool false),(4,(pt pb 0)),(6,(pt nb 0)),(7,i6 0),(8,(pt (W3.heap.size + 1) 0)),(9,i6 (i:Int)),(10,(pt W20.heap.size 0)),(11,(pt z17 0)),(12,(pt z28 0)),(13,(pt (z28 + 1) 0)),(84,(pt nb 0)),(85,.agg (List.toArray (nla_v6 q)))]) (show _ = some (12,[(pt nb 0),.agg (List.toArray (nla_v6 q))],some 86,[]) by kernel_rfl) tI (fun _=>rfl) (fun wx hm=>?_) (fun _ W31 hP31 hm31=>?_)
   ·refine (serve_pl (armPl M d) pb sb nb 1 (qs q 0) hqok (by show (0:Int) < 1; omega) (by rw [hO.n]; show (0:Int) < 1; omega) hoffd (by omega) (fun h=>by have:=hO.mine sb h; omega) (fun h=>by have:=hO.mine nb h; omega) (by omega) wx (hP30.kept hm.kept (fun x h=>hnT x (hO.mine x h))) (hm.at_ 1 rfl) (hm.at_ 2 rfl)).mono fun e w' ⟨h1,h2,h3⟩=>?_
    rw [hOk,hSy] at h1
    exact ⟨0,h1,h2,(MemOk.back2 hm30 hm).off (fun _ h=>h) h3 (fun x h=>.inr (by have:=hO.mine x h; omega)) (fun b hb h=>hnB b hb (hO.mine _ h))⟩
   have hO':=hO.serv (qs q 0)
   clear hO
   have hO:=hO'
   clear hO'
   clear hnT hnB
   have hPlW31:=hP31.lt.1
   have hgbW31_0:W3.heap.size + 1 < W31.heap.size:=(hm31.at_ 0 rfl).lt
   have hgbW31_1:sb < W31.heap.size:=(hm31.at_ 1 rfl).lt
   have hgbW31_2:nb < W31.heap.size:=(hm31.at_ 2 rfl).lt
   have hgbW31_3:W20.heap.size < W31.heap.size:=(hm31.at_ 3 rfl).lt
   have hgbW31_4:z17 < W31.heap.size:=(hm31.at_ 4 rfl).lt
   have hgbW31_5:z28 < W31.heap.size:=(hm31.at_ 5 rfl).lt
   have hgbW31_6:z28 + 1 < W31.heap.size:=(hm31.at_ 6 rfl).lt
   have hwwW31:=hm31.kept.size
   have hnT:∀ xx,(xx = pb ∨ xx = lb ∨ xx = mb) → ¬ Turned (nla_b4 acts i q r x s pb sb nb W3 W20 z17 z28) xx:=by
    rintro xx hx2 ⟨b,hb,hr,he⟩
    simp at hb
    rcases hb with rfl | rfl | rfl | rfl | rfl | rfl | rfl <;> simp at he hr <;> omega
   have hnB:∀ b ∈ ((nla_b4 acts i q r x s pb sb nb W3 W20 z17 z28):List Bk),¬ (b.g = pb ∨ b.g = lb ∨ b.g = mb):=by
    intro b hb hx2
    simp at hb
    rcases hb with rfl | rfl | rfl | rfl | rfl | rfl | rfl <;> simp at hx2 <;> omega
   refine hgE 13 nla_n21 [0,2,4,6,7,8,9,10,11,12,13,14,15,89] [] [(W31.heap.size,0,13)] [.ops nla_n9 [1,2],.code nla_n15,.blk 1,.code nla_n19,.inv J,.blk 0,.code [1,1,1,1,1,1,1]] ⟨[(0,.slice (some ⟨b,o,none⟩) n cp),(2,.bool false),(4,(pt pb 0)),(6,(pt nb 0)),(7,i6 0),(8,(pt (W3.heap.size + 1) 0)),(9,i6 (i:Int)),(10,(pt W20.heap.size 0)),(11,(pt z17 0)),(12,(pt z28 0)),(13,(pt (z28 + 1) 0)),(14,(pt W31.heap.size 0)),(15,.bool false),(89,(pt pb 0))],(nla_b7 acts i q r x s pb sb nb W3 W20 W31 z17 z28),[],W31.heap.size + 1⟩ ?_
   refine hcp (.bool true) 20 [(pt pb 0)] (some 90) [] tI rfl (fun wx hm=>by have h:=off_pl (servPl (armPl M d) (qs q 0)) pb wx (hP31.kept hm.kept (fun x h=>hnT x (hO.mine x h))); rw [hOf] at h; exact h) fun z40 hz40=>?_
   replace hz40:W31.heap.size + 1 ≤ z40:=hz40
   refine hgE 8 [oh0,oh0] nla_n3 [] [] [.ops nla_n10 [1],.code nla_n14,.blk 1,.code nla_n19,.inv J,.blk 0,.code [1,1,1,1,1,1,1]] ⟨[(0,.slice (some ⟨b,o,none⟩) n cp),(2,.bool false),(4,(pt pb 0)),(6,(pt nb 0)),(7,i6 0),(8,(pt (W3.heap.size + 1) 0)),(9,i6 (i:Int)),(10,(pt W20.heap.size 0)),(11,(pt z17 0)),(12,(pt z28 0)),(13,(pt (z28 + 1) 0)),(14,(pt W31.heap.size 0)),(15,.bool false),(16,.bool true),(91,(pt pb 0))],(nla_b7 acts i q r x s pb sb nb W3 W20 W31 z17 z28),[],z40⟩ ?_
   clear hnB
   have hnB:∀ b ∈ ((nla_b7 acts i q r x s pb sb nb W3 W20 W31 z17 z28):List Bk),¬ (b.g = pb ∨ b.g = lb ∨ b.g = mb):=by
    intro b hb hx2
    simp at hb
    rcases hb with rfl | rfl | rfl | rfl | rfl | rfl | rfl | rfl <;> simp at hx2 <;> omega
   refine holds_callW (w:=w) (S':=(fun _=>False)) (Y:=Nat) (fun _=>i6 0) (fun _=>(nla_b7 acts i q r x s pb sb nb W3 W20 W31 z17 z28)) (fun _ W_=>PlatAt 64 80 W_ pb (armPl (servPl (armPl M d) (qs q 0)) 0)) (fun _=>[(92,i6 0),(0,.slice (some ⟨b,o,none⟩) n cp),(2,.bool false),(4,(pt pb 0)),(6,(pt nb 0)),(7,i6 0),(8,(pt (W3.heap.size + 1) 0)),(9,i6 (i:Int)),(10,(pt W20.heap.size 0)),(11,(pt z17 0)),(12,(pt z28 0)),(13,(pt (z28 + 1) 0)),(14,(pt W31.heap.size 0)),(15,.bool false),(16,.bool true),(91,(pt pb 0))]) (show _ = some (18,[(pt pb 0),i6 0],some 92,[]) by kernel_rfl) tI (fun _=>rfl) (fun wx hm=>?_) (fun _ W32 hP32 hm32=>?_)
   ·refine (arm_pl (servPl (armPl M d) (qs q 0)) pb 0 wx (hP31.kept hm.kept (fun x h=>hnT x (hO.mine x h)))).mono fun e w' ⟨h1,h2,h3⟩=>?_
    exact ⟨0,h1,h2,(MemOk.back2 hm31 hm).off (fun _ h=>h) h3 (fun x h=>.inr (by have:=hO.mine x h; omega)) (fun b hb h=>hnB b hb (hO.mine _ h))⟩
   have hO':=hO.arm 0
   clear hO
   have hO:=hO'
   clear hO'
   clear hnT hnB
   have hPlW32:=hP32.lt.1
   have hgbW32_0:W3.heap.size + 1 < W32.heap.size:=(hm32.at_ 0 rfl).lt
   have hgbW32_1:sb < W32.heap.size:=(hm32.at_ 1 rfl).lt
   have hgbW32_2:nb < W32.heap.size:=(hm32.at_ 2 rfl).lt
   have hgbW32_3:W20.heap.size < W32.heap.size:=(hm32.at_ 3 rfl).lt
   have hgbW32_4:z17 < W32.heap.size:=(hm32.at_ 4 rfl).lt
   have hgbW32_5:z28 < W32.heap.size:=(hm32.at_ 5 rfl).lt
   have hgbW32_6:z28 + 1 < W32.heap.size:=(hm32.at_ 6 rfl).lt
   have hgbW32_7:W31.heap.size < W32.heap.size:=(hm32.at_ 7 rfl).lt
   have hwwW32:=hm32.kept.size
   have hnT:∀ xx,(xx = pb ∨ xx = lb ∨ xx = mb) → ¬ Turned (nla_b7 acts i q r x s pb sb nb W3 W20 W31 z17 z28) xx:=by
    rintro xx hx2 ⟨b,hb,hr,he⟩
    simp at hb
    rcases hb with rfl | rfl | rfl | rfl | rfl | rfl | rfl | rfl <;> simp at he hr <;> omega
   have hnB:∀ b ∈ ((nla_b7 acts i q r x s pb sb nb W3 W20 W31 z17 z28):List Bk),¬ (b.g = pb ∨ b.g = lb ∨ b.g = mb):=by
    intro b hb hx2
    simp at hb
    rcases hb with rfl | rfl | rfl | rfl | rfl | rfl | rfl | rfl <;> simp at hx2 <;> omega
   refine hgE 23 [oh0,oh0,oh0,oh0,oh0,oh0,oh0,(oA 3 13 1)] [0,2,4,6,7,8,9,12,108,110] [fF,fF] [(W20.heap.size,13,1)] [.ops [1,1,1,1,1,1,0,1,0,0,1,0,0,1,1,1,1,1,1,1,1,0,1,1,1,0] [3],.code [1,1,1,1,1,1,0,1,0,0,1,0,0,1,1,1,1,1,1,1,1,0,1,1,1,1],.code nla_n13,.blk 1,.code nla_n19,.inv J,.blk 0,.code [1,1,1,1,1,1,1]] ⟨[(0,.slice (some ⟨b,o,none⟩) n cp),(2,.bool false),(4,(pt pb 0)),(6,(pt nb 0)),(7,i6 0),(8,(pt (W3.heap.size + 1) 0)),(9,i6 (i:Int)),(12,(pt z28 0)),(108,(pt pb 0)),(110,.slice (acts i).ka ((acts i).kn) ((acts i).kc))],(nla_b7 acts i q r x s pb sb nb W3 W20 W31 z17 z28),[],W32.heap.size⟩ ?_
   refine holds_callW (w:=w) (S':=(fun _=>False)) (Y:=Nat) (fun _=>.tuple #[]) (fun _=>(nla_b7 acts i q r x s pb sb nb W3 W20 W31 z17 z28)) (fun _ W_=>PlatAt 64 80 W_ pb (restartPl (armPl (servPl (armPl M d) (qs q 0)) 0) (keepB (acts i).kn kf))) (fun _=>[(111,.tuple #[]),(0,.slice (some ⟨b,o,none⟩) n cp),(2,.bool false),(4,(pt pb 0)),(6,(pt nb 0)),(7,i6 0),(8,(pt (W3.heap.size + 1) 0)),(9,i6 (i:Int)),(12,(pt z28 0)),(108,(pt pb 0)),(110,.slice (acts i).ka ((acts i).kn) ((acts i).kc))]) (show _ = some (21,[(pt pb 0),.slice (acts i).ka ((acts i).kn) ((acts i).kc)],some 111,[]) by kernel_rfl) tI (fun _=>rfl) (fun wx hm=>?_) (fun _ W33 hP33 hm33=>?_)
   ·refine (restart_pl (armPl (servPl (armPl M d) (qs q 0)) 0) pb (acts i).ka (acts i).kn (acts i).kc kf wx (hP32.kept hm.kept (fun x h=>hnT x (hO.mine x h))) (fun k hk=>by obtain ⟨_,b,o,hA,hb,hc⟩:=hkf k hk; have hq:=MemOk.back2 hm32 hm; exact ⟨b,o,hA,Nat.lt_of_lt_of_le hb hq.kept.size,fun hx=>(by have:=hO.mine _ hx; omega),(hq.kept.cell (p:=⟨b,o + k * 1 + 0,none⟩) hb id).trans (hc 0 (by omega))⟩)).mono fun e w' ⟨h1,h2,h3⟩=>?_
    exact ⟨0,h1,h2,(MemOk.back2 hm32 hm).off (fun _ h=>h) h3 (fun x h=>.inr (by have:=hO.mine x h; omega)) (fun b hb h=>hnB b hb (hO.mine _ h))⟩
   have hO':=hO.restart (keepB (acts i).kn kf)
   clear hO
   have hO:=hO'
   clear hO'
   clear hnT hnB
   have hPlW33:=hP33.lt.1
   have hgbW33_0:W3.heap.size + 1 < W33.heap.size:=(hm33.at_ 0 rfl).lt
   have hgbW33_1:sb < W33.heap.size:=(hm33.at_ 1 rfl).lt
   have hgbW33_2:nb < W33.heap.size:=(hm33.at_ 2 rfl).lt
   have hgbW33_3:W20.heap.size < W33.heap.size:=(hm33.at_ 3 rfl).lt
   have hgbW33_4:z17 < W33.heap.size:=(hm33.at_ 4 rfl).lt
   have hgbW33_5:z28 < W33.heap.size:=(hm33.at_ 5 rfl).lt
   have hgbW33_6:z28 + 1 < W33.heap.size:=(hm33.at_ 6 rfl).lt
   have hgbW33_7:W31.heap.size < W33.heap.size:=(hm33.at_ 7 rfl).lt
   have hwwW33:=hm33.kept.size
   have hnT:∀ xx,(xx = pb ∨ xx = lb ∨ xx = mb) → ¬ Turned (nla_b7 acts i q r x s pb sb nb W3 W20 W31 z17 z28) xx:=by
    rintro xx hx2 ⟨b,hb,hr,he⟩
    simp at hb
    rcases hb with rfl | rfl | rfl | rfl | rfl | rfl | rfl | rfl <;> simp at he hr <;> omega
   have hnB:∀ b ∈ ((nla_b7 acts i q r x s pb sb nb W3 W20 W31 z17 z28):List Bk),¬ (b.g = pb ∨ b.g = lb ∨ b.g = mb):=by
    intro b hb hx2
    simp at hb
    rcases hb with rfl | rfl | rfl | rfl | rfl | rfl | rfl | rfl <;> simp at hx2 <;> omega
   refine hgE 7 [oh0] [0,2,4,6,7,8,9,12,113] [] [] [.ops [1,1,1,1,1,1,0,1,0,0,1,0,0,1,1,1,1,1,1,1,1,0,1,1,1,1,0] [1,2,3,4,5,6],.code [1,1,1,1,1,1,0,1,0,0,1,0,0,1,1,1,1,1,1,1,1,0,1,1,1,1,1],.code nla_n13,.blk 1,.code nla_n19,.inv J,.blk 0,.code [1,1,1,1,1,1,1]] ⟨[(0,.slice (some ⟨b,o,none⟩) n cp),(2,.bool false),(4,(pt pb 0)),(6,(pt nb 0)),(7,i6 0),(8,(pt (W3.heap.size + 1) 0)),(9,i6 (i:Int)),(12,(pt z28 0)),(113,(pt pb 0))],(nla_b7 acts i q r x s pb sb nb W3 W20 W31 z17 z28),[],W33.heap.size⟩ ?_
   refine holds_callW (w:=w) (S':=(fun _=>False)) (Y:=Nat × Nat) (fun (⟨sb2,nb2⟩:Nat × Nat)=>.tuple #[(pt nb2 0),i6 0]) (fun (⟨sb2,nb2⟩:Nat × Nat)=>(nla_b8 acts i q r x s pb sb sb2 nb nb2 W3 W20 W31 z17 z28)) (fun (⟨sb2,nb2⟩:Nat × Nat) W_=>(W33.heap.size ≤ sb2 ∧ sb2 < nb2) ∧ PlatAt 64 80 W_ pb (restartPl (armPl (servPl (armPl M d) (qs q 0)) 0) (keepB (acts i).kn kf))) (fun (⟨sb2,nb2⟩:Nat × Nat)=>[(114,.tuple #[(pt nb2 0),i6 0]),(0,.slice (some ⟨b,o,none⟩) n cp),(2,.bool false),(4,(pt pb 0)),(6,(pt nb 0)),(7,i6 0),(8,(pt (W3.heap.size + 1) 0)),(9,i6 (i:Int)),(12,(pt z28 0)),(113,(pt pb 0))]) (show _ = some (9,[(pt pb 0),i6 1],some 114,[]) by kernel_rfl) tI (fun _=>rfl) (fun wx hm=>?_) (fun y W34 hX34 hm34=>?_)
   ·refine (nodeNew_st (restartPl (armPl (servPl (armPl M d) (qs q 0)) 0) (keepB (acts i).kn kf)) pb 1 (by omega) (by rw [hO.n]; omega) wx (hP33.kept hm.kept (fun x h=>hnT x (hO.mine x h)))).mono fun e w' ⟨sb',nb',he,h1,h2,h3,h4,h5⟩=>?_
    have hs:wx.heap.size = W33.heap.size:=hm.size
    exact ⟨(sb',nb'),he,⟨⟨by omega,h2⟩,(hP33.kept hm.kept (fun x h=>hnT x (hO.mine x h))).kept h5 (fun _ _ h=>h)⟩,((MemOk.back2 hm33 hm).add h5 [⟨sb',82,false,_⟩,⟨nb',69,false,_⟩] ⟨h3,h4,trivial⟩ (by simp; omega) (by simp; omega)).2⟩
   obtain ⟨sb2,nb2⟩:=y
   obtain ⟨⟨hz_sb2,hy_nb2⟩,hP34⟩:=hX34
   clear hnT hnB
   have hPlW34:=hP34.lt.1
   have hgbW34_0:W3.heap.size + 1 < W34.heap.size:=(hm34.at_ 0 rfl).lt
   have hgbW34_1:sb < W34.heap.size:=(hm34.at_ 1 rfl).lt
   have hgbW34_2:nb < W34.heap.size:=(hm34.at_ 2 rfl).lt
   have hgbW34_3:W20.heap.size < W34.heap.size:=(hm34.at_ 3 rfl).lt
   have hgbW34_4:z17 < W34.heap.size:=(hm34.at_ 4 rfl).lt
   have hgbW34_5:z28 < W34.heap.size:=(hm34.at_ 5 rfl).lt
   have hgbW34_6:z28 + 1 < W34.heap.size:=(hm34.at_ 6 rfl).lt
   have hgbW34_7:W31.heap.size < W34.heap.size:=(hm34.at_ 7 rfl).lt
   have hgbW34_8:sb2 < W34.heap.size:=(hm34.at_ 8 rfl).lt
   have hgbW34_9:nb2 < W34.heap.size:=(hm34.at_ 9 rfl).lt
   have hwwW34:=hm34.kept.size
   have hnT:∀ xx,(xx = pb ∨ xx = lb ∨ xx = mb) → ¬ Turned (nla_b8 acts i q r x s pb sb sb2 nb nb2 W3 W20 W31 z17 z28) xx:=by
    rintro xx hx2 ⟨b,hb,hr,he⟩
    simp at hb
    rcases hb with rfl | rfl | rfl | rfl | rfl | rfl | rfl | rfl | rfl | rfl <;> simp at he hr <;> omega
   have hnB:∀ b ∈ ((nla_b8 acts i q r x s pb sb sb2 nb nb2 W3 W20 W31 z17 z28):List Bk),¬ (b.g = pb ∨ b.g = lb ∨ b.g = mb):=by
    intro b hb hx2
    simp at hb
    rcases hb with rfl | rfl | rfl | rfl | rfl | rfl | rfl | rfl | rfl | rfl <;> simp at hx2 <;> omega
   refine hgE 24 [oh0,oh0,oh0,oh0,oh0,oh0,oh0,oh0,oh0,oh0,⟨false,3,[]⟩,oh0,oh0] [0,2,4,6,7,8,9,12,124] [fF,fF,fF,fF] [] [.ops [1,1,1,1,1,1,0,1,0,0,1,0,0,1,1,1,1,1,1,1,1,0,1,1,1,1,1,1,0] [1,2,3,4,5,6,7],.code [1,1,1,1,1,1,0,1,0,0,1,0,0,1,1,1,1,1,1,1,1,0,1,1,1,1,1,1,1],.code nla_n13,.blk 1,.code nla_n19,.inv J,.blk 0,.code [1,1,1,1,1,1,1]] ⟨[(0,.slice (some ⟨b,o,none⟩) n cp),(2,.bool false),(4,(pt pb 0)),(6,(pt nb2 0)),(7,i6 0),(8,(pt (W3.heap.size + 1) 0)),(9,i6 (i:Int)),(12,(pt z28 0)),(124,(pt nb2 0))],(nla_b8 acts i q r x s pb sb sb2 nb nb2 W3 W20 W31 z17 z28),[],W34.heap.size⟩ ?_
   refine hcp (.tuple #[.agg (List.toArray (nla_v9 y)),.bool true]) 15 [(pt nb2 0),i6 0] (some 125) [] tI rfl (fun wx hm=>by have h:=record_pl (restartPl (armPl (servPl (armPl M d) (qs q 0)) 0) (keepB (acts i).kn kf)) pb sb2 nb2 1 0 (by omega) (by rw [hO.n]; omega) hCl.on.off (by omega) wx (hP34.kept hm.kept (fun x h=>hnT x (hO.mine x h))) (hm.at_ 8 rfl) (hm.at_ 9 rfl); rw [hy] at h; exact h) fun z48 hz48=>?_
   replace hz48:W34.heap.size ≤ z48:=hz48
   refine hgE 20 [oh0,oh0,oh0,oh0,(oA 10 0 10),oh0,oh0,oh0,oh0,(oA 10 0 10),(oA 0 0 10),oh2,oh0] [0,2,4,6,7,8,9,12,17,130,134] [fF,fF,fF,vV,fF] [(z48,0,10),(z48,0,10),(W3.heap.size + 1,0,10)] [.ops [1,1,1,1,1,1,0,1,0,0,1,0,0,1,1,1,1,1,1,1,1,0,1,1,1,1,1,1,1,0,0] [7,8,9,10,11],.code [1,1,1,1,1,1,0,1,0,0,1,0,0,1,1,1,1,1,1,1,1,0,1,1,1,1,1,1,1,0,1],.code [1,1,1,1,1,1,0,1,0,0,1,0,0,1,1,1,1,1,1,1,1,0,1,1,1,1,1,1,1,1],.code nla_n13,.blk 1,.code nla_n19,.inv J,.blk 0,.code [1,1,1,1,1,1,1]] ⟨[(0,.slice (some ⟨b,o,none⟩) n cp),(2,.bool false),(4,(pt pb 0)),(6,(pt nb2 0)),(7,i6 0),(8,(pt (W3.heap.size + 1) 0)),(9,i6 (i:Int)),(12,(pt z28 0)),(17,(pt z48 0)),(130,.bool false),(134,.bool (!(((y.used == r.used) && (((y.fence:Int) == r.fence) && ((((y.de:Int) == r.de) && (((y.ds:Int) == r.ds) && true)) && (((y.block:ByteArray) == r.block) && ((y.op == r.op) && ((((y.ie:Int) == r.ie) && (((y.is:Int) == r.is) && true)) && (((y.mask:Int) == r.mask) && (((y.staged:ByteArray) == r.staged) && true)))))))))))],[⟨W3.heap.size + 1,43,true,(nla_v1 r)⟩,⟨sb,82,false,[(pt pb 0),i6 1]⟩,⟨nb,69,false,[(pt sb 0),i6 1]⟩,⟨W20.heap.size,41,true,(nla_v5 acts i)⟩,⟨z17,35,true,(nla_v6 q)⟩,⟨z28,43,true,(nla_v7 x)⟩,⟨z28 + 1,45,true,(nla_v8 s)⟩,⟨W31.heap.size,45,true,(nla_v10)⟩,⟨sb2,82,false,[(pt pb 0),i6 1]⟩,⟨nb2,69,false,[(pt sb2 0),i6 1]⟩,⟨z48,43,true,(nla_v9 y)⟩],[],z48 + 1⟩ ?_
   rcases Bool.eq_false_or_eq_true (recB y r) with hE | hE
   ·skip
    have hEr:(((y.used == r.used) && (((y.fence:Int) == r.fence) && ((((y.de:Int) == r.de) && (((y.ds:Int) == r.ds) && true)) && (((y.block:ByteArray) == r.block) && ((y.op == r.op) && ((((y.ie:Int) == r.ie) && (((y.is:Int) == r.is) && true)) && (((y.mask:Int) == r.mask) && (((y.staged:ByteArray) == r.staged) && true))))))))) = true:=hE
    refine hgE 17 [oh0,oh0,oh0,⟨false,3,[]⟩,⟨false,3,[]⟩,oh0,(oA 10 0 10),(oA 0 0 10)] [0,2,4,6,7,8,9] [eD (nF hEr),eD (nF hEr),eD (nF hEr),fF,eD (nF hEr),fF,fF] [(z48,0,10),(W3.heap.size + 1,0,10)] [.ops nla_n11 nla_n2,.code nla_n12,.blk 1,.code nla_n19,.inv J,.blk 0,.code [1,1,1,1,1,1,1]] ⟨[(0,.slice (some ⟨b,o,none⟩) n cp),(2,.bool false),(4,(pt pb 0)),(6,(pt nb2 0)),(7,i6 0),(8,(pt (W3.heap.size + 1) 0)),(9,i6 (i:Int))],(nla_b9 acts i q x y s pb sb sb2 nb nb2 W3 W20 W31 z17 z28 z48),[],z48 + 1⟩ ?_
    refine holds_prune [0,2,4,6,7,8,9] nla_n20 ?_
    exact holds_ground [true,true,true] rfl (fun W hm hmW=>HX W (restartPl (armPl (servPl (armPl M d) (qs q 0)) 0) (keepB (acts i).kn kf)) y sb2 nb2 hCl hy (by omega) hy_nb2 (hP34.kept hm.kept (fun x h=>hnT x (hO.mine x h))) (MemOk.back2 hm34 hmW))
   ·skip
    have hEr:(((y.used == r.used) && (((y.fence:Int) == r.fence) && ((((y.de:Int) == r.de) && (((y.ds:Int) == r.ds) && true)) && (((y.block:ByteArray) == r.block) && ((y.op == r.op) && ((((y.ie:Int) == r.ie) && (((y.is:Int) == r.is) && true)) && (((y.mask:Int) == r.mask) && (((y.staged:ByteArray) == r.staged) && true))))))))) = false:=hE
    have hEx:(((y.used == x.used) && (((y.fence:Int) == x.fence) && ((((y.de:Int) == x.de) && (((y.ds:Int) == x.ds) && true)) && (((y.block:ByteArray) == x.block) && ((y.op == x.op) && ((((y.ie:Int) == x.ie) && (((y.is:Int) == x.is) && true)) && (((y.mask:Int) == x.mask) && (((y.staged:ByteArray) == x.staged) && true))))))))) = true:=(recB_iff y x).2 (hy'.resolve_left (fun e=>by rw [(recB_iff y r).2 e] at hE; cases hE))
    refine hgE 17 [⟨true,0,[⟨false,10,0,10⟩]⟩,⟨true,0,[⟨false,5,0,10⟩]⟩,⟨true,1,[]⟩,oh3,⟨false,3,[]⟩,oh0,(oA 10 0 10),(oA 0 0 10)] [0,2,4,6,7,8,9] [eD (nT hEr),eD (nT hEr),eD (nT hEr),vV,fF,eD (nT hEr),fF,eD (nF hEx)] [(z48,0,10),(z28,0,10),(z48,0,10),(W3.heap.size + 1,0,10)] [.ops nla_n11 nla_n2,.code nla_n12,.blk 1,.code nla_n19,.inv J,.blk 0,.code [1,1,1,1,1,1,1]] ⟨[(0,.slice (some ⟨b,o,none⟩) n cp),(2,.bool false),(4,(pt pb 0)),(6,(pt nb2 0)),(7,i6 0),(8,(pt (W3.heap.size + 1) 0)),(9,i6 (i:Int))],(nla_b9 acts i q x y s pb sb sb2 nb nb2 W3 W20 W31 z17 z28 z48),[],z48 + 1⟩ ?_
    refine holds_prune [0,2,4,6,7,8,9] nla_n20 ?_
    exact holds_ground [true,true,true] rfl (fun W hm hmW=>HX W (restartPl (armPl (servPl (armPl M d) (qs q 0)) 0) (keepB (acts i).kn kf)) y sb2 nb2 hCl hy (by omega) hy_nb2 (hP34.kept hm.kept (fun x h=>hnT x (hO.mine x h))) (MemOk.back2 hm34 hmW))
 clear hnT hnB hSV
 intro W50 M4 y sb2 nb2 hCl hy hps2 hsn2 hP50 hm50
 clear hO
 have hO:=hCl.on.lm
 have hPlW50:=hP50.lt.1
 have hgbW50_0:W3.heap.size + 1 < W50.heap.size:=(hm50.at_ 0 rfl).lt
 have hgbW50_1:sb2 < W50.heap.size:=(hm50.at_ 1 rfl).lt
 have hgbW50_2:nb2 < W50.heap.size:=(hm50.at_ 2 rfl).lt
 have hwwW50:=hm50.kept.size
 have hnT:∀ xx,(xx = pb ∨ xx = lb ∨ xx = mb) → ¬ Turned (nla_b5 y pb sb2 nb2 W3) xx:=by
  rintro xx hx2 ⟨b,hb,hr,he⟩
  simp at hb
  rcases hb with rfl | rfl | rfl <;> simp at he hr <;> omega
 have hnB:∀ b ∈ ((nla_b5 y pb sb2 nb2 W3):List Bk),¬ (b.g = pb ∨ b.g = lb ∨ b.g = mb):=by
  intro b hb hx2
  simp at hb
  rcases hb with rfl | rfl | rfl <;> simp at hx2 <;> omega
 refine hgE 4 [oh0] [0,2,4,6,7,8,9,142] [] [] [.ops nla_n11 [1,2,3,4,5,6,7],.code nla_n12,.blk 1,.code nla_n19,.inv J,.blk 0,.code [1,1,1,1,1,1,1]] ⟨[(0,.slice (some ⟨b,o,none⟩) n cp),(2,.bool false),(4,(pt pb 0)),(6,(pt nb2 0)),(7,i6 0),(8,(pt (W3.heap.size + 1) 0)),(9,i6 (i:Int)),(142,(pt nb2 0))],(nla_b5 y pb sb2 nb2 W3),[],W50.heap.size⟩ ?_
 refine hcp (.tuple #[.agg (List.toArray (nla_v9 y)),.bool true]) 15 [(pt nb2 0),i6 0] (some 143) [] tI rfl (fun wx hm=>by have h:=record_pl M4 pb sb2 nb2 1 0 (by omega) (by rw [hO.n]; omega) hCl.on.off (by omega) wx (hP50.kept hm.kept (fun x h=>hnT x (hO.mine x h))) (hm.at_ 1 rfl) (hm.at_ 2 rfl); rw [hy] at h; exact h) fun z53 hz53=>?_
 replace hz53:W50.heap.size ≤ z53:=hz53
 refine hgE 28 [oh0,oh0,oh0,oh0,(oA 3 0 10),oh0,oh0,oh0,oh0,(oA 3 0 10),(oA 0 0 10),oh2,⟨false,3,[]⟩,oh0,oh0,oh2,oh0] [0,2,4,6,7,8,9] [fF,fF,fF,vV,fF,oE ((!(((y.used == y.used) && (((y.fence:Int) == y.fence) && ((((y.de:Int) == y.de) && (((y.ds:Int) == y.ds) && true)) && (((y.block:ByteArray) == y.block) && ((y.op == y.op) && ((((y.ie:Int) == y.ie) && (((y.is:Int) == y.is) && true)) && (((y.mask:Int) == y.mask) && (((y.staged:ByteArray) == y.staged) && true)))))))))) = false) (by rw [show (((y.used == y.used) && (((y.fence:Int) == y.fence) && ((((y.de:Int) == y.de) && (((y.ds:Int) == y.ds) && true)) && (((y.block:ByteArray) == y.block) && ((y.op == y.op) && ((((y.ie:Int) == y.ie) && (((y.is:Int) == y.is) && true)) && (((y.mask:Int) == y.mask) && (((y.staged:ByteArray) == y.staged) && true))))))))) = true from by simp [bytes_beq]]; rfl),n64 (((i:Int) + 1))] [(z53,0,10),(z53,0,10),(W3.heap.size + 1,0,10)] [.inv J,.blk 0,.code [1,1,1,1,1,1,1]] ⟨[(0,.slice (some ⟨b,o,none⟩) n cp),(2,.bool false),(4,(pt pb 0)),(6,(pt nb2 0)),(7,i6 0),(8,(pt (W3.heap.size + 1) 0)),(9,i6 ((i:Int) + 1))],[⟨W3.heap.size + 1,43,true,(nla_v9 y)⟩,⟨sb2,82,false,[(pt pb 0),i6 1]⟩,⟨nb2,69,false,[(pt sb2 0),i6 1]⟩,⟨z53,43,true,(nla_v9 y)⟩],[],z53 + 1⟩ ?_
 refine holds_prune [0,2,4,6,7,8,9] [true,true,true,false] ?_
 rw [show 2 + 2 * (i:Int) + 2 = 2 + 2 * ((i + 1:Nat):Int) by omega] at hCl
 intro a_ w4 hf hm
 exact hJ (m - 1) _ a_ w4 (by omega) ⟨i + 1,M4,y,sb2,nb2,_,by omega,hCl,hy,⟨hps2,hsn2⟩,(hP50.kept hm.kept (fun x h=>hnT x (hO.mine x h))),by rw [← cast_succ i]; rfl⟩ hf (MemOk.back2 hm50 hm)
end Go.Proofs.Ytfiheghjhgnblaa
