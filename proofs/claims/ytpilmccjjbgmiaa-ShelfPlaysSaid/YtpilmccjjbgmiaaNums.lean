import Derived.Test.YtpilmccjjbgmiaaEngS
import Derived.Test.YtpilmccjjbgmiaaProg
namespace Go.Proofs.Ytpilmccjjbgmiaa
open Go.RowKit
def numOff:Nat → Nat
 | 0=>1
 | 1=>2
 | 2=>3
 | 3=>6
 | _=>7
def NumsSp (pre:List Nat):Prop:=∃ i,i < 5 ∧ pre = List.range (i + 1)
theorem abides_none {β:Type} {B:Nat} {J:β → World → Prop} (h:AbidesFrom B J) {s:β} {W W':World} (hs:J s W) (hk:Kept (fun _=>False) W W'):J s W':=
 h s W W' none hs ⟨hk.os,hk.tape,hk.output,hk.size,fun k hk' _=>hk.block k hk' id⟩ (fun _ e=>by cases e)
set_option maxRecDepth 100000 in
set_option maxHeartbeats 4000000 in
theorem nums_stops (m Bn rb:Nat) (w:World) (hB:Blk w Bn 79 [.pointer (some ⟨rb,0,none⟩)]) :
  SeqStopsK Fence.wide m Try.prog 68 #[.pointer (some ⟨Bn,0,none⟩)] (fun i:Nat=>#[.pointer (some ⟨rb,numOff i,none⟩)]) (fun W W'=>Kept (fun x=>x ≠ Bn) W W') (fun xs=>xs = [0,1,2,3,4]) NumsSp 5 w:=by
 intro l J Jx W hW hJ hJx hY h0
 have hBW:Blk W Bn 79 [.pointer (some ⟨rb,0,none⟩)]:=(hW.block Bn hB.lt).trans hB
 refine callsIn_of_holdsR (S:=(fun _=>False)) (l:=[.func (.yield l) #[] #[],.pointer (some ⟨Bn,0,none⟩)]) (n:=40) (bk:=[⟨Bn,79,false,[.pointer (some ⟨rb,0,none⟩)]⟩]) (wn:=[]) (fun _=>trivial) rfl Try.func68 (body_of (by kernel_rfl)) rfl (by simp) (MemOk.start (by simpa using hBW) (by simp) (by simp) (by simp)) ?_
 refine holdsR_go (fun _=>trivial) (f:=8) (hs:=[⟨false,0,[]⟩,⟨false,0,[⟨false,0,0,1⟩]⟩,⟨false,0,[]⟩,⟨false,0,[]⟩]) [0,1,3,6] [] (show _ = some (Res.mk [] (dupR [(Bn,0,1)]) [.ops [] [4,5,6,7,8,9,10,11,12,13,14,15,16,17,18,19,20,21,22,23,24,25,26,27,28,29,30,31,32,33,34,35,36]] ⟨[(0,.func (.yield l) #[] #[]),(1,.pointer (some ⟨Bn,0,none⟩)),(3,.func (.yield l) #[] #[]),(6,.pointer (some ⟨rb,1,none⟩))],[⟨Bn,79,false,[.pointer (some ⟨rb,0,none⟩)]⟩],[],W.heap.size⟩) by kernel_rfl) trivial ?_
 refine holdsR_yield (l:=[5,6,7,8,9,10,11,12,13,14,15,16,17,18,19,20,21,22,23,24,25,26,27,28,29,30,31,32,33,34,35,36]) (dst:=some 7) (lp:=l) (args:=#[.pointer (some ⟨rb,1,none⟩)]) (c:=true) (gd:=none) (fun _=>trivial) rfl (by kernel_rfl) (by kernel_rfl) (by intro j hj; cases hj) (fun _=>rfl) (fun wx hm=>?_)
 have h0:=abides_none hJ h0 hm.kept
 refine YieldAt.mono (hY [] 0 wx h0 (by simp)) (fun e wx1 he=>?_)
 have hB0:=hm.at_ 0 rfl
 rcases he with ⟨rfl,g0,k0⟩ | ⟨rfl,g0⟩
 ·skip
  have hC0:=hB0.kept k0 (by simp)
  refine ⟨.bool true,[(7,.bool true),(0,.func (.yield l) #[] #[]),(1,.pointer (some ⟨Bn,0,none⟩)),(3,.func (.yield l) #[] #[]),(6,.pointer (some ⟨rb,1,none⟩))],rfl,rfl,[⟨Bn,79,false,[.pointer (some ⟨rb,0,none⟩)]⟩],[],(fun _=>False),MemOk.start (by simpa using hC0) (by simp) (by simp) (by simp),?_⟩
  refine holdsR_go (fun _=>trivial) (f:=9) (hs:=[⟨false,0,[]⟩,⟨true,0,[]⟩,⟨true,0,[⟨false,0,0,1⟩]⟩,⟨true,0,[]⟩,⟨true,0,[]⟩,⟨true,0,[]⟩]) [0,1,8,9,13] [] (show _ = some (Res.mk [true = true,true = true,true = true,true = true,true = true] (dupR [(Bn,0,1)]) [.ops [] [11,12,13,14,15,16,17,18,19,20,21,22,23,24,25,26,27,28,29,30,31,32,33,34,35,36]] ⟨[(0,.func (.yield l) #[] #[]),(1,.pointer (some ⟨Bn,0,none⟩)),(8,.bool true),(9,.func (.yield l) #[] #[]),(13,.pointer (some ⟨rb,2,none⟩))],[⟨Bn,79,false,[.pointer (some ⟨rb,0,none⟩)]⟩],[],wx1.heap.size⟩) by kernel_rfl) ⟨rfl,rfl,rfl,rfl,rfl,trivial⟩ ?_
  refine holdsR_yield (l:=[12,13,14,15,16,17,18,19,20,21,22,23,24,25,26,27,28,29,30,31,32,33,34,35,36]) (dst:=some 14) (lp:=l) (args:=#[.pointer (some ⟨rb,2,none⟩)]) (c:=true) (gd:=(some 5)) (fun _=>trivial) rfl (by kernel_rfl) (by kernel_rfl) (by intro j hj; cases hj; kernel_rfl) (fun _=>rfl) (fun wx hm=>?_)
  have h1:=abides_none hJ g0 hm.kept
  refine YieldAt.mono (hY [0] 1 wx h1 (by simp)) (fun e wx2 he=>?_)
  have hB1:=hm.at_ 0 rfl
  rcases he with ⟨rfl,g1,k1⟩ | ⟨rfl,g1⟩
  ·skip
   have hC1:=hB1.kept k1 (by simp)
   refine ⟨.bool true,[(14,.bool true),(0,.func (.yield l) #[] #[]),(1,.pointer (some ⟨Bn,0,none⟩)),(8,.bool true),(9,.func (.yield l) #[] #[]),(13,.pointer (some ⟨rb,2,none⟩))],rfl,rfl,[⟨Bn,79,false,[.pointer (some ⟨rb,0,none⟩)]⟩],[],(fun _=>False),MemOk.start (by simpa using hC1) (by simp) (by simp) (by simp),?_⟩
   refine holdsR_go (fun _=>trivial) (f:=10) (hs:=[⟨false,2,[]⟩,⟨false,0,[]⟩,⟨true,0,[]⟩,⟨true,0,[⟨false,0,0,1⟩]⟩,⟨true,0,[]⟩,⟨true,0,[]⟩,⟨true,0,[]⟩]) [0,1,16,17,21] [] (show _ = some (Res.mk [true = true,true = true,true = true,true = true,true = true,true = true] (dupR [(Bn,0,1)]) [.ops [] [19,20,21,22,23,24,25,26,27,28,29,30,31,32,33,34,35,36]] ⟨[(0,.func (.yield l) #[] #[]),(1,.pointer (some ⟨Bn,0,none⟩)),(16,.bool true),(17,.func (.yield l) #[] #[]),(21,.pointer (some ⟨rb,3,none⟩))],[⟨Bn,79,false,[.pointer (some ⟨rb,0,none⟩)]⟩],[],wx2.heap.size⟩) by kernel_rfl) ⟨rfl,rfl,rfl,rfl,rfl,rfl,trivial⟩ ?_
   refine holdsR_yield (l:=[20,21,22,23,24,25,26,27,28,29,30,31,32,33,34,35,36]) (dst:=some 22) (lp:=l) (args:=#[.pointer (some ⟨rb,3,none⟩)]) (c:=true) (gd:=(some 13)) (fun _=>trivial) rfl (by kernel_rfl) (by kernel_rfl) (by intro j hj; cases hj; kernel_rfl) (fun _=>rfl) (fun wx hm=>?_)
   have h2:=abides_none hJ g1 hm.kept
   refine YieldAt.mono (hY [0,1] 2 wx h2 (by simp)) (fun e wx3 he=>?_)
   have hB2:=hm.at_ 0 rfl
   rcases he with ⟨rfl,g2,k2⟩ | ⟨rfl,g2⟩
   ·skip
    have hC2:=hB2.kept k2 (by simp)
    refine ⟨.bool true,[(22,.bool true),(0,.func (.yield l) #[] #[]),(1,.pointer (some ⟨Bn,0,none⟩)),(16,.bool true),(17,.func (.yield l) #[] #[]),(21,.pointer (some ⟨rb,3,none⟩))],rfl,rfl,[⟨Bn,79,false,[.pointer (some ⟨rb,0,none⟩)]⟩],[],(fun _=>False),MemOk.start (by simpa using hC2) (by simp) (by simp) (by simp),?_⟩
    refine holdsR_go (fun _=>trivial) (f:=10) (hs:=[⟨false,2,[]⟩,⟨false,0,[]⟩,⟨true,0,[]⟩,⟨true,0,[⟨false,0,0,1⟩]⟩,⟨true,0,[]⟩,⟨true,0,[]⟩,⟨true,0,[]⟩]) [0,1,24,25,29] [] (show _ = some (Res.mk [true = true,true = true,true = true,true = true,true = true,true = true] (dupR [(Bn,0,1)]) [.ops [] [27,28,29,30,31,32,33,34,35,36]] ⟨[(0,.func (.yield l) #[] #[]),(1,.pointer (some ⟨Bn,0,none⟩)),(24,.bool true),(25,.func (.yield l) #[] #[]),(29,.pointer (some ⟨rb,6,none⟩))],[⟨Bn,79,false,[.pointer (some ⟨rb,0,none⟩)]⟩],[],wx3.heap.size⟩) by kernel_rfl) ⟨rfl,rfl,rfl,rfl,rfl,rfl,trivial⟩ ?_
    refine holdsR_yield (l:=[28,29,30,31,32,33,34,35,36]) (dst:=some 30) (lp:=l) (args:=#[.pointer (some ⟨rb,6,none⟩)]) (c:=true) (gd:=(some 21)) (fun _=>trivial) rfl (by kernel_rfl) (by kernel_rfl) (by intro j hj; cases hj; kernel_rfl) (fun _=>rfl) (fun wx hm=>?_)
    have h3:=abides_none hJ g2 hm.kept
    refine YieldAt.mono (hY [0,1,2] 3 wx h3 (by simp)) (fun e wx4 he=>?_)
    have hB3:=hm.at_ 0 rfl
    rcases he with ⟨rfl,g3,k3⟩ | ⟨rfl,g3⟩
    ·skip
     have hC3:=hB3.kept k3 (by simp)
     refine ⟨.bool true,[(30,.bool true),(0,.func (.yield l) #[] #[]),(1,.pointer (some ⟨Bn,0,none⟩)),(24,.bool true),(25,.func (.yield l) #[] #[]),(29,.pointer (some ⟨rb,6,none⟩))],rfl,rfl,[⟨Bn,79,false,[.pointer (some ⟨rb,0,none⟩)]⟩],[],(fun _=>False),MemOk.start (by simpa using hC3) (by simp) (by simp) (by simp),?_⟩
     refine holdsR_go (fun _=>trivial) (f:=10) (hs:=[⟨false,2,[]⟩,⟨false,0,[]⟩,⟨true,0,[]⟩,⟨true,0,[⟨false,0,0,1⟩]⟩,⟨true,0,[]⟩,⟨true,0,[]⟩,⟨true,0,[]⟩]) [32,33,37] [] (show _ = some (Res.mk [true = true,true = true,true = true,true = true,true = true,true = true] (dupR [(Bn,0,1)]) [.ops [] [35,36]] ⟨[(32,.bool true),(33,.func (.yield l) #[] #[]),(37,.pointer (some ⟨rb,7,none⟩))],[⟨Bn,79,false,[.pointer (some ⟨rb,0,none⟩)]⟩],[],wx4.heap.size⟩) by kernel_rfl) ⟨rfl,rfl,rfl,rfl,rfl,rfl,trivial⟩ ?_
     refine holdsR_yield (l:=[36]) (dst:=some 38) (lp:=l) (args:=#[.pointer (some ⟨rb,7,none⟩)]) (c:=true) (gd:=(some 29)) (fun _=>trivial) rfl (by kernel_rfl) (by kernel_rfl) (by intro j hj; cases hj; kernel_rfl) (fun _=>rfl) (fun wx hm=>?_)
     have h4:=abides_none hJ g3 hm.kept
     refine YieldAt.mono (hY [0,1,2,3] 4 wx h4 (by simp)) (fun e wx5 he=>?_)
     have hB4:=hm.at_ 0 rfl
     rcases he with ⟨rfl,g4,k4⟩ | ⟨rfl,g4⟩
     ·skip
      have hC4:=hB4.kept k4 (by simp)
      refine ⟨.bool true,[(38,.bool true),(32,.bool true),(33,.func (.yield l) #[] #[]),(37,.pointer (some ⟨rb,7,none⟩))],rfl,rfl,[⟨Bn,79,false,[.pointer (some ⟨rb,0,none⟩)]⟩],[],(fun _=>False),MemOk.start (by simpa using hC4) (by simp) (by simp) (by simp),?_⟩
      refine holdsR_go (fun _=>trivial) (f:=5) (hs:=[⟨false,2,[]⟩]) [] [] (show _ = some (Res.mk [true = true] (dupR []) [] ⟨[],[⟨Bn,79,false,[.pointer (some ⟨rb,0,none⟩)]⟩],[],wx5.heap.size⟩) by kernel_rfl) ⟨rfl,trivial⟩ ?_
      refine holdsR_fin rfl (fun wx hm=>⟨⟨_,rfl⟩,.inl ⟨_,rfl,abides_none hJ g4 hm.kept⟩⟩)
     ·skip
      refine ⟨.bool false,[(38,.bool false),(32,.bool true),(33,.func (.yield l) #[] #[]),(37,.pointer (some ⟨rb,7,none⟩))],rfl,rfl,[],[],(fun _=>False),MemOk.none _ _,?_⟩
      refine holdsR_go (fun _=>trivial) (f:=5) (hs:=[⟨false,2,[]⟩]) [] [] (show _ = some (Res.mk [true = true] (dupR []) [] ⟨[],[],[],wx5.heap.size⟩) by kernel_rfl) ⟨rfl,trivial⟩ ?_
      refine holdsR_fin rfl (fun wx hm=>⟨⟨_,rfl⟩,.inr ⟨_,⟨4,by omega,rfl⟩,abides_none hJx g4 hm.kept⟩⟩)
    ·skip
     refine ⟨.bool false,[(30,.bool false),(0,.func (.yield l) #[] #[]),(1,.pointer (some ⟨Bn,0,none⟩)),(24,.bool true),(25,.func (.yield l) #[] #[]),(29,.pointer (some ⟨rb,6,none⟩))],rfl,rfl,[],[],(fun _=>False),MemOk.none _ _,?_⟩
     refine holdsR_go (fun _=>trivial) (f:=13) (hs:=[⟨false,2,[]⟩,⟨false,0,[]⟩,⟨false,0,[]⟩,⟨false,0,[]⟩,⟨false,0,[]⟩,⟨false,0,[]⟩,⟨false,0,[]⟩,⟨false,0,[]⟩,⟨false,3,[]⟩]) [] [] (show _ = some (Res.mk [true = true,false = false,false = false,false = false,false = false,false = false,false = false,false = false] (dupR []) [] ⟨[],[],[],wx4.heap.size⟩) by kernel_rfl) ⟨rfl,rfl,rfl,rfl,rfl,rfl,rfl,rfl,trivial⟩ ?_
     refine holdsR_fin rfl (fun wx hm=>⟨⟨_,rfl⟩,.inr ⟨_,⟨3,by omega,rfl⟩,abides_none hJx g3 hm.kept⟩⟩)
   ·skip
    refine ⟨.bool false,[(22,.bool false),(0,.func (.yield l) #[] #[]),(1,.pointer (some ⟨Bn,0,none⟩)),(16,.bool true),(17,.func (.yield l) #[] #[]),(21,.pointer (some ⟨rb,3,none⟩))],rfl,rfl,[],[],(fun _=>False),MemOk.none _ _,?_⟩
    refine holdsR_go (fun _=>trivial) (f:=21) (hs:=[⟨false,2,[]⟩,⟨false,0,[]⟩,⟨false,0,[]⟩,⟨false,0,[]⟩,⟨false,0,[]⟩,⟨false,0,[]⟩,⟨false,0,[]⟩,⟨false,0,[]⟩,⟨false,3,[]⟩,⟨false,0,[]⟩,⟨false,0,[]⟩,⟨false,0,[]⟩,⟨false,0,[]⟩,⟨false,0,[]⟩,⟨false,0,[]⟩,⟨false,0,[]⟩,⟨false,3,[]⟩]) [] [] (show _ = some (Res.mk [true = true,false = false,false = false,false = false,false = false,false = false,false = false,false = false,false = false,false = false,false = false,false = false,false = false,false = false,false = false] (dupR []) [] ⟨[],[],[],wx3.heap.size⟩) by kernel_rfl) ⟨rfl,rfl,rfl,rfl,rfl,rfl,rfl,rfl,rfl,rfl,rfl,rfl,rfl,rfl,rfl,trivial⟩ ?_
    refine holdsR_fin rfl (fun wx hm=>⟨⟨_,rfl⟩,.inr ⟨_,⟨2,by omega,rfl⟩,abides_none hJx g2 hm.kept⟩⟩)
  ·skip
   refine ⟨.bool false,[(14,.bool false),(0,.func (.yield l) #[] #[]),(1,.pointer (some ⟨Bn,0,none⟩)),(8,.bool true),(9,.func (.yield l) #[] #[]),(13,.pointer (some ⟨rb,2,none⟩))],rfl,rfl,[],[],(fun _=>False),MemOk.none _ _,?_⟩
   refine holdsR_go (fun _=>trivial) (f:=29) (hs:=[⟨false,2,[]⟩,⟨false,0,[]⟩,⟨false,0,[]⟩,⟨false,0,[]⟩,⟨false,0,[]⟩,⟨false,0,[]⟩,⟨false,0,[]⟩,⟨false,0,[]⟩,⟨false,3,[]⟩,⟨false,0,[]⟩,⟨false,0,[]⟩,⟨false,0,[]⟩,⟨false,0,[]⟩,⟨false,0,[]⟩,⟨false,0,[]⟩,⟨false,0,[]⟩,⟨false,3,[]⟩,⟨false,0,[]⟩,⟨false,0,[]⟩,⟨false,0,[]⟩,⟨false,0,[]⟩,⟨false,0,[]⟩,⟨false,0,[]⟩,⟨false,0,[]⟩,⟨false,3,[]⟩]) [] [] (show _ = some (Res.mk [true = true,false = false,false = false,false = false,false = false,false = false,false = false,false = false,false = false,false = false,false = false,false = false,false = false,false = false,false = false,false = false,false = false,false = false,false = false,false = false,false = false,false = false] (dupR []) [] ⟨[],[],[],wx2.heap.size⟩) by kernel_rfl) ⟨rfl,rfl,rfl,rfl,rfl,rfl,rfl,rfl,rfl,rfl,rfl,rfl,rfl,rfl,rfl,rfl,rfl,rfl,rfl,rfl,rfl,rfl,trivial⟩ ?_
   refine holdsR_fin rfl (fun wx hm=>⟨⟨_,rfl⟩,.inr ⟨_,⟨1,by omega,rfl⟩,abides_none hJx g1 hm.kept⟩⟩)
 ·skip
  refine ⟨.bool false,[(7,.bool false),(0,.func (.yield l) #[] #[]),(1,.pointer (some ⟨Bn,0,none⟩)),(3,.func (.yield l) #[] #[]),(6,.pointer (some ⟨rb,1,none⟩))],rfl,rfl,[],[],(fun _=>False),MemOk.none _ _,?_⟩
  refine holdsR_go (fun _=>trivial) (f:=36) (hs:=[⟨false,0,[]⟩,⟨false,0,[]⟩,⟨false,0,[]⟩,⟨false,0,[]⟩,⟨false,0,[]⟩,⟨false,0,[]⟩,⟨false,0,[]⟩,⟨false,3,[]⟩,⟨false,0,[]⟩,⟨false,0,[]⟩,⟨false,0,[]⟩,⟨false,0,[]⟩,⟨false,0,[]⟩,⟨false,0,[]⟩,⟨false,0,[]⟩,⟨false,3,[]⟩,⟨false,0,[]⟩,⟨false,0,[]⟩,⟨false,0,[]⟩,⟨false,0,[]⟩,⟨false,0,[]⟩,⟨false,0,[]⟩,⟨false,0,[]⟩,⟨false,3,[]⟩,⟨false,0,[]⟩,⟨false,0,[]⟩,⟨false,0,[]⟩,⟨false,0,[]⟩,⟨false,0,[]⟩,⟨false,0,[]⟩,⟨false,0,[]⟩,⟨false,3,[]⟩]) [] [] (show _ = some (Res.mk [false = false,false = false,false = false,false = false,false = false,false = false,false = false,false = false,false = false,false = false,false = false,false = false,false = false,false = false,false = false,false = false,false = false,false = false,false = false,false = false,false = false,false = false,false = false,false = false,false = false,false = false,false = false,false = false] (dupR []) [] ⟨[],[],[],wx1.heap.size⟩) by kernel_rfl) ⟨rfl,rfl,rfl,rfl,rfl,rfl,rfl,rfl,rfl,rfl,rfl,rfl,rfl,rfl,rfl,rfl,rfl,rfl,rfl,rfl,rfl,rfl,rfl,rfl,rfl,rfl,rfl,rfl,trivial⟩ ?_
  refine holdsR_fin rfl (fun wx hm=>⟨⟨_,rfl⟩,.inr ⟨_,⟨0,by omega,rfl⟩,abides_none hJx g0 hm.kept⟩⟩)
set_option maxRecDepth 100000 in
set_option maxHeartbeats 4000000 in
theorem nums_any (rb:Nat) (w:World) :
  Calls Try.prog 46 #[.pointer (some ⟨rb,0,none⟩)] w (fun e w'=>e = .returned (.func (.func 68) #[] #[.pointer (some ⟨w.heap.size,0,none⟩)]) ∧ Blk w' w.heap.size 79 [.pointer (some ⟨rb,0,none⟩)] ∧ Kept (fun _=>False) w w'):=by
 refine calls_of_holds (S:=(fun _=>False)) (l:=[(pt rb 0)]) (n:=4) Try.func46 (body_of (by kernel_rfl)) rfl (by simp) (MemOk.none w _) ?_
 refine hgE 13 [oh0,oh0,oh0,oh0] [2] [] [] [.code [1,1]] ⟨[(2,.func (.func 68) #[] #[(pt w.heap.size 0)])],[⟨w.heap.size,79,true,[(pt rb 0)]⟩],[],w.heap.size + 1⟩ ?_
 refine hrt [] [.func (.func 68) #[] #[(pt w.heap.size 0)]] [] ?_
 intro wx hm
 exact ⟨rfl,hm.at_ 0 rfl,hm.kept⟩
end Go.Proofs.Ytpilmccjjbgmiaa
