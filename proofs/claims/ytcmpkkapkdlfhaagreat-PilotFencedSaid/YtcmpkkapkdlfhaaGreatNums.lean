import Derived.Test.YtcmpkkapkdlfhaaGreatUpdM
import Derived.Test.YtcmpkkapkdlfhaaGreatRef11
namespace Go.Proofs.YtcmpkkapkdlfhaaGreat
open Go.RowKit
structure SimM where
 (N S sb kb gO cO gL cL gI gS:Nat)
 row:Nat → Nat × Nat
 recs:Nat → Nat → RecM
 lea:Nat → LeaM
 ids:List Int
 says:List SayR
def SimM.rowV (s:SimM) (n:Nat):List Value:=[.slice (some ⟨(s.row n).1,0,none⟩) s.S (s.row n).2]
def SimM.recL (s:SimM) (n:Nat):List RecM:=(List.range s.S).map (s.recs n)
def SimM.leaL (s:SimM):List LeaM:=(List.range s.S).map s.lea
def SimM.cells (s:SimM):List Value:=[i6 (s.N:Int),i6 (s.S:Int),.slice (some ⟨s.gO,0,none⟩) s.N s.cO,.pointer (some ⟨s.kb,0,none⟩),.slice none 0 0]
def SimM.kcells (s:SimM):List Value:=[.slice (some ⟨s.gL,0,none⟩) s.S s.cL,.slice (some ⟨s.gI,0,none⟩) 2 2,.slice (some ⟨s.gS,0,none⟩) 2 2]
structure SimAt (w:World) (b:Nat) (s:SimM):Prop where
 sim:Blk w s.sb 54 s.cells
 kee:Blk w s.kb 119 s.kcells
 rws:OwnR w 0 83 1 (some ⟨s.gO,0,none⟩) s.N s.cO (flatV s.rowV (List.range s.N))
 rcd:∀ n,n < s.N → OwnR w 0 61 10 (some ⟨(s.row n).1,0,none⟩) s.S (s.row n).2 (flatV RecM.cells (s.recL n))
 one:∀ n m,n < s.N → m < s.N → (s.row n).1 = (s.row m).1 → n = m
 lea:OwnR w 0 73 4 (some ⟨s.gL,0,none⟩) s.S s.cL (flatV LeaM.cells s.leaL)
 ids:OwnR w 0 3 1 (some ⟨s.gI,0,none⟩) 2 2 (flatV intC s.ids)
 say:OwnR w 0 63 13 (some ⟨s.gS,0,none⟩) 2 2 (flatV SayR.cells s.says)
 low:s.sb < b ∧ s.kb < b ∧ s.gO < b ∧ s.gL < b ∧ s.gI < b ∧ s.gS < b ∧ ∀ n,n < s.N → (s.row n).1 < b
theorem SimAt.kept {w w':World} {b:Nat} {s:SimM} {T:Nat → Prop} (h:SimAt w b s) (hk:Kept T w w') (hT:∀ y,T y → b ≤ y ∨ TysIn [98,124] w y):SimAt w' b s:=by
 obtain ⟨l1,l2,l3,l4,l5,l6,l7⟩:=h.low
 have H:∀ {g:Nat} {e:TypeId},g < b → TyIn w e g → ([98,124]:List TypeId).contains e = false → ¬ T g:=fun hg ht hn hx=>by
  rcases hT _ hx with h1 | h1
  ·omega
  ·exact tysIn_not hn ht h1
 have O:∀ {e:TypeId} {z g n cp:Nat} {cs:List Value},OwnR w 0 e z (some ⟨g,0,none⟩) n cp cs → g < b → ([98,124]:List TypeId).contains e = false → OwnR w' 0 e z (some ⟨g,0,none⟩) n cp cs:=fun ho hg hn=>
  ho.kept hk (fun y hy hx=>by have e:=ownS_some y hy; subst e; exact H hg (ho.ty _ hy) hn hx)
 exact ⟨h.sim.kept hk (H l1 (blk_ty h.sim) rfl),h.kee.kept hk (H l2 (blk_ty h.kee) rfl),O h.rws l3 rfl,fun n hn=>O (h.rcd n hn) (l7 n hn) rfl,h.one,O h.lea l4 rfl,O h.ids l5 rfl,O h.say l6 rfl,h.low⟩
def SimM.setR (s:SimM) (n i:Nat) (r:RecM):SimM:={ s with recs:=fun n' i'=>if n' = n ∧ i' = i then r else s.recs n' i' }
theorem range_set {α:Type} (f:Nat → α) (m i:Nat) (r:α):((List.range m).map f).set i r = (List.range m).map (fun k=>if k = i then r else f k):=by
 apply List.ext_getElem?
 intro k
 rw [List.getElem?_set,List.getElem?_map,List.getElem?_map,List.length_map,List.length_range]
 by_cases hk:k < m
 ·rw [List.getElem?_range hk]
  by_cases e:i = k
  ·subst e
   simp [hk]
  ·simp [e,Ne.symm e]
 ·rw [List.getElem?_eq_none (by simpa using hk)]
  by_cases e:i = k
  ·subst e
   simp [hk]
  ·simp [e]
theorem recL_setR (s:SimM) (n i:Nat) (r:RecM):(s.setR n i r).recL n = (s.recL n).set i r:=by
 unfold SimM.recL
 rw [range_set]
 apply List.map_congr_left
 intro k _
 simp [SimM.setR]
theorem recL_setN (s:SimM) {n m i:Nat} (r:RecM) (h:m ≠ n):(s.setR n i r).recL m = s.recL m:=by
 unfold SimM.recL
 apply List.map_congr_left
 intro k _
 simp [SimM.setR,h]
theorem SimAt.setR {w w':World} {b:Nat} {s:SimM} {n i:Nat} {r:RecM} (h:SimAt w b s) (hn:n < s.N) (hk:Kept (fun y=>y = (s.row n).1) w w') (ho:OwnR w' 0 61 10 (some ⟨(s.row n).1,0,none⟩) s.S (s.row n).2 (flatV RecM.cells ((s.recL n).set i r))):SimAt w' b (s.setR n i r):=by
 have hty:=(h.rcd n hn).ty _ ⟨_,rfl,rfl⟩
 have H:∀ {g:Nat} {e:TypeId},TyIn w e g → Nat.beq e 61 = false → ¬ g = (s.row n).1:=fun ht hne hx=>by
  subst hx
  exact Nat.ne_of_beq_eq_false hne (tyIn_one ht hty)
 have O:∀ {e:TypeId} {z g n' cp:Nat} {cs:List Value},OwnR w 0 e z (some ⟨g,0,none⟩) n' cp cs → Nat.beq e 61 = false → OwnR w' 0 e z (some ⟨g,0,none⟩) n' cp cs:=fun ho hn=>
  ho.kept hk (fun y hy hx=>by have e:=ownS_some y hy; subst e; exact H (ho.ty _ hy) hn hx)
 refine ⟨h.sim.kept hk (H (blk_ty h.sim) rfl),h.kee.kept hk (H (blk_ty h.kee) rfl),O h.rws rfl,fun m hm=>?_,h.one,O h.lea rfl,O h.ids rfl,O h.say rfl,h.low⟩
 by_cases e:m = n
 ·subst e
  rw [recL_setR]
  exact ho
 ·rw [recL_setN s r e]
  refine (h.rcd m hm).kept hk (fun y hy hx=>?_)
  have e2:=ownS_some y hy
  subst e2
  exact e (h.one m n hm hn hx)
def SimM.setK (s:SimM) (i:Nat) (l:LeaM) (p:Nat) (id:Int) (y:SayR):SimM:={ s with lea:=fun k=>if k = i then l else s.lea k,ids:=s.ids.set p id,says:=s.says.set p y }
theorem SimAt.setK {w w':World} {b:Nat} {s:SimM} {i p:Nat} {l:LeaM} {id:Int} {y:SayR} (h:SimAt w b s) (hk:Kept (fun y=>y = s.gL ∨ y = s.gI ∨ y = s.gS) w w')
  (h1:OwnR w' 0 73 4 (some ⟨s.gL,0,none⟩) s.S s.cL (flatV LeaM.cells (s.leaL.set i l))) (h2:OwnR w' 0 3 1 (some ⟨s.gI,0,none⟩) 2 2 (flatV intC (s.ids.set p id))) (h3:OwnR w' 0 63 13 (some ⟨s.gS,0,none⟩) 2 2 (flatV SayR.cells (s.says.set p y))):SimAt w' b (s.setK i l p id y):=by
 have hT:∀ y,(y = s.gL ∨ y = s.gI ∨ y = s.gS) → TysIn [73,3,63] w y:=by
  rintro y (rfl | rfl | rfl)
  ·exact ⟨73,by simp,h.lea.ty _ ⟨_,rfl,rfl⟩⟩
  ·exact ⟨3,by simp,h.ids.ty _ ⟨_,rfl,rfl⟩⟩
  ·exact ⟨63,by simp,h.say.ty _ ⟨_,rfl,rfl⟩⟩
 have e1:(s.setK i l p id y).leaL = s.leaL.set i l:=by
  unfold SimM.leaL
  rw [range_set]
  rfl
 exact ⟨h.sim.kept hk (fun hx=>tysIn_not rfl (blk_ty h.sim) (hT _ hx)),h.kee.kept hk (fun hx=>tysIn_not rfl (blk_ty h.kee) (hT _ hx)),h.rws.keptT hk hT rfl,fun n hn=>(h.rcd n hn).keptT hk hT rfl,h.one,by rw [e1]; exact h1,h2,h3,h.low⟩
theorem SimAt.tyK {w:World} {b:Nat} {s:SimM} (h:SimAt w b s):∀ y,(y = s.gL ∨ y = s.gI ∨ y = s.gS) → y < b:=by
 obtain ⟨l1,l2,l3,l4,l5,l6,l7⟩:=h.low
 rintro y (rfl | rfl | rfl) <;> assumption
def TL17:List TypeId:=[98,124,141,4,61,178,180,73,3,63,54,119,83]
def LawT (w:World) (y:Nat):Prop:=TysIn TL17 w y
def LawL (lo:Nat) (w:World) (y:Nat):Prop:=LawT w y ∧ lo ≤ y
theorem lawL_up {lo:Nat} {w wx:World} (hk:Kept (LawL lo w) w wx):∀ y,LawL lo wx y → LawL lo w y ∨ w.heap.size ≤ y:=by
 rintro y ⟨⟨e,he,cur,fz,hc⟩,hl⟩
 by_cases h1:y < w.heap.size
 ·by_cases h2:LawL lo w y
  ·exact .inl h2
  ·rw [hk.block y h1 h2] at hc
   exact absurd ⟨⟨e,he,cur,fz,hc⟩,hl⟩ h2
 ·exact .inr (by omega)
theorem lawL_none {w w':World} (h:Kept (LawL w.heap.size w) w w'):Kept (fun _=>False) w w':=h.mono fun y hy ht=>absurd ht.2 (by omega)
def SimLo (lo:Nat) (s:SimM):Prop:=lo ≤ s.gL ∧ lo ≤ s.gI ∧ lo ≤ s.gS ∧ ∀ n,n < s.N → lo ≤ (s.row n).1
def Stb (F:World → Prop):Prop:=∀ w w' (T:Nat → Prop) (es:List TypeId),F w → Kept T w w' → (∀ y,T y → TysIn es w y) → es.all (fun e=>!(TL17.contains e)) = true → F w'
def Stb1 (F:World → Prop):Prop:=∀ w w' (T:Nat → Prop) (es:List TypeId),F w → Kept T w w' → (∀ y,T y → TysIn es w y) → es.all (fun e=>!((65 :: TL17).contains e)) = true → F w'
theorem law8_ty {wx:World} {b:Nat}:∀ y,LawT wx y ∨ (b ≤ y ∧ TyIn wx 65 y) → TysIn (65 :: TL17) wx y:=by
 rintro y (⟨e,he,h⟩ | ⟨_,h⟩)
 ·exact ⟨e,by simp at he ⊢; exact .inr he,h⟩
 ·exact ⟨65,by simp,h⟩
theorem law8L_ty {lo:Nat} {wx:World} {b:Nat}:∀ y,LawL lo wx y ∨ (b ≤ y ∧ TyIn wx 65 y) → TysIn (65 :: TL17) wx y:=fun y h=>law8_ty y (h.imp_left fun h=>h.1)
theorem stb_not {es:List TypeId} (he:es.all (fun e=>!(TL17.contains e)) = true):∀ e,TL17.contains e = true → es.contains e = false:=fun e h5=>by
 cases h6:es.contains e with
 | false=>rfl
 | true=>
  have h7:=List.all_eq_true.1 he e (by simpa using h6)
  rw [h5] at h7
  cases h7
theorem SimAt.stb {b:Nat} {s:SimM}:Stb (fun W=>SimAt W b s):=fun _ _ _ _ h hk hT he=>by
 have H:=stb_not he
 have B:∀ {g:Nat} {e:TypeId} {cs:List Value},Blk _ g e cs → TL17.contains e = true → _:=fun hb hn=>hb.kept hk (fun hx=>tysIn_not (H _ hn) (blk_ty hb) (hT _ hx))
 exact ⟨B h.sim rfl,B h.kee rfl,h.rws.keptT hk hT (H _ rfl),fun n hn=>(h.rcd n hn).keptT hk hT (H _ rfl),h.one,h.lea.keptT hk hT (H _ rfl),h.ids.keptT hk hT (H _ rfl),h.say.keptT hk hT (H _ rfl),h.low⟩
theorem xor_under {a b k:Nat} (ha:a < 2 ^ k) (hb:b < 2 ^ k):a ^^^ b < 2 ^ k:=Nat.xor_lt_two_pow ha hb
theorem xorZ_under {a b:Int} (k:Nat) (ha:0 ≤ a ∧ a < ((2 ^ k:Nat):Int)) (hb:0 ≤ b ∧ b < ((2 ^ k:Nat):Int)):0 ≤ xorZ a b ∧ xorZ a b < ((2 ^ k:Nat):Int):=by
 have:=xor_under (a:=a.toNat) (b:=b.toNat) (k:=k) (by omega) (by omega)
 unfold xorZ
 omega
def n24 (n:Int):Bool:=decide (0 ≤ n) && decide (n ≤ 16777215)
def fitB (s:ByteArray) (u:Bool):Bool:=bif u then (s.size:Int) == 16 else (s.size:Int) == 0
def tagB (a b:Int):Bool:=((a:Int) == 0) && (((b:Int) == 0) && true)
def okB (r:RecM):Bool:=
 (n24 r.fence && n24 r.de && n24 r.ds && n24 r.ie && n24 r.is) && (!decide (r.mask < 0) && !decide (r.mask > 63)) && (fitB r.block r.used && fitB r.staged r.op)
  && (r.op || (tagB r.ie r.is && r.mask == 0)) && (r.used || (!r.op && tagB r.de r.ds))
theorem n24_iff (n:Int):n24 n = true ↔ 0 ≤ n ∧ n ≤ 16777215:=by simp [n24]
theorem size_zero {s:ByteArray}:s.size = 0 ↔ s = noText:=by
 constructor
 ·intro h
  apply ByteArray.ext
  exact Array.size_eq_zero_iff.1 h
 ·rintro rfl
  rfl
end Go.Proofs.YtcmpkkapkdlfhaaGreat
namespace Go.Proofs.YtcmpkkapkdlfhaaGreat
open Go.RowKit
set_option maxHeartbeats 4000000
set_option maxRecDepth 100000
def numOff:Nat → Nat
 | 0=>1
 | 1=>2
 | 2=>3
 | 3=>6
 | _=>7
def NumsSp (pre:List Nat):Prop:=∃ i,i < 5 ∧ pre = List.range (i + 1)
theorem abides_none {β:Type} {B:Nat} {J:β → World → Prop} (h:AbidesFrom B J) {s:β} {W W':World} (hs:J s W) (hk:Kept (fun _=>False) W W'):J s W':=
 h s W W' none hs ⟨hk.os,hk.tape,hk.output,hk.size,fun k hk' _=>hk.block k hk' id⟩ (fun _ e=>by cases e)
theorem nums_stops (m Bn rb:Nat) (w:World) (hB:Blk w Bn 190 [.pointer (some ⟨rb,0,none⟩)]) :
  SeqStopsK Fence.wide m Tryz.prog 138 #[.pointer (some ⟨Bn,0,none⟩)] (fun i:Nat=>#[.pointer (some ⟨rb,numOff i,none⟩)]) (fun W W'=>Kept (fun x=>x ≠ Bn) W W') (fun xs=>xs = [0,1,2,3,4]) NumsSp 5 w:=by
 intro l J Jx W hW hJ hJx hY h0
 have hBW:Blk W Bn 190 [.pointer (some ⟨rb,0,none⟩)]:=(hW.block Bn hB.lt).trans hB
 refine callsIn_of_holdsR (S:=(fun _=>False)) (l:=[.func (.yield l) #[] #[],.pointer (some ⟨Bn,0,none⟩)]) (n:=40) (bk:=[⟨Bn,190,false,[.pointer (some ⟨rb,0,none⟩)]⟩]) (wn:=[]) (fun _=>trivial) rfl Tryz.func138 (body_of (by kernel_rfl)) rfl (by simp) (MemOk.start (by simpa using hBW) (by simp) (by simp) (by simp)) ?_
 refine holdsR_go (fun _=>trivial) (f:=8) (hs:=[oh0,(oA 0 0 1),oh0,oh0]) [0,1,3,6] [] (show _ = some (Res.mk [] (dupR [(Bn,0,1)]) [.ops [] [4,5,6,7,8,9,10,11,12,13,14,15,16,17,18,19,20,21,22,23,24,25,26,27,28,29,30,31,32,33,34,35,36]] ⟨[(0,.func (.yield l) #[] #[]),(1,.pointer (some ⟨Bn,0,none⟩)),(3,.func (.yield l) #[] #[]),(6,.pointer (some ⟨rb,1,none⟩))],[⟨Bn,190,false,[.pointer (some ⟨rb,0,none⟩)]⟩],[],W.heap.size⟩) by kernel_rfl) trivial ?_
 refine holdsR_yield (l:=[5,6,7,8,9,10,11,12,13,14,15,16,17,18,19,20,21,22,23,24,25,26,27,28,29,30,31,32,33,34,35,36]) (dst:=some 7) (lp:=l) (args:=#[.pointer (some ⟨rb,1,none⟩)]) (c:=true) (gd:=none) (fun _=>trivial) rfl (by kernel_rfl) (by kernel_rfl) (by intro j hj; cases hj) (fun _=>rfl) (fun wx hm=>?_)
 have h0:=abides_none hJ h0 hm.kept
 refine YieldAt.mono (hY [] 0 wx h0 (by simp)) (fun e wx1 he=>?_)
 have hB0:=hm.at_ 0 rfl
 rcases he with ⟨rfl,g0,k0⟩ | ⟨rfl,g0⟩
 ·skip
  have hC0:=hB0.kept k0 (by simp)
  refine ⟨.bool true,[(7,.bool true),(0,.func (.yield l) #[] #[]),(1,.pointer (some ⟨Bn,0,none⟩)),(3,.func (.yield l) #[] #[]),(6,.pointer (some ⟨rb,1,none⟩))],rfl,rfl,[⟨Bn,190,false,[.pointer (some ⟨rb,0,none⟩)]⟩],[],(fun _=>False),MemOk.start (by simpa using hC0) (by simp) (by simp) (by simp),?_⟩
  refine holdsR_go (fun _=>trivial) (f:=9) (hs:=[oh0,oh1,⟨true,0,[⟨false,0,0,1⟩]⟩,oh1,oh1,oh1]) [0,1,8,9,13] [] (show _ = some (Res.mk [true = true,true = true,true = true,true = true,true = true] (dupR [(Bn,0,1)]) [.ops [] [11,12,13,14,15,16,17,18,19,20,21,22,23,24,25,26,27,28,29,30,31,32,33,34,35,36]] ⟨[(0,.func (.yield l) #[] #[]),(1,.pointer (some ⟨Bn,0,none⟩)),(8,.bool true),(9,.func (.yield l) #[] #[]),(13,.pointer (some ⟨rb,2,none⟩))],[⟨Bn,190,false,[.pointer (some ⟨rb,0,none⟩)]⟩],[],wx1.heap.size⟩) by kernel_rfl) ⟨rfl,rfl,rfl,rfl,rfl,trivial⟩ ?_
  refine holdsR_yield (l:=[12,13,14,15,16,17,18,19,20,21,22,23,24,25,26,27,28,29,30,31,32,33,34,35,36]) (dst:=some 14) (lp:=l) (args:=#[.pointer (some ⟨rb,2,none⟩)]) (c:=true) (gd:=(some 5)) (fun _=>trivial) rfl (by kernel_rfl) (by kernel_rfl) (by intro j hj; cases hj; kernel_rfl) (fun _=>rfl) (fun wx hm=>?_)
  have h1:=abides_none hJ g0 hm.kept
  refine YieldAt.mono (hY [0] 1 wx h1 (by simp)) (fun e wx2 he=>?_)
  have hB1:=hm.at_ 0 rfl
  rcases he with ⟨rfl,g1,k1⟩ | ⟨rfl,g1⟩
  ·skip
   have hC1:=hB1.kept k1 (by simp)
   refine ⟨.bool true,[(14,.bool true),(0,.func (.yield l) #[] #[]),(1,.pointer (some ⟨Bn,0,none⟩)),(8,.bool true),(9,.func (.yield l) #[] #[]),(13,.pointer (some ⟨rb,2,none⟩))],rfl,rfl,[⟨Bn,190,false,[.pointer (some ⟨rb,0,none⟩)]⟩],[],(fun _=>False),MemOk.start (by simpa using hC1) (by simp) (by simp) (by simp),?_⟩
   refine holdsR_go (fun _=>trivial) (f:=10) (hs:=[⟨false,2,[]⟩,oh0,oh1,⟨true,0,[⟨false,0,0,1⟩]⟩,oh1,oh1,oh1]) [0,1,16,17,21] [] (show _ = some (Res.mk [true = true,true = true,true = true,true = true,true = true,true = true] (dupR [(Bn,0,1)]) [.ops [] [19,20,21,22,23,24,25,26,27,28,29,30,31,32,33,34,35,36]] ⟨[(0,.func (.yield l) #[] #[]),(1,.pointer (some ⟨Bn,0,none⟩)),(16,.bool true),(17,.func (.yield l) #[] #[]),(21,.pointer (some ⟨rb,3,none⟩))],[⟨Bn,190,false,[.pointer (some ⟨rb,0,none⟩)]⟩],[],wx2.heap.size⟩) by kernel_rfl) ⟨rfl,rfl,rfl,rfl,rfl,rfl,trivial⟩ ?_
   refine holdsR_yield (l:=[20,21,22,23,24,25,26,27,28,29,30,31,32,33,34,35,36]) (dst:=some 22) (lp:=l) (args:=#[.pointer (some ⟨rb,3,none⟩)]) (c:=true) (gd:=(some 13)) (fun _=>trivial) rfl (by kernel_rfl) (by kernel_rfl) (by intro j hj; cases hj; kernel_rfl) (fun _=>rfl) (fun wx hm=>?_)
   have h2:=abides_none hJ g1 hm.kept
   refine YieldAt.mono (hY [0,1] 2 wx h2 (by simp)) (fun e wx3 he=>?_)
   have hB2:=hm.at_ 0 rfl
   rcases he with ⟨rfl,g2,k2⟩ | ⟨rfl,g2⟩
   ·skip
    have hC2:=hB2.kept k2 (by simp)
    refine ⟨.bool true,[(22,.bool true),(0,.func (.yield l) #[] #[]),(1,.pointer (some ⟨Bn,0,none⟩)),(16,.bool true),(17,.func (.yield l) #[] #[]),(21,.pointer (some ⟨rb,3,none⟩))],rfl,rfl,[⟨Bn,190,false,[.pointer (some ⟨rb,0,none⟩)]⟩],[],(fun _=>False),MemOk.start (by simpa using hC2) (by simp) (by simp) (by simp),?_⟩
    refine holdsR_go (fun _=>trivial) (f:=10) (hs:=[⟨false,2,[]⟩,oh0,oh1,⟨true,0,[⟨false,0,0,1⟩]⟩,oh1,oh1,oh1]) [0,1,24,25,29] [] (show _ = some (Res.mk [true = true,true = true,true = true,true = true,true = true,true = true] (dupR [(Bn,0,1)]) [.ops [] [27,28,29,30,31,32,33,34,35,36]] ⟨[(0,.func (.yield l) #[] #[]),(1,.pointer (some ⟨Bn,0,none⟩)),(24,.bool true),(25,.func (.yield l) #[] #[]),(29,.pointer (some ⟨rb,6,none⟩))],[⟨Bn,190,false,[.pointer (some ⟨rb,0,none⟩)]⟩],[],wx3.heap.size⟩) by kernel_rfl) ⟨rfl,rfl,rfl,rfl,rfl,rfl,trivial⟩ ?_
    refine holdsR_yield (l:=[28,29,30,31,32,33,34,35,36]) (dst:=some 30) (lp:=l) (args:=#[.pointer (some ⟨rb,6,none⟩)]) (c:=true) (gd:=(some 21)) (fun _=>trivial) rfl (by kernel_rfl) (by kernel_rfl) (by intro j hj; cases hj; kernel_rfl) (fun _=>rfl) (fun wx hm=>?_)
    have h3:=abides_none hJ g2 hm.kept
    refine YieldAt.mono (hY [0,1,2] 3 wx h3 (by simp)) (fun e wx4 he=>?_)
    have hB3:=hm.at_ 0 rfl
    rcases he with ⟨rfl,g3,k3⟩ | ⟨rfl,g3⟩
    ·skip
     have hC3:=hB3.kept k3 (by simp)
     refine ⟨.bool true,[(30,.bool true),(0,.func (.yield l) #[] #[]),(1,.pointer (some ⟨Bn,0,none⟩)),(24,.bool true),(25,.func (.yield l) #[] #[]),(29,.pointer (some ⟨rb,6,none⟩))],rfl,rfl,[⟨Bn,190,false,[.pointer (some ⟨rb,0,none⟩)]⟩],[],(fun _=>False),MemOk.start (by simpa using hC3) (by simp) (by simp) (by simp),?_⟩
     refine holdsR_go (fun _=>trivial) (f:=10) (hs:=[⟨false,2,[]⟩,oh0,oh1,⟨true,0,[⟨false,0,0,1⟩]⟩,oh1,oh1,oh1]) [32,33,37] [] (show _ = some (Res.mk [true = true,true = true,true = true,true = true,true = true,true = true] (dupR [(Bn,0,1)]) [.ops [] [35,36]] ⟨[(32,.bool true),(33,.func (.yield l) #[] #[]),(37,.pointer (some ⟨rb,7,none⟩))],[⟨Bn,190,false,[.pointer (some ⟨rb,0,none⟩)]⟩],[],wx4.heap.size⟩) by kernel_rfl) ⟨rfl,rfl,rfl,rfl,rfl,rfl,trivial⟩ ?_
     refine holdsR_yield (l:=[36]) (dst:=some 38) (lp:=l) (args:=#[.pointer (some ⟨rb,7,none⟩)]) (c:=true) (gd:=(some 29)) (fun _=>trivial) rfl (by kernel_rfl) (by kernel_rfl) (by intro j hj; cases hj; kernel_rfl) (fun _=>rfl) (fun wx hm=>?_)
     have h4:=abides_none hJ g3 hm.kept
     refine YieldAt.mono (hY [0,1,2,3] 4 wx h4 (by simp)) (fun e wx5 he=>?_)
     have hB4:=hm.at_ 0 rfl
     rcases he with ⟨rfl,g4,k4⟩ | ⟨rfl,g4⟩
     ·skip
      have hC4:=hB4.kept k4 (by simp)
      refine ⟨.bool true,[(38,.bool true),(32,.bool true),(33,.func (.yield l) #[] #[]),(37,.pointer (some ⟨rb,7,none⟩))],rfl,rfl,[⟨Bn,190,false,[.pointer (some ⟨rb,0,none⟩)]⟩],[],(fun _=>False),MemOk.start (by simpa using hC4) (by simp) (by simp) (by simp),?_⟩
      refine holdsR_go (fun _=>trivial) (f:=5) (hs:=[⟨false,2,[]⟩]) [] [] (show _ = some (Res.mk [true = true] (dupR []) [] ⟨[],[⟨Bn,190,false,[.pointer (some ⟨rb,0,none⟩)]⟩],[],wx5.heap.size⟩) by kernel_rfl) ⟨rfl,trivial⟩ ?_
      refine holdsR_fin rfl (fun wx hm=>⟨⟨_,rfl⟩,.inl ⟨_,rfl,abides_none hJ g4 hm.kept⟩⟩)
     ·skip
      refine ⟨.bool false,[(38,.bool false),(32,.bool true),(33,.func (.yield l) #[] #[]),(37,.pointer (some ⟨rb,7,none⟩))],rfl,rfl,[],[],(fun _=>False),MemOk.none _ _,?_⟩
      refine holdsR_go (fun _=>trivial) (f:=5) (hs:=[⟨false,2,[]⟩]) [] [] (show _ = some (Res.mk [true = true] (dupR []) [] ⟨[],[],[],wx5.heap.size⟩) by kernel_rfl) ⟨rfl,trivial⟩ ?_
      refine holdsR_fin rfl (fun wx hm=>⟨⟨_,rfl⟩,.inr ⟨_,⟨4,by omega,rfl⟩,abides_none hJx g4 hm.kept⟩⟩)
    ·skip
     refine ⟨.bool false,[(30,.bool false),(0,.func (.yield l) #[] #[]),(1,.pointer (some ⟨Bn,0,none⟩)),(24,.bool true),(25,.func (.yield l) #[] #[]),(29,.pointer (some ⟨rb,6,none⟩))],rfl,rfl,[],[],(fun _=>False),MemOk.none _ _,?_⟩
     refine holdsR_go (fun _=>trivial) (f:=13) (hs:=[⟨false,2,[]⟩,oh0,oh0,oh0,oh0,oh0,oh0,oh0,⟨false,3,[]⟩]) [] [] (show _ = some (Res.mk [true = true,false = false,false = false,false = false,false = false,false = false,false = false,false = false] (dupR []) [] ⟨[],[],[],wx4.heap.size⟩) by kernel_rfl) ⟨rfl,rfl,rfl,rfl,rfl,rfl,rfl,rfl,trivial⟩ ?_
     refine holdsR_fin rfl (fun wx hm=>⟨⟨_,rfl⟩,.inr ⟨_,⟨3,by omega,rfl⟩,abides_none hJx g3 hm.kept⟩⟩)
   ·skip
    refine ⟨.bool false,[(22,.bool false),(0,.func (.yield l) #[] #[]),(1,.pointer (some ⟨Bn,0,none⟩)),(16,.bool true),(17,.func (.yield l) #[] #[]),(21,.pointer (some ⟨rb,3,none⟩))],rfl,rfl,[],[],(fun _=>False),MemOk.none _ _,?_⟩
    refine holdsR_go (fun _=>trivial) (f:=21) (hs:=[⟨false,2,[]⟩,oh0,oh0,oh0,oh0,oh0,oh0,oh0,⟨false,3,[]⟩,oh0,oh0,oh0,oh0,oh0,oh0,oh0,⟨false,3,[]⟩]) [] [] (show _ = some (Res.mk [true = true,false = false,false = false,false = false,false = false,false = false,false = false,false = false,false = false,false = false,false = false,false = false,false = false,false = false,false = false] (dupR []) [] ⟨[],[],[],wx3.heap.size⟩) by kernel_rfl) ⟨rfl,rfl,rfl,rfl,rfl,rfl,rfl,rfl,rfl,rfl,rfl,rfl,rfl,rfl,rfl,trivial⟩ ?_
    refine holdsR_fin rfl (fun wx hm=>⟨⟨_,rfl⟩,.inr ⟨_,⟨2,by omega,rfl⟩,abides_none hJx g2 hm.kept⟩⟩)
  ·skip
   refine ⟨.bool false,[(14,.bool false),(0,.func (.yield l) #[] #[]),(1,.pointer (some ⟨Bn,0,none⟩)),(8,.bool true),(9,.func (.yield l) #[] #[]),(13,.pointer (some ⟨rb,2,none⟩))],rfl,rfl,[],[],(fun _=>False),MemOk.none _ _,?_⟩
   refine holdsR_go (fun _=>trivial) (f:=29) (hs:=[⟨false,2,[]⟩,oh0,oh0,oh0,oh0,oh0,oh0,oh0,⟨false,3,[]⟩,oh0,oh0,oh0,oh0,oh0,oh0,oh0,⟨false,3,[]⟩,oh0,oh0,oh0,oh0,oh0,oh0,oh0,⟨false,3,[]⟩]) [] [] (show _ = some (Res.mk [true = true,false = false,false = false,false = false,false = false,false = false,false = false,false = false,false = false,false = false,false = false,false = false,false = false,false = false,false = false,false = false,false = false,false = false,false = false,false = false,false = false,false = false] (dupR []) [] ⟨[],[],[],wx2.heap.size⟩) by kernel_rfl) ⟨rfl,rfl,rfl,rfl,rfl,rfl,rfl,rfl,rfl,rfl,rfl,rfl,rfl,rfl,rfl,rfl,rfl,rfl,rfl,rfl,rfl,rfl,trivial⟩ ?_
   refine holdsR_fin rfl (fun wx hm=>⟨⟨_,rfl⟩,.inr ⟨_,⟨1,by omega,rfl⟩,abides_none hJx g1 hm.kept⟩⟩)
 ·skip
  refine ⟨.bool false,[(7,.bool false),(0,.func (.yield l) #[] #[]),(1,.pointer (some ⟨Bn,0,none⟩)),(3,.func (.yield l) #[] #[]),(6,.pointer (some ⟨rb,1,none⟩))],rfl,rfl,[],[],(fun _=>False),MemOk.none _ _,?_⟩
  refine holdsR_go (fun _=>trivial) (f:=36) (hs:=[oh0,oh0,oh0,oh0,oh0,oh0,oh0,⟨false,3,[]⟩,oh0,oh0,oh0,oh0,oh0,oh0,oh0,⟨false,3,[]⟩,oh0,oh0,oh0,oh0,oh0,oh0,oh0,⟨false,3,[]⟩,oh0,oh0,oh0,oh0,oh0,oh0,oh0,⟨false,3,[]⟩]) [] [] (show _ = some (Res.mk [false = false,false = false,false = false,false = false,false = false,false = false,false = false,false = false,false = false,false = false,false = false,false = false,false = false,false = false,false = false,false = false,false = false,false = false,false = false,false = false,false = false,false = false,false = false,false = false,false = false,false = false,false = false,false = false] (dupR []) [] ⟨[],[],[],wx1.heap.size⟩) by kernel_rfl) ⟨rfl,rfl,rfl,rfl,rfl,rfl,rfl,rfl,rfl,rfl,rfl,rfl,rfl,rfl,rfl,rfl,rfl,rfl,rfl,rfl,rfl,rfl,rfl,rfl,rfl,rfl,rfl,rfl,trivial⟩ ?_
  refine holdsR_fin rfl (fun wx hm=>⟨⟨_,rfl⟩,.inr ⟨_,⟨0,by omega,rfl⟩,abides_none hJx g0 hm.kept⟩⟩)
theorem nums_any (rb:Nat) (w:World) :
  Calls Tryz.prog 117 #[.pointer (some ⟨rb,0,none⟩)] w (fun e w'=>e = .returned (.func (.func 138) #[] #[.pointer (some ⟨w.heap.size,0,none⟩)]) ∧ Blk w' w.heap.size 190 [.pointer (some ⟨rb,0,none⟩)] ∧ Kept (fun _=>False) w w'):=by
 refine cH (S:=(fun _=>False)) (n:=4) Tryz.func117 (MemOk.none w _) ?_
 refine hgS 13 (dz 4 0) [2] [] [] [.code [1,1]] [⟨w.heap.size,190,true,[(pt rb 0)]⟩] [] (w.heap.size + 1) ?_
 refine hrt [] [.func (.func 138) #[] #[(pt w.heap.size 0)]] [] ?_
 intro wx hm
 exact ⟨rfl,hm.at_ 0 rfl,hm.kept⟩
end Go.Proofs.YtcmpkkapkdlfhaaGreat
