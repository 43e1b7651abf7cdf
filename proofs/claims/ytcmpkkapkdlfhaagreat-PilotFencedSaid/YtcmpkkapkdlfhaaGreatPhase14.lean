import Derived.Test.YtcmpkkapkdlfhaaGreatSmall17
import Derived.Test.YtcmpkkapkdlfhaaGreatAll17
namespace Go.Proofs.YtcmpkkapkdlfhaaGreat
open Go.RowKit
set_option maxHeartbeats 4000000
set_option maxRecDepth 100000
def snt_v1:List Value:=rp 16 (.int .u8 0)
def snt_v2 (Bf:Nat → ByteArray) (F:Int) (d:Int) (q:Int) (n:Nat):List Value:=[.bool true,i6 F,i6 d,i6 q,sT (Bf n),.bool false,i6 0,i6 0,i6 0,sT ⟨#[]⟩]
def NghI (s:SimM) (i:Nat) (Bf:Nat → ByteArray) (w:World)  (m:Nat) (st:St) (W0:World):Prop:=
 ∃ (n:Nat) (A:Option Addr) (cp:Nat) (z:Nat),m + n = s.N ∧ n ≤ s.N ∧ OwnR W0 w.heap.size 9 1 A n cp (strsV (((List.range s.N).map Bf).take n)) ∧ st = ⟨[(0,(pt s.sb 0)),(1,i6 (i:Int)),(4,.bool false),(5,.slice A n cp),(6,i6 (n:Int))],[⟨s.sb,54,false,s.cells⟩],[],z⟩
theorem nought_any (s:SimM) (b i:Nat) (Bf:Nat → ByteArray) (hN:1 ≤ s.N ∧ s.N ≤ 6) (hi:i < s.S) (hB:∀ n,n < s.N → (Bf n).size = 16) (hz:allB ((List.range s.N).map Bf) = zer16) (w:World) (hA:SimAt w b s) (hrec:∀ n,n < s.N → ∃ F d q,s.recs n i = ⟨true,F,d,q,Bf n,false,0,0,0,⟨#[]⟩⟩) :
  Calls Tryz.prog 22 #[.pointer (some ⟨s.sb,0,none⟩),i6 (i:Int)] w (fun e w'=>e = .returned (.bool true) ∧ Kept (fun _=>False) w w'):=by
 refine cH (S:=(fun _=>False)) (n:=54) Tryz.func22 (MemOk.start (bk:=[⟨s.sb,54,false,s.cells⟩]) (wn:=[]) (fun b hb=>by obtain rfl:=List.mem_singleton.1 hb; exact hA.sim) (fun b hb hr=>by obtain rfl:=List.mem_singleton.1 hb; cases hr) (by simp) (by simp)) ?_
 have hgs:=hA.sim.lt
 refine hgE 17 (dz 3 0) [0,1,4,5,6] [] [] [.code [1,1,0,1,0],.blk 0,.code [1,1,1]] ⟨[(0,(pt s.sb 0)),(1,i6 (i:Int)),(4,.bool false),(5,.slice none 0 0),(6,i6 0)],[⟨s.sb,54,false,s.cells⟩],[],w.heap.size⟩ ?_
 refine holds_loopW (w:=w) (S':=fun _=>False) (NghI s i Bf w) s.N (by kernel_rfl) (fun W0 hm=>⟨⟨0,none,0,_,by omega,by omega,OwnR.nil _ _ _ _,rfl⟩,hm⟩) ?_
 rintro m _ W1 ⟨n,A,cp,z,hmi,hin,hO1,rfl⟩ hm1 J hJ
 have hA1:=hA.kept hm1.kept (fun _ h=>h.elim)
 by_cases h1:n < s.N
 rotate_left
 ·skip
  have hnN:n = s.N:=by omega
  rw [List.take_of_length_le (by simp; omega)] at hO1
  obtain ⟨gA,rfl,_,hgA,_⟩:=OwnR.cell (j:=0) (v:=sT (Bf 0)) hO1 (by simp [strsV,List.getElem?_range (show 0 < s.N by omega)])
  refine hgS 19 (dz 9 0x1000800000) [4,42] [dF (((n:Int):Int) < (s.N:Int))] [(s.sb,0,1)] [.ops [1,1,1,0] [1,2,3,4,5,6],.code [1,1,1,1]] [⟨s.sb,54,false,s.cells⟩] [] W1.heap.size ?_
  refine hcp (.tuple #[sT zer16,i6 0]) 43 [.slice (some ⟨gA,0,none⟩) n cp] (some 43) [] tI rfl (fun wx hm=>by
    have hO_:=hO1.kept hm.kept (fun x _=>(fun ⟨b_,hb,hr,_⟩=>by obtain rfl:=List.mem_singleton.1 hb; cases hr))
    have h:=ref1all ((List.range s.N).map Bf) (by simpa using hB) (by simp; omega) gA cp wx (Nat.lt_of_lt_of_le hgA hm.kept.size) (fun j v hj=>by
     obtain ⟨g1,e1,_,_,c1⟩:=OwnR.cell hO_ hj
     cases e1
     rw [Nat.zero_add]
     exact c1)
    rw [hz,List.length_map,List.length_range,← hnN] at h
    exact h) fun z3 hz3=>?_
  replace hz3:W1.heap.size ≤ z3:=hz3
  refine hgE 16 (dz 10 0x1100000000) [4,48,49,50] [tT,tT] [] [.ops [1,1,1,1,0] [5,6,7,8],.code [1,1,1,1,1]] ⟨[(4,.bool false),(48,.bool true),(49,sT zer16),(50,.slice (some ⟨z3,0,none⟩) 16 16)],[⟨s.sb,54,false,s.cells⟩,⟨z3,5,true,(snt_v1)⟩],[],z3 + 1⟩ ?_
  refine holds_opRG (dst:=(some 51)) (x:=convert 34 9 (.slice (some ⟨z3,0,none⟩) 16 16)) (ob:=true = true) (sT zer16) (by kernel_rfl) (rfl) (by kernel_rfl) rfl (fun wx hm=>?_) ?_
  ·exact run_bytesAt (P:=Tryz.prog) wx 34 9 5 _ _ _ _ _ (List.replicate 16 0) [] [] (by kernel_rfl) (by kernel_rfl) (by kernel_rfl) (hm.at_ 1 rfl) rfl rfl byts16z
  refine hgS 7 (dz 3 49) [4] [tT,tT] [] [.code [1,1,1,1,1]] [⟨s.sb,54,false,s.cells⟩,⟨z3,5,true,(snt_v1)⟩] [] (z3 + 1) ?_
  refine hrt [] [.bool (ByteArray.toList zer16 == ByteArray.toList zer16)] [] ?_
  intro wx hm
  exact ⟨ret_bool (beq_self_eq_true _),(MemOk.bck hm1 hm).kept⟩
 obtain ⟨F,d,q,hr⟩:=hrec n h1
 have hri:(s.recL n)[i]? = some ⟨true,F,d,q,Bf n,false,0,0,0,⟨#[]⟩⟩:=by rw [SimM.recL,List.getElem?_map,List.getElem?_range hi]; exact congrArg some hr
 have hrl:=(hA1.rcd n h1).own _ ⟨_,rfl,rfl⟩
 have hol:=hA1.rws.own _ ⟨_,rfl,rfl⟩
 have hs:((List.range s.N).map Bf)[n]? = some (Bf n):=by rw [List.getElem?_map,List.getElem?_range h1]; rfl
 refine holds_wins [⟨s.gO,0 + n * 1,[.slice (some ⟨(s.row n).1,0,none⟩) s.S ((s.row n).2)]⟩,⟨(s.row n).1,0 + i * 10,(snt_v2 Bf F d q n)⟩] (fun _ y hy=>?_) ?_
 ·simp only [List.mem_cons,List.not_mem_nil,or_false] at hy
  rcases hy with rfl | rfl
  ·exact ⟨(fun ⟨b_,hb,hr,_⟩=>by obtain rfl:=List.mem_singleton.1 hb; cases hr),hol.2,own_elem (f:=s.rowV) (fun _=>rfl) hA1.rws (by rw [List.getElem?_range h1])⟩
  ·exact ⟨(fun ⟨b_,hb,hr,_⟩=>by obtain rfl:=List.mem_singleton.1 hb; cases hr),hrl.2,own_elem rec_len (hA1.rcd n h1) hri⟩
 refine hgE 51 [oh0,oh0,oh0,oh0,oh0,(oA 0 0 1),oh0,oh1,oh0,oh0,oh0,(oA 0 2 1),oh0,oh2,⟨false,0,[⟨true,0,0,1⟩]⟩,oh0,oh2,⟨false,0,[⟨true,1,0,10⟩]⟩,oh0,(oA 1 0 10),oh0,(oA 1 0 1),oh0,oh0,oh0,(oA 1 5 1),⟨false,3,[]⟩,oh0,oh0,oh0,(oA 1 4 1),oh0] [0,1,4,5,6,36,39] [dT (((n:Int):Int) < (s.N:Int)),oE ((0:Int) ≤ (n:Int) ∧ (n:Int) < ((s.N:Nat):Int)),oE ((0:Int) ≤ (i:Int) ∧ (i:Int) < ((s.S:Nat):Int)),fF,fF,fF,fF] [(s.sb,0,1),(s.sb,2,1),(s.gO,0 + n * 1,1),((s.row n).1,0 + i * 10,10),(W1.heap.size,0,10),(W1.heap.size,0,1),(W1.heap.size,5,1),(W1.heap.size,4,1)] [.ops [1,1,0,1,0,0,1,0,0,1,1] [4,5],.blk 1,.code [1,1,0,1,0,0,1,1],.inv J,.blk 0,.code [1,1,1]] ⟨[(0,(pt s.sb 0)),(1,i6 (i:Int)),(4,.bool false),(5,.slice A n cp),(6,i6 (n:Int)),(36,.slice A n cp),(39,.slice (some ⟨W1.heap.size + 1,0,none⟩) 1 1)],[⟨s.sb,54,false,s.cells⟩,⟨W1.heap.size,61,true,(snt_v2 Bf F d q n)⟩,⟨W1.heap.size + 1,9,true,[sT (Bf n)]⟩],[⟨s.gO,0 + n * 1,[.slice (some ⟨(s.row n).1,0,none⟩) s.S ((s.row n).2)]⟩,⟨(s.row n).1,0 + i * 10,(snt_v2 Bf F d q n)⟩],W1.heap.size + 2⟩ ?_
 refine holds_opV (w:=w) (S':=(fun _=>False)) (Y:=Option Addr × Nat) (dst:=(some 40)) (x:=Builtin.append_ #[32,32] 32 #[.slice A n cp,.slice (some ⟨W1.heap.size + 1,0,none⟩) 1 1]) (fun yq=>.slice yq.1 (n + 1) yq.2) [⟨s.sb,54,false,s.cells⟩] (fun yq W_=>OwnR W_ w.heap.size 9 1 yq.1 (n + 1) yq.2 (strsV (((List.range s.N).map Bf).take (n + 1)))) (fun yq=>[(40,.slice yq.1 (n + 1) yq.2),(0,(pt s.sb 0)),(1,i6 (i:Int)),(4,.bool false),(5,.slice A n cp),(6,i6 (n:Int)),(36,.slice A n cp),(39,.slice (some ⟨W1.heap.size + 1,0,none⟩) 1 1)]) (by kernel_rfl) (by kernel_rfl) (fun _=>rfl) (fun wx hm=>?_) (fun yq W3 hXa hma=>?_)
 ·have hm0:=MemOk.bck hm1 hm
  have hO_:OwnR wx w.heap.size 9 1 A n cp (strsV (((List.range s.N).map Bf).take n)):=hO1.kept hm.kept (fun x _=>(fun ⟨b_,hb,hr,_⟩=>by obtain rfl:=List.mem_singleton.1 hb; cases hr))
  obtain ⟨A',cp',w',h1,h2,h3,h4⟩:=run_appendR (P:=Tryz.prog) wx w.heap.size 32 32 9 (sT ⟨#[]⟩) 1 16 A n cp (strsV (((List.range s.N).map Bf).take n)) ⟨W1.heap.size + 1,0,none⟩ 1 1 [sT (Bf n)] (by kernel_rfl) (by kernel_rfl) (by kernel_rfl) (by decide) hO_ rfl (fun j x hj=>by rw [add_norm,Nat.zero_add]; exact (hm.at_ 2 rfl).at_ hj) (ones_all rfl) (by omega) (by decide) hm0.kept.size
  rw [show strsV (((List.range s.N).map Bf).take n) ++ [sT (Bf n)] = strsV (((List.range s.N).map Bf).take (n + 1)) by rw [List.take_add_one,hs]; simp [strsV]] at h2
  exact ⟨(A',cp'),w',h1,h2,(hm0.sub (bk':=[⟨s.sb,54,false,s.cells⟩]) (by simp)).offA (fun _ h=>h) h3 (fun y hy=>.inr (hO_.own y hy).1) (off_tys (hm0.sub (bk':=[⟨s.sb,54,false,s.cells⟩]) (by simp)) (own_tys hO_) rfl)⟩
 obtain ⟨A2,cp2⟩:=yq
 refine hgE 11 (dz 4 512) [0,1,4,5,6] [n64 (((n:Int) + 1))] [] [.inv J,.blk 0,.code [1,1,1]] ⟨[(0,(pt s.sb 0)),(1,i6 (i:Int)),(4,.bool false),(5,.slice A2 (n + 1) cp2),(6,i6 ((n:Int) + 1))],[⟨s.sb,54,false,s.cells⟩],[],W3.heap.size⟩ ?_
 rw [← cast_succ n]
 intro a_ w9 hf hm
 exact hJ (m - 1) _ a_ w9 (by omega) ⟨n + 1,A2,cp2,_,by omega,by omega,hXa.kept hm.kept (fun x _=>(fun ⟨b_,hb,hr,_⟩=>by obtain rfl:=List.mem_singleton.1 hb; cases hr)),rfl⟩ hf (MemOk.bck hma hm)
end Go.Proofs.YtcmpkkapkdlfhaaGreat
namespace Go.Proofs.YtcmpkkapkdlfhaaGreat
open Go.RowKit
def awT:ByteArray:=⟨#[48,49,50,51,52,53,54,55,56,57,97,98,99,100,101,102]⟩
structure AwK (k:OpC) (h0 pa sb:Nat):Prop where
 ok:OpOk3 k
 lo:k.lo = h0
 pb:k.pb = pa
 sb:k.s0.sb = sb
 now:k.now = 0
 kd:k.kd = 2
 at_:k.at_ = 0
 da:k.da = awT
 frm:k.frm = 200
 n:k.n = 3
 S:k.S = 1
 sn:k.sn = 0
 cn:k.cn = 0
 recs:k.s0.recs = fun _ _=>zrec
 hB:h0 ≤ k.B0
 ed:k.x0.ed = 0
def AwQ0 (k:OpC) (h0 pa sb:Nat) (W:World):Prop:=AwK k h0 pa sb ∧ k.Q0 (fun _=>True) W
def AwQ1 (k:OpC) (h0 pa sb:Nat) (W:World):Prop:=AwK k h0 pa sb ∧ k.Q1 (fun _=>True) W
def WantB (k:OpC) (g:Nat) (W:World):Prop:=Blk W g 3 [i6 1,i6 3,i6 2,i6 2,i6 2] ∧ k.b ≤ g ∧ g ≠ k.pb ∧ g ≠ k.x0.cb
theorem want_oth {k:OpC} {g:Nat}:OthOk k (WantB k g):=fun w w' T ⟨h1,h2,h3,h4⟩ hk hT=>⟨h1.kept hk (fun hx=>by
 rcases hT _ hx with e | e | e | e
 ·exact h3 e
 ·exact h4 e
 ·exact e.2 (blk_ty h1)
 ·have:=e.2 (blk_ty h1)
  omega),h2,h3,h4⟩
theorem WantB.stb {k:OpC} {g:Nat}:Stb (WantB k g):=want_oth.stb
def AwQ1W (k:OpC) (h0 pa sb g:Nat) (W:World):Prop:=AwQ1 k h0 pa sb W ∧ WantB k g W
def AwQ (k:OpC) (h0 pa sb g m:Nat) (ls:List OneM) (W:World):Prop:=AwK k h0 pa sb ∧ k.Q (WantB k g) m ls W
def AwA (k:OpC) (h0 pa sb g m:Nat) (o:OneM) (ls:List OneM) (sy:SayR) (W:World):Prop:=AwK k h0 pa sb ∧ k.QA (WantB k g) m o ls sy W
theorem aw_far {k:OpC} {h0 pa sb:Nat} {W:World} (h:AwQ1 k h0 pa sb W):k.b ≤ W.heap.size ∧ W.heap.size ≠ k.pb ∧ W.heap.size ≠ k.x0.cb:=by
 obtain ⟨a,h1,⟨lb,h2,v,h3,h4⟩,h5,h6⟩:=h
 have e1:=a.ok.toOpOk.hb
 have e2:=h3.lt
 obtain ⟨cur,fz,hc⟩:=h4.1.blk
 have e3:k.x0.cb < W.heap.size:=(Array.getElem?_eq_some_iff.1 hc).1
 exact ⟨by omega,by omega,by omega⟩
theorem oth_true {k:OpC}:OthOk k (fun _=>True):=fun _ _ _ _ _ _=>trivial
theorem aw_s {h0 pa:Nat} (w:World) (h:NewA h0 3 1 pa w) :
  Calls Tryz.prog 9 #[.agg #[i6 3,i6 1]] w (fun e w'=>∃ sb k,e = .returned (.pointer (some ⟨sb,0,none⟩)) ∧ AwQ0 k h0 pa sb w' ∧ Kept (LawL h0 w) w w'):=by
 obtain ⟨ca,a1,a2,a3⟩:=h
 have hh0:h0 ≤ w.heap.size:=by have:=a2.1; have:=a3.1; omega
 refine (new_sim 3 1 (by decide) (by decide) w).mono fun _ w' ⟨s,h1,h2,⟨h3,h3l⟩,h4⟩=>?_
 have hG:GoodS 3 1 0 (-30) s:=⟨h3.sN,h3.sS,by rw [h3.ids]; rfl,by rw [h3.says]; rfl,fun i _=>⟨0,0,0,by rw [h3.lea],by omega,by omega⟩,fun i _ m _=>⟨0,0,0,zer16,by rw [h3.recs]; rfl,by rw [h3.lea]; exact ⟨Int.le_refl 0,Int.le_refl 0⟩,by rw [h3.lea]; exact ⟨Int.le_refl 0,Int.le_refl 0⟩,by omega,rfl⟩⟩
 have hO:GoodOp 3 1 0 0 2 0 awT 200 0 (-30) 0:=⟨by omega,by omega,by omega,by omega,by omega,by omega,by omega,.inr ⟨.inr ⟨rfl,rfl⟩,by decide,by decide,by decide⟩⟩
 have hP:GoodP 3 1 ca 200 0 (-30) s.ids (pil0 ((3:Nat):Int) ((1:Nat):Int) ca) ⟨200,1048576,[]⟩:=by rw [h3.ids]; exact goodP_new (by omega)
 exact ⟨s.sb,mkC h0 w'.heap.size w'.heap.size pa 3 1 0 0 2 0 awT 200 0 s (pil0 ((3:Nat):Int) ((1:Nat):Int) ca) ⟨200,1048576,[]⟩,h1,⟨⟨good_ok hO hG hP (Nat.le_refl _) ⟨a3.1,a3.2,Nat.le_trans hh0 h4.size,Nat.le_trans hh0 h3l.1,Nat.le_trans hh0 h3l.2.1,Nat.le_trans hh0 h3l.2.2.1,fun n hn=>Nat.le_trans hh0 (h3l.2.2.2 n hn)⟩,rfl,rfl,rfl,rfl,rfl,rfl,rfl,rfl,rfl,rfl,rfl,rfl,h3.recs,Nat.le_trans hh0 h4.size,rfl⟩,h2,a1.kept0 h4,trivial,Nat.le_refl _⟩,h4.mono fun _ _ h=>h.elim⟩
theorem aw_sub {k:OpC} {h0 pa sb:Nat} (w:World) (h:AwQ0 k h0 pa sb w) :
  Calls Tryz.prog 14 #[.pointer (some ⟨pa,0,none⟩),i6 0,.agg #[i6 2,i6 0,sT awT]] w (fun e w'=>e = .returned (i6 0) ∧ AwQ1 k h0 pa sb w' ∧ Kept (LawL h0 w) w w'):=by
 obtain ⟨a,h⟩:=h
 have hq:=op_sub a.ok oth_true w h
 rw [a.lo,a.pb,a.now,a.kd,a.at_,a.da] at hq
 exact hq.mono fun _ _ ⟨h1,h2,h3⟩=>⟨h1,⟨a,h2⟩,h3⟩
theorem aw_ms {k:OpC} {h0 pa sb:Nat} (a:AwK k h0 pa sb):k.rest = 6:=by simp [OpC.rest,a.kd]
def awLen:Nat → Nat
 | 0=>0 | 1=>1 | 2=>2 | 3=>1 | 4=>2 | 5=>1 | 6=>2 | 7=>1 | 8=>2 | 9=>3 | _=>1
theorem aw_len {k:OpC} {h0 pa sb g m:Nat} {ls:List OneM} {W:World} (h:AwQ k h0 pa sb g m ls W):ls.length = awLen m ∧ m ≤ 10:=by
 obtain ⟨a,p,a1,rfl,rfl,_⟩:=h
 have er:=aw_ms a
 have en:=a.n
 have hl:=k.lsF_len
 cases p with
 | lea=>simp only [Ph.ms,Ph.ls,er,en]; exact ⟨rfl,by omega⟩
 | fen i=>
  have hi:i < k.n:=a1
  simp only [Ph.ms,Ph.ls,er,en,List.length_drop,hl]
  have h3:i = 0 ∨ i = 1 ∨ i = 2:=by omega
  rcases h3 with rfl | rfl | rfl <;> exact ⟨rfl,by omega⟩
 | rd0 | rd1=>
  have h1:k.kd = 1:=a1
  have:=a.kd
  omega
 | _=>exact ⟨rfl,by simp only [Ph.ms]; omega⟩
theorem aw_step {k:OpC} {h0 pa sb g:Nat} (w:World) (h:AwQ1W k h0 pa sb g w) :
  Calls Tryz.prog 16 #[.pointer (some ⟨pa,0,none⟩),i6 0] w (fun e w'=>∃ A ca ls,e = .returned (.slice A (List.length ls) ca) ∧ AwQ k h0 pa sb g 10 ls w' ∧ OwnR w' h0 65 26 A ls.length ca (lettersC 200 ls) ∧ Kept (fun y=>LawL h0 w y ∨ (h0 ≤ y ∧ TyIn w 65 y)) w w'):=by
 obtain ⟨⟨a,h⟩,hw⟩:=h
 have hq:=op_step a.ok want_oth w ⟨h.1,h.2.1,hw,h.2.2.2⟩
 rw [a.lo,a.pb,a.now,a.frm] at hq
 refine hq.mono fun _ _ ⟨A,ca,ls,h1,h2,h3,h4⟩=>⟨A,ca,ls,h1,⟨a,?_⟩,h3.below a.hB,h4.mono fun y _ hy=>hy.imp id (fun h=>⟨Nat.le_trans a.hB h.1,h.2⟩)⟩
 rw [aw_ms a,a.n] at h2
 exact h2
theorem Ph.busy {k:OpC} (p:Ph) {W:World} (h:p.pil k W) (hp:p ≠ .fin):∃ x,Blk W k.pb 98 (PilC.cells x) ∧ x.busy = true:=by
 cases p with
 | lea=>exact ⟨_,h.1,rfl⟩
 | fen i=>
  obtain ⟨g,h1,_⟩:=h
  exact ⟨_,h1.1,rfl⟩
 | rd0 | rd1 | rw0 | rw1=>
  obtain ⟨g,gx,h1,_⟩:=h
  exact ⟨_,h1.1,rfl⟩
 | pr0 | pr1 | co0 | co1=>
  obtain ⟨g,gx,v,h1,_⟩:=h
  exact ⟨_,h1.1,rfl⟩
 | fin=>exact absurd rfl hp
theorem aw_busy {k:OpC} {h0 pa sb g m:Nat} {ls:List OneM} (w:World) (h:AwQ k h0 pa sb g m ls w) (hm:m ≠ 0) :
  Calls Tryz.prog 15 #[.pointer (some ⟨pa,0,none⟩)] w (RetK (.bool true) w):=by
 obtain ⟨a,p,a1,a2,a3,a4,a5,a6,a7⟩:=h
 obtain ⟨x,h1,h2⟩:=p.busy a5 (fun e=>hm (by rw [a2,e]; rfl))
 have hq:=pil_busy x k.pb w h1
 rw [h2,a.pb] at hq
 exact hq
theorem aw_fin {k:OpC} {h0 pa sb g:Nat} {ls:List OneM} {W:World} (h:AwQ k h0 pa sb g 0 ls W):AwK k h0 pa sb ∧ SimQ k k.Rend W ∧ PilS W k.B0 pa (k.xI k.lvE k.dtE) (k.cI (k.rest:Int)):=by
 obtain ⟨a,p,a1,a2,a3,a4,a5,a6,a7⟩:=h
 have er:=aw_ms a
 have en:=a.n
 have e:p = .fin:=by
  cases p with
  | fin=>rfl
  | fen i=>
   have hi:i < k.n:=a1
   simp only [Ph.ms] at a2
   omega
  | _=>simp only [Ph.ms] at a2; omega
 subst e
 exact ⟨a,a4,by rw [← a.pb]; exact a5.1⟩
theorem aw_idle {k:OpC} {h0 pa sb g:Nat} {ls:List OneM} (w:World) (h:AwQ k h0 pa sb g 0 ls w) :
  Calls Tryz.prog 15 #[.pointer (some ⟨pa,0,none⟩)] w (RetK (.bool false) w) ∧ Calls Tryz.prog 20 #[.pointer (some ⟨pa,0,none⟩)] w (RetK (.tuple #[i6 0,sT ⟨#[]⟩,i6 1]) w):=by
 obtain ⟨a,_,h1⟩:=aw_fin h
 have ed:k.dtE = ⟨#[]⟩:=by simp [OpC.dtE,a.kd]
 rw [ed] at h1
 have hl:=pil_last _ pa w h1.1
 have e1:k.x0.ed + 1 = 1:=by rw [a.ed]; rfl
 refine ⟨pil_busy _ pa w h1.1,?_⟩
 rw [← e1]
 exact hl
theorem aw_ans {k:OpC} {h0 pa sb g m:Nat} {o:OneM} {ls:List OneM} (w:World) (h:AwQ k h0 pa sb g m (o :: ls) w) :
  Calls Tryz.prog 18 #[.pointer (some ⟨sb,0,none⟩),i6 0,.agg #[i6 200,i6 o.to,i6 o.id,.bool false,i6 o.q.kind,i6 o.q.stripe,i6 o.q.epoch,i6 o.q.seq,i6 o.q.mask,i6 o.q.node,i6 o.q.oe,i6 o.q.os,sT o.q.block,i6 0,i6 0,i6 0,.bool false,i6 0,i6 0,i6 0,sT ⟨#[]⟩,.bool false,i6 0,i6 0,i6 0,sT ⟨#[]⟩]] w (fun e w'=>∃ sy:SayR,e = .returned (.tuple #[.agg #[i6 o.to,i6 200,i6 o.id,.bool true,i6 0,i6 0,i6 0,i6 0,i6 0,i6 0,i6 0,i6 0,sT ⟨#[]⟩,i6 sy.st,i6 sy.ep,i6 sy.ou,.bool sy.rc.used,i6 sy.rc.fence,i6 sy.rc.de,i6 sy.rc.ds,sT sy.rc.block,.bool sy.rc.op,i6 sy.rc.ie,i6 sy.rc.is,i6 sy.rc.mask,sT sy.rc.staged],.bool true]) ∧ AwA k h0 pa sb g m o ls sy w' ∧ Kept (LawL h0 w) w w'):=by
 obtain ⟨a,h⟩:=h
 have hq:=op_answer a.ok want_oth w h
 rw [a.lo,a.sb,a.now,a.frm] at hq
 exact hq.mono fun _ _ ⟨sy,h1,h2,h3⟩=>⟨sy,h1,⟨a,h2⟩,h3⟩
theorem aw_rec {k:OpC} {h0 pa sb g m:Nat} {o:OneM} {ls:List OneM} {sy:SayR} (w:World) (h:AwA k h0 pa sb g m o ls sy w) :
  Calls Tryz.prog 19 #[.pointer (some ⟨pa,0,none⟩),i6 0,.agg #[i6 o.to,i6 200,i6 o.id,.bool true,i6 0,i6 0,i6 0,i6 0,i6 0,i6 0,i6 0,i6 0,sT ⟨#[]⟩,i6 sy.st,i6 sy.ep,i6 sy.ou,.bool sy.rc.used,i6 sy.rc.fence,i6 sy.rc.de,i6 sy.rc.ds,sT sy.rc.block,.bool sy.rc.op,i6 sy.rc.ie,i6 sy.rc.is,i6 sy.rc.mask,sT sy.rc.staged]] w (fun e w'=>∃ A ca nx,e = .returned (.slice A (List.length nx) ca) ∧ (AwQ k h0 pa sb g (m - 1) (ls ++ nx) w' ∧ 0 < m) ∧ OwnR w' w.heap.size 65 26 A nx.length ca (lettersC 200 nx) ∧ Kept (LawL h0 w) w w'):=by
 obtain ⟨a,p,a1,a2,a3,a0,a4,a5,a6,a7⟩:=h
 have hq:=op_rec a.ok.toOpOk2 a1 a3 a4 a5 a7 sy a0 200 a.frm.symm
 rw [a.pb,a.now] at hq
 refine hq.mono fun e w' hh=>?_
 obtain ⟨A,ca,nx,p',b1,b2,b3,b4,b5,b6,b7,b8,es,b9,b10⟩:=hh
 rw [a.frm] at b7
 exact ⟨A,ca,nx,b1,⟨⟨a,p',b2,by omega,b4,b5,b6,want_oth _ _ _ a6 b9 (pilT_oth a7 b10),Nat.le_trans a7 b9.size⟩,by omega⟩,b7,b8.and_ (b9.mono fun y _ hy=>by have h_:=pilT_lo a.ok.toOpOk a7 y hy; rw [a.lo] at h_; exact h_)⟩
def awM:Nat → Nat
 | 0=>10 | 1=>9 | 2=>6 | 3=>4 | 4=>2 | _=>0
theorem awM_fin:∀ i,i < 5 → awM i - awLen (awM i) = awM (i + 1) ∧ awM i ≠ 0:=by decide
theorem AwQ0.stb {k:OpC} {h0 pa sb:Nat}:Stb (AwQ0 k h0 pa sb):=fun _ _ _ _ ⟨a,h⟩ hk hT he=>⟨a,SimAt.stb _ _ _ _ h.1 hk hT he,PilI.stb _ _ _ _ h.2.1 hk hT he,trivial,Nat.le_trans h.2.2.2 hk.size⟩
theorem AwQ1.stb {k:OpC} {h0 pa sb:Nat}:Stb1 (AwQ1 k h0 pa sb):=by
 intro w1 w2 T es h hk hT he
 obtain ⟨a,h1,⟨lb,h2,v,h3,h4⟩,h5,h6⟩:=h
 have he2:es.all (fun e=>!(TL17.contains e)) = true:=List.all_eq_true.2 fun e h5=>by
  have h6:=List.all_eq_true.1 he e h5
  simp at h6 ⊢
  exact h6.2
 have h65:es.contains 65 = false:=by
  cases h6:es.contains 65 with
  | false=>rfl
  | true=>
   have h7:=List.all_eq_true.1 he 65 (by simpa using h6)
   simp at h7
 have H:=stb_not he2
 exact ⟨a,SimAt.stb _ _ _ _ h1 hk hT he2,⟨lb,h2,v,h3.kept hk (fun hx=>tysIn_not (H _ rfl) (blk_ty h3) (hT _ hx)),h4.keptT hk hT (H _ rfl) (H _ rfl) h65⟩,trivial,Nat.le_trans h6 hk.size⟩
theorem AwQ.stb {k:OpC} {h0 pa sb g m:Nat} {ls:List OneM}:Stb (AwQ k h0 pa sb g m ls):=fun _ _ _ _ ⟨a,p,a1,a2,a3,a4,a5,a6,a7⟩ hk hT he=>⟨a,p,a1,a2,a3,p.sim_stb _ _ _ _ a4 hk hT he,p.pil_stb _ _ _ _ a5 hk hT he,WantB.stb _ _ _ _ a6 hk hT he,Nat.le_trans a7 hk.size⟩
theorem AwA.stb {k:OpC} {h0 pa sb g m:Nat} {o:OneM} {ls:List OneM} {sy:SayR}:Stb (AwA k h0 pa sb g m o ls sy):=fun _ _ _ _ ⟨a,p,a1,a2,a3,a0,a4,a5,a6,a7⟩ hk hT he=>⟨a,p,a1,a2,a3,a0,SimQ.stb _ _ _ _ a4 hk hT he,p.pil_stb _ _ _ _ a5 hk hT he,WantB.stb _ _ _ _ a6 hk hT he,Nat.le_trans a7 hk.size⟩
theorem AwQ1W.stb {k:OpC} {h0 pa sb g:Nat}:Stb1 (AwQ1W k h0 pa sb g):=by
 intro w1 w2 T es h hk hT he
 have he2:es.all (fun e=>!(TL17.contains e)) = true:=List.all_eq_true.2 fun e h5=>by
  have h6:=List.all_eq_true.1 he e h5
  simp at h6 ⊢
  exact h6.2
 exact ⟨AwQ1.stb _ _ _ _ h.1 hk hT he,WantB.stb _ _ _ _ h.2 hk hT he2⟩
theorem aw_a {lo:Nat} (w:World) (hl:lo ≤ w.heap.size):Calls Tryz.prog 8 #[.agg #[i6 3,i6 1],i6 0,i6 1] w (fun e w'=>∃ pa,e = .returned (.pointer (some ⟨pa,0,none⟩)) ∧ NewA lo 3 1 pa w' ∧ Kept (LawL lo w) w w'):=new_a (N:=3) (S:=1) (by decide) (by decide) w hl
end Go.Proofs.YtcmpkkapkdlfhaaGreat
