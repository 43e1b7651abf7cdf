import Derived.Test.YtpilmccjjbgmiaaPlat4
namespace Go.Proofs.Ytpilmccjjbgmiaa
open Go.RowKit
def prs_n1:List Nat:=[0,1,0,0,1,1,0,0,1,1,0]
@[simp] def prs_b1 (n:Nat) (a:Int) (c:Int) (off:Bool) (lb:Nat) (mb:Nat) (pb:Nat) (last1:List (List Int)):List Bk:=[⟨pb,90,true,[.slice (some ⟨lb,0,none⟩) n n,.map (some mb),.bool off,i6 a,i6 c]⟩,⟨lb,94,true,(secsV last1)⟩]
@[simp] def prs_b2 (n:Nat) (a:Int) (c:Int) (off:Bool) (lb:Nat) (mb:Nat) (pb:Nat) (last:List (List Int)):List Bk:=[⟨pb,90,true,[.slice (some ⟨lb,0,none⟩) n n,.map (some mb),.bool off,i6 a,i6 c]⟩,⟨lb,94,true,(secsV last)⟩]
def RestartI (n:Nat) (a:Int) (c:Int) (off:Bool) (lb:Nat) (mb:Nat) (pb:Nat) (last:List (List Int)) (cs:List CE) (ck:Nat) (A:Option Addr) (K:Option Addr) (nk:Nat) (kcp:Nat) (nc:Nat) (cp:Nat) (kf:Nat → Num1) (w:World)  (m:Nat) (st:St) (W1:World):Prop:=
 ∃ (i:Nat) (last1:List (List Int)) (z:Nat),m + i = nc ∧ last1 = ovl last (keptC cs (keepB nk kf) i) ∧ OwnI W1 w.heap.size 3 A nc cp (sortI (cs.map (·.k))) ∧ MapAt W1 mb cs ck ∧ st = ⟨[(0,(pt pb 0)),(1,.slice K nk kcp),(7,.slice A nc cp),(8,.int .i64 (nc:Int)),(9,.int .i64 (i:Int))],(prs_b1 n a c off lb mb pb last1),[],z⟩
def prs_g11s (k:Int) (pb:Nat) (nk:Nat) (kcp:Nat) (nc:Nat) (cp:Nat) (i:Nat) (g:Nat) (b:Nat) (o:Nat):List (Nat × Value):=[(0,(pt pb 0)),(1,.slice (some ⟨b,o,none⟩) nk kcp),(5,i6 k),(7,.slice (some ⟨g,0,none⟩) nc cp),(8,i6 (nc:Int)),(9,i6 (i:Int))]
def prs_g11v (n:Nat) (k:Int) (lb:Nat) (mb:Nat) (pb:Nat) (L:List Int):List (Option Value):=[some ((pt pb 0)),some ((pt pb 0)),some ((pt pb 0)),some (.slice (some ⟨lb,0,none⟩) n n),some (i6 k),some ((pt pb 0)),some ((pt pb 0)),some ((pt pb 1)),some (.map (some mb)),some (i6 k),some (secV L),some (.pointer (some ⟨lb,0 + (Int.toNat k) * 64,none⟩)),some (.tuple #[])]
def prs_g11m (n:Nat) (k:Int) (a:Int) (c:Int) (off:Bool) (lb:Nat) (mb:Nat) (pb:Nat) (L:List Int) (last1:List (List Int)):List (List Bk):=[(prs_b1 n a c off lb mb pb last1),[⟨pb,90,true,[.slice (some ⟨lb,0,none⟩) n n,.map (some mb),.bool off,i6 a,i6 c]⟩,⟨lb,94,true,(secsV (List.set last1 (Int.toNat k) L))⟩]]
def prs_g11t:List (Option Nat):=[none,none,none,none,none,none,none,none,none,none,none,none,some 0]
def prs_g11C (n:Nat) (k:Int) (a:Int) (c:Int) (off:Bool) (lb:Nat) (mb:Nat) (pb:Nat) (L:List Int) (last:List (List Int)) (last1:List (List Int)) (cs:List CE) (ck:Nat) (nk:Nat) (kcp:Nat) (nc:Nat) (cp:Nat) (kf:Nat → Num1) (i:Nat) (g:Nat) (b:Nat) (o:Nat) (w:World) (W1:World) (J:Act → World → Prop) (i_:Nat):Prop:=CertG (wpOp Try.prog (opsOf (getCode (bodyOf Try.f28) prs_n1)) (sem Try.prog (bodyOf Try.f28) (bodyPost Try.prog Try.f28 (fun e w'=>e = .returned (.tuple #[]) ∧ Blk w' pb 90 [.slice (some ⟨lb,0,none⟩) n n,.map (some mb),.bool false,i6 a,i6 0] ∧ Blk w' lb 94 (secsV (ovl last (keptC cs (keepB nk kf) nc))) ∧ MapAt w' mb [] ck ∧ Kept (fun x=>x = pb ∨ x = lb ∨ x = mb) w w')) [.blk 1,.code [0,1,0,0,1,1,1],.inv J,.blk 0,.code [1]])) [] 49 (opsOf (getCode (bodyOf Try.f28) prs_n1)) (slI (opsOf (getCode (bodyOf Try.f28) prs_n1)) (prs_g11s k pb nk kcp nc cp i g b o) i_) (prs_g11t) 1 (MG W1 (Turned (prs_b1 n a c off lb mb pb last1)) (prs_g11m n k a c off lb mb pb L last1) [⟨g,0 + i * 1,[i6 k]⟩,⟨b,o + i * 1,[i6 ((kf i).v)]⟩] W1.heap.size) (Turned (prs_b1 n a c off lb mb pb last1)) (PvG (prs_g11v n k lb mb pb L) (fun _ _ _=>False)) i_
set_option maxRecDepth 100000 in
set_option maxHeartbeats 4000000 in
theorem restart_any (n lb mb pb:Nat) (off:Bool) (a c:Int) (cs:List CE) (ck:Nat) (last:List (List Int)) (nc:Nat) (hnc:nc = cs.length) (hcl:cs.length ≤ 64) (K:Option Addr) (nk kcp:Nat) (kf:Nat → Num1) (hne:¬pb = lb) (hne1:pb ≠ mb) (hne3:lb ≠ mb) (hlen:last.length = n) (hsec:∀ L ∈ last,SecOk L) (hcs2:∀ c ∈ cs,SecOk c.L) (hck:∀ c ∈ cs,0 ≤ c.k ∧ c.k < (n:Int)) (hborn:∀ c ∈ cs,c.born < ck) (hnk:(cs.map (·.k)).Nodup) (hnb:(cs.map (·.born)).Nodup) (w:World) (hp:Blk w pb 90 [.slice (some ⟨lb,0,none⟩) n n,.map (some mb),.bool off,.int .i64 a,.int .i64 c]) (hl:Blk w lb 94 (secsV last)) (hmp:MapAt w mb cs ck) (HK:NumsIn w K nk kf (fun x=>x = pb ∨ x = lb ∨ x = mb)) :
  Calls Try.prog 28 #[.pointer (some ⟨pb,0,none⟩),.slice K nk kcp] w (fun e w'=>e = .returned (.tuple #[]) ∧ Blk w' pb 90 [.slice (some ⟨lb,0,none⟩) n n,.map (some mb),.bool false,.int .i64 a,.int .i64 0] ∧ Blk w' lb 94 (secsV (ovl last (keptC cs (keepB nk kf) nc))) ∧ MapAt w' mb [] ck ∧ Kept (fun x=>x = pb ∨ x = lb ∨ x = mb) w w'):=by
 have hpl:=hp.lt
 have hll:=hl.lt
 have hml:=hmp.lt
 refine calls_of_holds (S:=(fun x=>x = pb ∨ x = lb)) (l:=[(pt pb 0),.slice K nk kcp]) (n:=49) Try.func28 (body_of (by kernel_rfl)) rfl (by simp) (MemOk.start (bk:=(prs_b2 n a c off lb mb pb last)) (wn:=[]) (by simpa using ⟨hp,hl⟩) (by simp) (by simp; exact hne) (by simp)) ?_
 refine hgE 7 [oh0] [0,1,6] [] [] [.ops [0,0] [1,2,3],.code [0,1],.code [1]] ⟨[(0,(pt pb 0)),(1,.slice K nk kcp),(6,(pt pb 0))],(prs_b2 n a c off lb mb pb last),[],w.heap.size⟩ ?_
 refine holds_callW (w:=w) (S':=(fun x=>x = pb ∨ x = lb ∨ x = mb)) (Y:=Option Addr × Nat) (fun (⟨A,cp⟩:Option Addr × Nat)=>.slice A nc cp) (fun (⟨A,cp⟩:Option Addr × Nat)=>(prs_b2 n a c off lb mb pb last)) (fun (⟨A,cp⟩:Option Addr × Nat) W_=>OwnI W_ w.heap.size 3 A nc cp (sortI (cs.map (·.k))) ∧ MapAt W_ mb cs ck) (fun (⟨A,cp⟩:Option Addr × Nat)=>[(7,.slice A nc cp),(0,(pt pb 0)),(1,.slice K nk kcp),(6,(pt pb 0))]) (show _ = some (61,[(pt pb 0)],some 7,[]) by kernel_rfl) tI (fun _=>rfl) (fun wx hm=>?_) (fun y W hX hmW=>?_)
 ·have hmx:MapAt wx mb cs ck:=hmp.kept hm.kept (fun e=>e.elim (fun e=>hne1 e.symm) (fun e=>hne3 e.symm))
  subst hnc
  refine (cached_any n lb mb pb off a c cs ck hcl hborn hnb wx (hm.at_ 0 rfl) hmx).mono fun e w' ⟨A,cp,he,h1,h2⟩=>?_
  rw [hm.size] at h1
  have h3:=(hm.same h2).2
  exact ⟨(A,cp),he,⟨h1,hmx.kept h2 id⟩,⟨h3.size,h3.blk,fun b hb hr=>(h3.own b hb hr).imp_left (fun h=>h.elim .inl (fun h=>.inr (.inl h))),h3.nd,h3.kept.mono (fun _ _ h=>h.elim .inl (fun h=>.inr (.inl h))),fun _ h=>by cases h⟩⟩
 obtain ⟨A,cp⟩:=y
 obtain ⟨hO0,hM0⟩:=hX
 have hwW:=hmW.kept.size
 have hO0w:=hO0.own
 have hd1:=hne1
 have hd3:=hne3
 have hd2:=hne
 have hnO:∀ x,w.heap.size ≤ x → ¬ Turned (prs_b2 n a c off lb mb pb last) x:=by
  rintro x hx ⟨b,hb,hr,he⟩
  simp at hb
  rcases hb with rfl | rfl <;> simp at he <;> omega
 have hnM:¬ Turned (prs_b2 n a c off lb mb pb last) mb:=by
  rintro ⟨b,hb,hr,he⟩
  simp at hb
  rcases hb with rfl | rfl <;> simp at he hr <;> omega
 refine hgE 7 [oh0,oh0] [0,1,7,8,9] [] [] [.code [0,1,0],.blk 0,.code [1]] ⟨[(0,(pt pb 0)),(1,.slice K nk kcp),(7,.slice A nc cp),(8,i6 (nc:Int)),(9,i6 0)],(prs_b2 n a c off lb mb pb last),[],W.heap.size⟩ ?_
 refine holds_loopW (w:=w) (S':=(fun x=>x = pb ∨ x = lb ∨ x = mb)) (RestartI n a c off lb mb pb last cs ck A K nk kcp nc cp kf w) nc (by kernel_rfl) (fun W1 hm=>⟨⟨0,last,_,rfl,by rw [keptC_zero,ovl_nil],hO0.kept hm.kept (fun x hx=>hnO x (hO0w x hx).1),hM0.kept hm.kept hnM,rfl⟩,hmW.back hm⟩) ?_
 rintro m _ W1 ⟨i,last1,z,hmi,hl1,hO1,hM1,rfl⟩ hm1 J hJ
 replace hnM:¬ Turned (prs_b1 n a c off lb mb pb last1) mb:=by
  rintro ⟨b,hb,hr,he⟩
  simp at hb
  rcases hb with rfl | rfl <;> simp at he hr <;> omega
 replace hnO:∀ x,w.heap.size ≤ x → ¬ Turned (prs_b1 n a c off lb mb pb last1) x:=by
  rintro x hx ⟨b,hb,hr,he⟩
  simp at hb
  rcases hb with rfl | rfl <;> simp at he <;> omega
 have hs1:∀ L ∈ last1,L.length = 64:=fun L hL=>(ovl_sec (cs:=keptC cs (keepB nk kf) i) hsec (fun c hc=>hcs2 c (keptC_mem c hc)) L (hl1 ▸ hL)).1
 have hn1:last1.length = n:=by rw [hl1,length_ovl,hlen]
 by_cases h1:i < nc
 rotate_left
 ·skip
  have hin:i = nc:=by omega
  rw [hin] at hl1
  refine hgE 16 [oh0,oh0,oh0,oh0,oh0,(oA 0 1 1)] [0,42] [dF (((i:Int):Int) < (nc:Int))] [(pb,1,1)] [.ops [1,0] [4],.code [1,1]] ⟨[(0,(pt pb 0)),(42,.map (some mb))],(prs_b1 n a c off lb mb pb last1),[],W1.heap.size⟩ ?_
  refine holds_opW (w:=w) (S':=(fun x=>x = pb ∨ x = lb ∨ x = mb)) (dst:=none) (x:=Builtin.clear_ #[88] 0 #[.map (some mb)]) (fun _=>.tuple #[]) (fun _ W3=>MapAt W3 mb [] ck) (fun _=>[(0,(pt pb 0)),(42,.map (some mb))]) (by kernel_rfl) (by kernel_rfl) (fun _=>rfl) (fun wx hm=>?_) (fun _ W3 hX3 hm1'=>?_)
  ·obtain ⟨w',h1,h2,h3,h4⟩:=run_clearC (P:=Try.prog) wx 88 3 94 0 mb cs ck (by kernel_rfl) (hM1.kept hm.kept hnM)
   refine ⟨0,w',h1,h2,?_⟩
   have h5:=MemOk.back2 hm1 hm
   exact (h5.upd (S:=(fun x=>x = pb ∨ x = lb ∨ x = mb)) (bk':=(prs_b1 n a c off lb mb pb last1)) h3 (fun x _ e=>.inr (.inr e)) ⟨(h5.at_ 0 rfl).kept h3 (fun e=>hne1 e),(h5.at_ 1 rfl).kept h3 (fun e=>hne3 e),trivial⟩ h5.own h5.nd).2
  refine hgE 14 [oh0,oh0,oh0,oh0,(oA 0 2 1),oh0,oh0,(oA 0 4 1)] [] [] [(pb,2,1),(pb,4,1)] [] ⟨[],[⟨pb,90,true,[.slice (some ⟨lb,0,none⟩) n n,.map (some mb),.bool false,i6 a,i6 0]⟩,⟨lb,94,true,(secsV last1)⟩],[],W3.heap.size⟩ ?_
  refine holds_end [] (show _ = some ([],dupR []) by kernel_rfl) ?_
  intro wx hm
  refine ⟨rfl,hm.at_ 0 rfl,by rw [← hl1]; exact hm.at_ 1 rfl,hX3.kept hm.kept hnM,(MemOk.back2 hm1' hm).kept⟩
 obtain ⟨k,hk,en,hen,hek⟩:=keys_get (cs:=cs) (i:=i) (by omega)
 obtain ⟨g,hA,hg1,hg2,hg3⟩:=hO1.get hk
 subst hA
 have hkb:=hck en hen
 rw [hek] at hkb
 by_cases h2:i < nk
 rotate_left
 ·skip
  refine holds_wins [⟨g,0 + i * 1,[i6 k]⟩] (fun _ x hx=>?_) ?_
  ·simp only [List.mem_singleton] at hx
   subst hx
   refine ⟨hnO _ hg1,hg2,fun j v hj=>?_⟩
   match j,hj with
   | 0,hj=>
    simp only [List.getElem?_cons_zero,Option.some.injEq] at hj
    subst hj
    show W1.cell? ⟨g,0 + i * 1 + 0,none⟩ = _
    rw [Nat.zero_add,Nat.mul_one,Nat.add_zero]
    exact hg3
   | j + 1,hj=>simp at hj
  refine hgE 42 [oh0,oh1,oh0,oh2,⟨false,0,[⟨true,0,0,1⟩]⟩,oh0,oh0,oh0,oh0,oh0,oh0,oh0,oh0,oh0,oh0,oh0,oh0,oh0,⟨false,3,[]⟩,oh0,oh2,oh0] [0,1,7,8,9] [dT (((i:Int):Int) < (nc:Int)),oE ((0:Int) ≤ (i:Int) ∧ (i:Int) < ((nc:Nat):Int)),dF (((i:Int):Int) < (nk:Int)),dF (((i:Int):Int) < (nk:Int)),dF (((i:Int):Int) < (nk:Int)),dF (((i:Int):Int) < (nk:Int)),dF (((i:Int):Int) < (nk:Int)),dF (((i:Int):Int) < (nk:Int)),dF (((i:Int):Int) < (nk:Int)),fF,n64 (((i:Int) + 1))] [(g,0 + i * 1,1)] [.inv J,.blk 0,.code [1]] ⟨[(0,(pt pb 0)),(1,.slice K nk kcp),(7,.slice (some ⟨g,0,none⟩) nc cp),(8,i6 (nc:Int)),(9,i6 ((i:Int) + 1))],(prs_b1 n a c off lb mb pb last1),[⟨g,0 + i * 1,[i6 k]⟩],W1.heap.size⟩ ?_
  refine holds_wins [] (fun _ _ h=>by cases h) ?_
  rw [← cast_succ i]
  intro a_ w3 hf hm
  exact hJ (m - 1) _ a_ w3 (by omega) ⟨i + 1,last1,_,by omega,by rw [hl1,keptC_off (by simp [keepB]; intro h; omega)],hO1.kept hm.kept (fun x hx=>hnO x (hO1.own x hx).1),hM1.kept hm.kept hnM,rfl⟩ hf (MemOk.back2 hm1 hm)
 obtain ⟨b,o,hKe,hb,hnb2,hbc⟩:=HK i h2
 subst hKe
 have hb1:b < W1.heap.size ∧ W1.cell? ⟨b,o + i * 1,none⟩ = some (.int .i64 (kf i).v):=⟨Nat.lt_of_lt_of_le hb hm1.kept.size,by
  have h3:W1.cell? ⟨b,o + i * 1,none⟩ = w.cell? ⟨b,o + i * 1,none⟩:=hm1.kept.cell (p:=⟨b,o + i * 1,none⟩) hb hnb2
  rw [h3]
  exact hbc⟩
 refine holds_wins [⟨g,0 + i * 1,[i6 k]⟩,⟨b,o + i * 1,[i6 (kf i).v]⟩] (fun _ x hx=>?_) ?_
 ·simp only [List.mem_cons,List.not_mem_nil,or_false] at hx
  rcases hx with rfl | rfl
  ·refine ⟨hnO _ hg1,hg2,fun j v hj=>?_⟩
   match j,hj with
   | 0,hj=>
    simp only [List.getElem?_cons_zero,Option.some.injEq] at hj
    subst hj
    show W1.cell? ⟨g,0 + i * 1 + 0,none⟩ = _
    rw [Nat.zero_add,Nat.mul_one,Nat.add_zero]
    exact hg3
   | j + 1,hj=>simp at hj
  ·refine ⟨fun ⟨c,hc,hr,he⟩=>hnb2 ?_,hb1.1,fun j v hj=>?_⟩
   ·simp at hc
    rcases hc with rfl | rfl <;> simp at he
    ·exact .inl he.symm
    ·exact .inr (.inl he.symm)
   ·match j,hj with
    | 0,hj=>
     simp only [List.getElem?_cons_zero,Option.some.injEq] at hj
     subst hj
     exact hb1.2
    | j + 1,hj=>simp at hj
 refine hgE 35 [oh0,oh1,oh0,oh2,⟨false,0,[⟨true,0,0,1⟩]⟩,oh0,oh0,oh0,oh0,oh0,oh0,oh0,oh1,oh1,⟨true,1,[]⟩,⟨true,0,[⟨true,1,0,1⟩]⟩,⟨true,2,[]⟩,oh1,oh3] [0,1,5,7,8,9,25] [dT (((i:Int):Int) < (nc:Int)),oE ((0:Int) ≤ (i:Int) ∧ (i:Int) < ((nc:Nat):Int)),dT (((i:Int):Int) < (nk:Int)),dT (((i:Int):Int) < (nk:Int)),dT (((i:Int):Int) < (nk:Int)),oE ((0:Int) ≤ (i:Int) ∧ (i:Int) < ((nk:Nat):Int)),dT (((i:Int):Int) < (nk:Int)),dT (((i:Int):Int) < (nk:Int)),oE ((2:Int) ≠ 0) (by decide),dT (((i:Int):Int) < (nk:Int)),dT (((i:Int):Int) < (nk:Int))] [(g,0 + i * 1,1),(b,o + i * 1,1)] [.code [0,1,0,0,1,1,0,0,1,1],.blk 1,.code [0,1,0,0,1,1,1],.inv J,.blk 0,.code [1]] ⟨[(0,(pt pb 0)),(1,.slice (some ⟨b,o,none⟩) nk kcp),(5,i6 k),(7,.slice (some ⟨g,0,none⟩) nc cp),(8,i6 (nc:Int)),(9,i6 (i:Int)),(25,.bool ((Int.tmod ((kf i).v) 2) != 0))],(prs_b1 n a c off lb mb pb last1),[⟨g,0 + i * 1,[i6 k]⟩,⟨b,o + i * 1,[i6 ((kf i).v)]⟩],W1.heap.size⟩ ?_
 rcases Bool.eq_false_or_eq_true ((Int.tmod ((kf i).v) 2) != 0) with d1 | d1
 ·skip
  have hLe:∃ L,valC cs k = some L ∧ SecOk L:=⟨en.L,(valC_iff hnk k en.L).2 ⟨en,hen,hek,rfl⟩,hcs2 en hen⟩
  obtain ⟨L,hvL,hL⟩:=hLe
  refine hgE 4 [oh1] [0,1,5,7,8,9] [eD d1] [] [.code prs_n1,.blk 1,.code [0,1,0,0,1,1,1],.inv J,.blk 0,.code [1]] ⟨[(0,(pt pb 0)),(1,.slice (some ⟨b,o,none⟩) nk kcp),(5,i6 k),(7,.slice (some ⟨g,0,none⟩) nc cp),(8,i6 (nc:Int)),(9,i6 (i:Int))],(prs_b1 n a c off lb mb pb last1),[⟨g,0 + i * 1,[i6 k]⟩,⟨b,o + i * 1,[i6 ((kf i).v)]⟩],W1.heap.size⟩ ?_
  have prs_g11_c10:prs_g11C n k a c off lb mb pb L last last1 cs ck nk kcp nc cp kf i g b o w W1 J 10:=cert_op (by
    intro j a_ wx hj hjs hcap hf hk_ hm
    have hmx:MapAt wx mb cs ck:=by
     obtain ⟨bk,hb,hz,hM⟩:=hm
     exact hM1.kept hM.kept hnM
    exact ⟨_,Instr.lookup 88 (.map (some mb)) (.int .i64 k) false,_,wx,hf,by kernel_rfl,by kernel_rfl,run_look0 (P:=Try.prog) wx 88 3 94 .i64 mb cs ck k L (by kernel_rfl) (by kernel_rfl) hmx hvL,(rfl:secV L = _),Kept.refl _ _,hm⟩)
  have prs_g11_c12:prs_g11C n k a c off lb mb pb L last last1 cs ck nk kcp nc cp kf i g b o w W1 J 12:=cert_opS (by
    intro j a_ wx hj hjs hf hk_ hm
    obtain ⟨rfl,_⟩:=hjs 0 (by kernel_rfl)
    obtain ⟨bk,hb,hz,hM⟩:=hm
    have hb':some (prs_b1 n a c off lb mb pb last1) = some bk:=hb
    cases hb'
    obtain ⟨w',h1,h2,h3,h4⟩:=store_row (P:=Try.prog) (t:=94) hM (i:=1) rfl hs1 (k:=Int.toNat k) (by omega) hL.1 (by kernel_rfl)
    exact ⟨_,_,_,hf,by kernel_rfl,by kernel_rfl,h1,(rfl:undef = _),h2.mono (fun k _ e=>⟨⟨lb,94,true,secsV last1⟩,List.mem_of_getElem? (i:=1) (by kernel_rfl),rfl,e.symm⟩),_,by kernel_rfl,Nat.le_trans hz h3,h4⟩)
  have prs_g11_R:∀ e_ ∈ (rZs [0,1,2,4,5,6,7,9] ++ [⟨3,⟨false,0,[⟨false,0,0,1⟩]⟩,[],[(pb,0,1)]⟩,⟨8,⟨false,0,[⟨false,0,1,1⟩]⟩,[],[(pb,1,1)]⟩,⟨11,oh2,[oE ((0:Int) ≤ k ∧ k < ((n:Nat):Int))],[]⟩]:List RegE),prs_g11C n k a c off lb mb pb L last last1 cs ck nk kcp nc cp kf i g b o w W1 J e_.i:=certs_reg (by kernel_rfl) _ (fun sz=>by kernel_rfl)
  refine holds_mixG (vs:=(prs_g11v n k lb mb pb L)) (ms:=(prs_g11m n k a c off lb mb pb L last1)) (stg:=(prs_g11t)) (J:=1) (sl':=[(0,(pt pb 0)),(1,.slice (some ⟨b,o,none⟩) nk kcp),(7,.slice (some ⟨g,0,none⟩) nc cp),(8,i6 (nc:Int)),(9,i6 (i:Int))]) (bk':=[⟨pb,90,true,[.slice (some ⟨lb,0,none⟩) n n,.map (some mb),.bool off,i6 a,i6 c]⟩,⟨lb,94,true,(secsV (List.set last1 (Int.toNat k) L))⟩]) (fun _ _ _=>False) [0,1,7,8,9] (by kernel_rfl) (by kernel_rfl) (by kernel_rfl) (fun _ _ _ _ h=>h.elim) (certs_mix prs_g11_R [10,12] ⟨prs_g11_c10,prs_g11_c12,tI⟩ (by kernel_rfl)) (by kernel_rfl) (by kernel_rfl) (by kernel_rfl) (fun z11 hz11=>?_)
  replace hz11:W1.heap.size ≤ z11:=hz11
  refine hgE 8 [oh2,oh0] [0,1,7,8,9] [n64 (((i:Int) + 1))] [] [.inv J,.blk 0,.code [1]] ⟨[(0,(pt pb 0)),(1,.slice (some ⟨b,o,none⟩) nk kcp),(7,.slice (some ⟨g,0,none⟩) nc cp),(8,i6 (nc:Int)),(9,i6 ((i:Int) + 1))],[⟨pb,90,true,[.slice (some ⟨lb,0,none⟩) n n,.map (some mb),.bool off,i6 a,i6 c]⟩,⟨lb,94,true,(secsV (List.set last1 (Int.toNat k) L))⟩],[⟨g,0 + i * 1,[i6 k]⟩,⟨b,o + i * 1,[i6 ((kf i).v)]⟩],z11⟩ ?_
  refine holds_wins [] (fun _ _ h=>by cases h) ?_
  rw [← cast_succ i]
  intro a_ w3 hf hm
  exact hJ (m - 1) _ a_ w3 (by omega) ⟨i + 1,List.set last1 (Int.toNat k) L,_,by omega,by rw [hl1]; exact keptC_on hnk hk (by unfold keepB; rw [decide_eq_true h2,d1]; rfl) hkb.1 L hvL,hO1.kept hm.kept (fun x hx=>hnO x (hO1.own x hx).1),hM1.kept hm.kept hnM,rfl⟩ hf (MemOk.back2 hm1 hm)
 ·skip
  refine hgE 10 [oh0,oh2,oh0] [0,1,7,8,9] [eD d1,n64 (((i:Int) + 1))] [] [.inv J,.blk 0,.code [1]] ⟨[(0,(pt pb 0)),(1,.slice (some ⟨b,o,none⟩) nk kcp),(7,.slice (some ⟨g,0,none⟩) nc cp),(8,i6 (nc:Int)),(9,i6 ((i:Int) + 1))],(prs_b1 n a c off lb mb pb last1),[⟨g,0 + i * 1,[i6 k]⟩,⟨b,o + i * 1,[i6 ((kf i).v)]⟩],W1.heap.size⟩ ?_
  refine holds_wins [] (fun _ _ h=>by cases h) ?_
  rw [← cast_succ i]
  intro a_ w3 hf hm
  exact hJ (m - 1) _ a_ w3 (by omega) ⟨i + 1,last1,_,by omega,by rw [hl1,keptC_off (by unfold keepB; rw [d1,Bool.and_false])],hO1.kept hm.kept (fun x hx=>hnO x (hO1.own x hx).1),hM1.kept hm.kept hnM,rfl⟩ hf (MemOk.back2 hm1 hm)
theorem restart_pl (M:Pl) (pb:Nat) (K:Option Addr) (nk kcp:Nat) (kf:Nat → Num1) (w:World) (hP:PlatAt 90 94 w pb M) (HK:NumsIn w K nk kf (minePl pb M)) :
  Calls Try.prog 28 #[.pointer (some ⟨pb,0,none⟩),.slice K nk kcp] w (fun e w'=>e = .returned (.tuple #[]) ∧ PlatAt 90 94 w' pb (restartPl M (keepB nk kf)) ∧ Kept (minePl pb M) w w'):=by
 have hok:=hP.ok.restart (keepB nk kf)
 have h64:=hP.ok.cs64
 obtain ⟨h1,h2,h3,h4⟩:=hP
 obtain ⟨lb,mb,n,last,cs,ck,off,a,c⟩:=M
 refine (restart_any n lb mb pb off a c cs ck last _ rfl h64 K nk kcp kf h4.ne2 h4.ne1 h4.ne3 h4.len h4.sec (fun c hc=>(h4.csk c hc).2.2.1) (fun c hc=>⟨(h4.csk c hc).1,(h4.csk c hc).2.1⟩) (fun c hc=>(h4.csk c hc).2.2.2) h4.nk h4.nb w h1 h2 h3 HK).mono fun e w' ⟨he,hB,hl,hmw,hk⟩=>⟨he,⟨hB,hl,hmw,hok⟩,hk⟩
@[simp] def pls_b1 (n:Nat) (a:Int) (c:Int) (off:Bool) (lb:Nat) (mb:Nat) (pb:Nat) (last:List (List Int)):List Bk:=[⟨pb,90,true,[.slice (some ⟨lb,0,none⟩) n n,.map (some mb),.bool off,i6 a,i6 c]⟩,⟨lb,94,true,(secsV last)⟩]
@[simp] def pls_b2 (n:Nat) (a:Int) (c:Int) (off:Bool) (lb:Nat) (mb:Nat) (pb:Nat):List Bk:=[⟨pb,90,true,[.slice (some ⟨lb,0,none⟩) n n,.map (some mb),.bool off,i6 a,i6 c]⟩,⟨lb,94,true,(secsV (EMPTY n))⟩]
set_option maxRecDepth 100000 in
set_option maxHeartbeats 4000000 in
theorem lose_any (n lb mb pb:Nat) (off:Bool) (a c:Int) (cs:List CE) (ck:Nat) (last:List (List Int)) (hn:1 ≤ n) (hne:¬pb = lb) (hne1:pb ≠ mb) (hne3:lb ≠ mb) (hlen:last.length = n) (hls:∀ L ∈ last,L.length = 64) (w:World) (hp:Blk w pb 90 [.slice (some ⟨lb,0,none⟩) n n,.map (some mb),.bool off,.int .i64 a,.int .i64 c]) (hl:Blk w lb 94 (secsV last)) (hmp:MapAt w mb cs ck) :
  Calls Try.prog 35 #[.pointer (some ⟨pb,0,none⟩)] w (fun e w'=>e = .returned (.tuple #[]) ∧ Blk w' pb 90 [.slice (some ⟨lb,0,none⟩) n n,.map (some mb),.bool false,.int .i64 a,.int .i64 0] ∧ Blk w' lb 94 (secsV (EMPTY n)) ∧ MapAt w' mb [] ck ∧ Kept (fun x=>x = pb ∨ x = lb ∨ x = mb) w w'):=by
 have hd:¬ (mb = pb):=fun e=>hne1 e.symm
 have hd2:¬ (mb = lb):=fun e=>hne3 e.symm
 refine calls_of_holds (S:=(fun x=>x = pb ∨ x = lb)) (l:=[(pt pb 0)]) (n:=16) Try.func35 (body_of (by kernel_rfl)) rfl (by simp) (MemOk.start (bk:=(pls_b1 n a c off lb mb pb last)) (wn:=[]) (by simpa using ⟨hp,hl⟩) (by simp) (by simp; exact hne) (by simp)) ?_
 refine hgE 9 [oh0,oh0,oh0,(oA 0 0 1)] [0,5] [] [(pb,0,1)] [.ops [0] [4],.code [1]] ⟨[(0,(pt pb 0)),(5,.slice (some ⟨lb,0,none⟩) n n)],(pls_b1 n a c off lb mb pb last),[],w.heap.size⟩ ?_
 refine holds_op1 (dst:=none) (x:=Builtin.clear_ #[87] 0 #[.slice (some ⟨lb,0,none⟩) n n]) (.tuple #[]) (pls_b2 n a c off lb mb pb) (by kernel_rfl) (by kernel_rfl) rfl (fun wx hm=>?_) fun z2 hz2=>?_
 ·obtain ⟨w',h1,h2,h3,h4⟩:=run_clearSecs (P:=Try.prog) wx 87 94 0 lb n n 94 last 64 (by kernel_rfl) (by kernel_rfl) (hm.at_ 1 rfl) hls hlen hn
  exact ⟨w',h1,hm.set1 1 rfl rfl h3 h2⟩
 replace hz2:w.heap.size ≤ z2:=hz2
 refine hgE 10 [oh0,oh0,oh0,(oA 0 1 1)] [0,9] [] [(pb,1,1)] [.ops [1,0] [4],.code [1,1]] ⟨[(0,(pt pb 0)),(9,.map (some mb))],(pls_b2 n a c off lb mb pb),[],z2⟩ ?_
 refine holds_opW (w:=w) (S':=(fun x=>x = pb ∨ x = lb ∨ x = mb)) (dst:=none) (x:=Builtin.clear_ #[88] 0 #[.map (some mb)]) (fun _=>.tuple #[]) (fun _ W3=>MapAt W3 mb [] ck) (fun _=>[(0,(pt pb 0)),(9,.map (some mb))]) (by kernel_rfl) (by kernel_rfl) (fun _=>rfl) (fun wx hm=>?_) (fun _ W3 hX3 hm3=>?_)
 ·obtain ⟨w',h1,h2,h3,h4⟩:=run_clearC (P:=Try.prog) wx 88 3 94 0 mb cs ck (by kernel_rfl) (hmp.kept hm.kept (fun e=>e.elim (fun e=>hne1 e.symm) (fun e=>hne3 e.symm)))
  refine ⟨0,w',h1,h2,?_⟩
  have hS:∀ x,(x = pb ∨ x = lb) → (x = pb ∨ x = lb ∨ x = mb):=fun x h=>h.imp_right .inl
  exact MemOk.off hm hS h3 (fun x e=>.inl (.inr (.inr e))) (by
   intro b hb e
   simp at hb
   rcases hb with rfl | rfl
   ·exact hne1 e
   ·exact hne3 e)
 have hnM:¬ Turned (pls_b2 n a c off lb mb pb) mb:=by
  rintro ⟨b,hb,hr,he⟩
  simp at hb
  rcases hb with rfl | rfl <;> simp at he hr <;> omega
 refine hgE 14 [oh0,oh0,oh0,oh0,(oA 0 2 1),oh0,oh0,(oA 0 4 1)] [] [] [(pb,2,1),(pb,4,1)] [] ⟨[],[⟨pb,90,true,[.slice (some ⟨lb,0,none⟩) n n,.map (some mb),.bool false,i6 a,i6 0]⟩,⟨lb,94,true,(secsV (EMPTY n))⟩],[],W3.heap.size⟩ ?_
 refine holds_end [] (show _ = some ([],dupR []) by kernel_rfl) ?_
 intro wx hm
 exact ⟨rfl,hm.at_ 0 rfl,hm.at_ 1 rfl,hX3.kept hm.kept hnM,(MemOk.back2 hm3 hm).kept⟩
theorem lose_pl (M:Pl) (pb:Nat) (w:World) (hP:PlatAt 90 94 w pb M) :
  Calls Try.prog 35 #[.pointer (some ⟨pb,0,none⟩)] w (fun e w'=>e = .returned (.tuple #[]) ∧ PlatAt 90 94 w' pb (losePl M) ∧ Kept (minePl pb M) w w'):=by
 have hok:=hP.ok.lose
 obtain ⟨h1,h2,h3,h4⟩:=hP
 have hls:=h4.lens
 obtain ⟨lb,mb,n,last,cs,ck,off,a,c⟩:=M
 refine (lose_any n lb mb pb off a c cs ck last h4.n1.1 h4.ne2 h4.ne1 h4.ne3 h4.len hls w h1 h2 h3).mono fun e w' ⟨he,hB,hl,hmw,hk⟩=>⟨he,⟨hB,hl,hmw,hok⟩,hk⟩
@[simp] def pim_b1 (n:Nat) (a:Int) (c:Int) (off:Bool) (lb:Nat) (mb:Nat) (pb:Nat) (last:List (List Int)) (i:Nat) (w:World):List Bk:=[⟨pb,90,false,[.slice (some ⟨lb,0,none⟩) n n,.map (some mb),.bool off,i6 a,i6 c]⟩,⟨lb,94,false,(secsV last)⟩,⟨w.heap.size,9,true,(imgP last i)⟩]
@[simp] def pim_b2 (n:Nat) (a:Int) (c:Int) (off:Bool) (lb:Nat) (mb:Nat) (pb:Nat) (last:List (List Int)):List Bk:=[⟨pb,90,false,[.slice (some ⟨lb,0,none⟩) n n,.map (some mb),.bool off,i6 a,i6 c]⟩,⟨lb,94,false,(secsV last)⟩]
@[simp] def pim_b3 (n:Nat) (a:Int) (c:Int) (off:Bool) (lb:Nat) (mb:Nat) (pb:Nat) (last:List (List Int)) (w:World):List Bk:=[⟨pb,90,false,[.slice (some ⟨lb,0,none⟩) n n,.map (some mb),.bool off,i6 a,i6 c]⟩,⟨lb,94,false,(secsV last)⟩,⟨w.heap.size,9,true,(imgP last 0)⟩]
@[simp] def pim_b4 (n:Nat) (a:Int) (c:Int) (off:Bool) (lb:Nat) (mb:Nat) (pb:Nat) (last:List (List Int)) (i:Nat) (w:World):List Bk:=[⟨pb,90,false,[.slice (some ⟨lb,0,none⟩) n n,.map (some mb),.bool off,i6 a,i6 c]⟩,⟨lb,94,false,(secsV last)⟩,⟨w.heap.size,9,true,(imgP last (i + 1))⟩]
def ImageI (n:Nat) (a:Int) (c:Int) (off:Bool) (lb:Nat) (mb:Nat) (pb:Nat) (last:List (List Int)) (w:World) (z2:Nat)  (m:Nat) (st:St):Prop:=∃ (i z:Nat),m + i = n ∧ z2 ≤ z ∧ st = ⟨[(0,(pt pb 0)),(2,.slice none 0 0),(3,.slice (some ⟨w.heap.size,0,none⟩) n n),(12,i6 (n:Int)),(13,i6 (i:Int))],(pim_b1 n a c off lb mb pb last i w),[],z⟩
set_option maxRecDepth 100000 in
set_option maxHeartbeats 4000000 in
theorem image_any (n lb mb pb:Nat) (off:Bool) (a c:Int) (last:List (List Int)) (hn:1 ≤ n ∧ n ≤ 64) (hne:¬pb = lb) (hlen:last.length = n) (hsec:∀ L ∈ last,SecOk L) (w:World) (hp:Blk w pb 90 [.slice (some ⟨lb,0,none⟩) n n,.map (some mb),.bool off,.int .i64 a,.int .i64 c]) (hl:Blk w lb 94 (secsV last)) :
  Calls Try.prog 44 #[.pointer (some ⟨pb,0,none⟩)] w (fun e w'=>∃ g,e = .returned (.slice (some ⟨g,0,none⟩) n n) ∧ w.heap.size ≤ g ∧ Blk w' g 9 (last.map strV) ∧ Kept (fun _=>False) w w'):=by
 refine calls_of_holds (S:=(fun _=>False)) (l:=[(pt pb 0)]) (n:=29) Try.func44 (body_of (by kernel_rfl)) rfl (by simp) (MemOk.start (bk:=(pim_b2 n a c off lb mb pb last)) (wn:=[]) (by simpa using ⟨hp,hl⟩) (by simp) (by simp; exact hne) (by simp)) ?_
 refine hgE 14 [oh0,oh0,oh0,oh0,(oA 0 0 1),oh0] [0,2,9] [] [(pb,0,1)] [.ops [1,0] [5,6],.code [1,1]] ⟨[(0,(pt pb 0)),(2,.slice none 0 0),(9,i6 (n:Int))],(pim_b2 n a c off lb mb pb last),[],w.heap.size⟩ ?_
 refine holds_op1 (dst:=(some 10)) (x:=Instr.makeSlice 69 (.int .i64 (n:Int)) (.int .i64 (n:Int))) (.slice (some ⟨w.heap.size,0,none⟩) n n) (pim_b3 n a c off lb mb pb last w) (by kernel_rfl) (by kernel_rfl) rfl (fun wx hm=>?_) fun z2 hz2=>?_
 ·obtain ⟨w',h1,h2,h3⟩:=run_newStrs (P:=Try.prog) wx 69 9 n 16 (by kernel_rfl) (by kernel_rfl) (by omega) (by omega)
  rw [hm.size] at h1 h2
  have h4:=hm.add h3 [⟨w.heap.size,9,true,imgP last 0⟩] ⟨by rw [imgP_zero,hlen]; exact h2,trivial⟩ (by simp) (by simp)
  exact ⟨w',h1,h4⟩
 replace hz2:w.heap.size ≤ z2:=hz2
 refine hgE 13 [oh0,oh0,oh0,oh0] [0,2,3,12,13] [] [] [.code [1,1,0,1,0],.blk 0,.code [1,1,1]] ⟨[(0,(pt pb 0)),(2,.slice none 0 0),(3,.slice (some ⟨w.heap.size,0,none⟩) n n),(12,i6 (n:Int)),(13,i6 0)],(pim_b3 n a c off lb mb pb last w),[],z2⟩ ?_
 refine holds_loop (ImageI n a c off lb mb pb last w z2) n (by kernel_rfl) ⟨0,_,rfl,Nat.le_refl _,rfl⟩ ?_
 rintro m' _ ⟨i,z,hmi,hz,rfl⟩ J hJ
 by_cases h1:i < n
 rotate_left
 ·skip
  refine hgE 15 [oh0,oh0,oh0,oh0] [2] [dF (((i:Int):Int) < (n:Int))] [] [.code [1,1,1,1]] ⟨[(2,.slice (some ⟨w.heap.size,0,none⟩) n n)],(pim_b1 n a c off lb mb pb last i w),[],z⟩ ?_
  refine hrt [] [.slice (some ⟨w.heap.size,0,none⟩) n n] [] ?_
  intro wx hm
  have hin:i = last.length:=by omega
  subst hin
  refine ⟨w.heap.size,rfl,by omega,by rw [← imgP_all]; exact hm.at_ 2 rfl,hm.kept⟩
 obtain ⟨L,hL⟩:∃ L,last[i]? = some L:=⟨_,List.getElem?_eq_getElem (by omega)⟩
 have hLk:=hsec L (List.mem_of_getElem? hL)
 refine hgE 27 [oh0,oh1,oh0,oh0,oh0,oh0,oh0,oh0,oh0,(oA 0 0 1),oh0,oh2,oh0] [0,2,3,12,13,16,17,24] [dT (((i:Int):Int) < (n:Int)),oE ((0:Int) ≤ (i:Int) ∧ (i:Int) < ((n:Nat):Int))] [(pb,0,1)] [.ops [1,1,0,1,0,0,1,1,0,0,1] [9,10,11],.blk 1,.code [1,1,0,1,0,0,1,1,1],.inv J,.blk 0,.code [1,1,1]] ⟨[(0,(pt pb 0)),(2,.slice none 0 0),(3,.slice (some ⟨w.heap.size,0,none⟩) n n),(12,i6 (n:Int)),(13,i6 (i:Int)),(16,.slice (some ⟨w.heap.size,0,none⟩) n n),(17,i6 (i:Int)),(24,.slice (some ⟨lb,0 + i * 64,none⟩) 64 64)],(pim_b1 n a c off lb mb pb last i w),[],z⟩ ?_
 refine holds_opR (dst:=(some 25)) (x:=convert 40 9 (.slice (some ⟨lb,0 + i * 64,none⟩) 64 64)) (.string (bytesI L)) (by kernel_rfl) (by kernel_rfl) rfl (fun wx hm=>?_) ?_
 ·exact run_bytesSec (P:=Try.prog) wx 40 9 5 lb i _ 94 last L (by kernel_rfl) (by kernel_rfl) (by kernel_rfl) (hm.at_ 1 rfl) (fun L h=>(hsec L h).1) hL hLk
 refine hgE 4 [oh2] [0,2,3,12,13,25,26] [oE ((0:Int) ≤ (i:Int) ∧ (i:Int) < ((n:Nat):Int))] [] [.ops [1,1,0,1,0,0,1,1,0,0,1] [11],.blk 1,.code [1,1,0,1,0,0,1,1,1],.inv J,.blk 0,.code [1,1,1]] ⟨[(0,(pt pb 0)),(2,.slice none 0 0),(3,.slice (some ⟨w.heap.size,0,none⟩) n n),(12,i6 (n:Int)),(13,i6 (i:Int)),(25,sT (bytesI L)),(26,.pointer (some ⟨w.heap.size,0 + i * 1,none⟩))],(pim_b1 n a c off lb mb pb last i w),[],z⟩ ?_
 refine holds_opS (x:=Instr.storeAt 9 (.pointer (some ⟨w.heap.size,0 + i * 1,none⟩)) (.string (bytesI L))) (pim_b4 n a c off lb mb pb last i w) (by kernel_rfl) (by kernel_rfl) rfl (fun wx hm=>?_) (fun z9 hz9=>?_)
 ·obtain ⟨w',h1,_,h3⟩:=store_img (P:=Try.prog) (t:=9) hm (i:=2) (k:=i) rfl hL (by kernel_rfl)
  exact ⟨w',h1,h3⟩
 replace hz9:z ≤ z9:=hz9
 refine hgE 9 [oh2,oh0] [0,2,3,12,13] [n64 (((i:Int) + 1))] [] [.inv J,.blk 0,.code [1,1,1]] ⟨[(0,(pt pb 0)),(2,.slice none 0 0),(3,.slice (some ⟨w.heap.size,0,none⟩) n n),(12,i6 (n:Int)),(13,i6 ((i:Int) + 1))],(pim_b4 n a c off lb mb pb last i w),[],z9⟩ ?_
 refine holds_prune [0,2,3,12,13] [true,true,true] ?_
 exact hJ (m' - 1) _ (by omega) ⟨i + 1,z9,by omega,by omega,by rw [cast_succ]; rfl⟩
theorem image_pl (M:Pl) (pb:Nat) (w:World) (hP:PlatAt 90 94 w pb M) :
  Calls Try.prog 44 #[.pointer (some ⟨pb,0,none⟩)] w (fun e w'=>∃ g,e = .returned (.slice (some ⟨g,0,none⟩) M.n M.n) ∧ w.heap.size ≤ g ∧ Blk w' g 9 (M.last.map strV) ∧ Kept (fun _=>False) w w'):=
 image_any M.n M.lb M.mb pb M.off M.acts M.armed M.last hP.ok.n1 hP.ok.ne2 hP.ok.len hP.ok.sec w hP.p hP.l
end Go.Proofs.Ytpilmccjjbgmiaa
