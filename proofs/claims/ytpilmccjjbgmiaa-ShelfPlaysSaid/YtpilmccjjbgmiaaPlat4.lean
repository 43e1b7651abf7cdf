import Derived.Test.YtpilmccjjbgmiaaLawM
import Derived.Test.YtpilmccjjbgmiaaPlatH
import Derived.Test.YtpilmccjjbgmiaaSortX
namespace Go.Proofs.Ytpilmccjjbgmiaa
open Go.RowKit
set_option maxRecDepth 100000 in
set_option maxHeartbeats 4000000 in
theorem arm_ok (n lb mb pb:Nat) (off:Bool) (a c d:Int) (hd:0 ≤ d ∧ d ≤ 1099511627776) (w:World) (hp:Blk w pb 90 [.slice (some ⟨lb,0,none⟩) n n,.map (some mb),.bool off,.int .i64 a,.int .i64 c]) :
  Calls Try.prog 26 #[.pointer (some ⟨pb,0,none⟩),.int .i64 d] w (fun e w'=>e = .returned (.int .i64 0) ∧ Blk w' pb 90 [.slice (some ⟨lb,0,none⟩) n n,.map (some mb),.bool off,.int .i64 a,.int .i64 d] ∧ Kept (fun x=>x = pb) w w'):=by
 refine calls_of_holds (S:=(fun x=>x = pb)) (l:=[(pt pb 0),.int .i64 d]) (n:=15) Try.func26 (body_of (by kernel_rfl)) rfl (by simp) (MemOk.start (bk:=[⟨pb,90,true,[.slice (some ⟨lb,0,none⟩) n n,.map (some mb),.bool off,.int .i64 a,.int .i64 c]⟩]) (wn:=[]) (by simpa using hp) (by simp) (by simp) (by simp)) ?_
 refine hgE 31 [oh0,oh0,oh0,oh0,oh0,oh0,⟨false,3,[]⟩,oh0,oh0,oh0,oh0,oh0,(oA 0 4 1),oh0] [4] [dF ((d:Int) < 0),dF ((d:Int) < 0),dF ((d:Int) < 0),dF ((d:Int) > 1099511627776)] [(pb,4,1)] [.code [1,1,1,1]] ⟨[(4,i6 0)],[⟨pb,90,true,[.slice (some ⟨lb,0,none⟩) n n,.map (some mb),.bool off,i6 a,i6 d]⟩],[],w.heap.size⟩ ?_
 refine hrt [] [i6 0] [] ?_
 intro wx hm
 exact ⟨rfl,hm.at_ 0 rfl,hm.kept⟩
@[simp] def pan_b1 (n:Nat) (a:Int) (c:Int) (off:Bool) (lb:Nat) (mb:Nat) (pb:Nat):List Bk:=[⟨pb,90,false,[.slice (some ⟨lb,0,none⟩) n n,.map (some mb),.bool off,i6 a,i6 c]⟩]
set_option maxRecDepth 100000 in
set_option maxHeartbeats 4000000 in
theorem arm_bad (n lb mb pb:Nat) (off:Bool) (a c d:Int) (hd:¬ (0 ≤ d ∧ d ≤ 1099511627776)) (w:World) (hp:Blk w pb 90 [.slice (some ⟨lb,0,none⟩) n n,.map (some mb),.bool off,.int .i64 a,.int .i64 c]) :
  Calls Try.prog 26 #[.pointer (some ⟨pb,0,none⟩),.int .i64 d] w (RetK (.int .i64 1) w):=by
 refine calls_of_holds (S:=(fun _=>False)) (l:=[(pt pb 0),.int .i64 d]) (n:=15) Try.func26 (body_of (by kernel_rfl)) rfl (by simp) (MemOk.start (bk:=(pan_b1 n a c off lb mb pb)) (wn:=[]) (by simpa using hp) (by simp) (by simp) (by simp)) ?_
 by_cases h0:d < 0
 ·skip
  refine hgE 22 [oh0,oh0,oh0,oh0,oh1,oh1,oh3,oh1,oh0] [0,1,4] [dT ((d:Int) < 0),dT ((d:Int) < 0),dT ((d:Int) < 0),tT] [] [.code [1,0,1,0,1],.code [1,1]] ⟨[(0,(pt pb 0)),(1,i6 d),(4,i6 1)],(pan_b1 n a c off lb mb pb),[],w.heap.size⟩ ?_
  refine hrt [] [i6 1] [] ?_
  intro wx hm
  exact ⟨rfl,hm.kept⟩
 ·skip
  refine hgE 22 [oh0,oh0,oh0,oh0,oh0,oh0,⟨false,3,[]⟩,oh1,oh0] [0,1,4] [dF ((d:Int) < 0),dF ((d:Int) < 0),dF ((d:Int) < 0),dT ((d:Int) > 1099511627776)] [] [.code [1,0,1,0,1],.code [1,1]] ⟨[(0,(pt pb 0)),(1,i6 d),(4,i6 1)],(pan_b1 n a c off lb mb pb),[],w.heap.size⟩ ?_
  refine hrt [] [i6 1] [] ?_
  intro wx hm
  exact ⟨rfl,hm.kept⟩
theorem arm_pl (M:Pl) (pb:Nat) (d:Int) (w:World) (hP:PlatAt 90 94 w pb M) :
  Calls Try.prog 26 #[.pointer (some ⟨pb,0,none⟩),.int .i64 d] w (fun e w'=>e = .returned (.int .i64 (armE d)) ∧ PlatAt 90 94 w' pb (armPl M d) ∧ Kept (minePl pb M) w w'):=by
 have hok:=hP.ok.arm d
 obtain ⟨h1,h2,h3,h4⟩:=hP
 obtain ⟨lb,mb,n,last,cs,ck,off,a,c⟩:=M
 by_cases hd:0 ≤ d ∧ d ≤ 1099511627776
 ·have e1:armE d = 0:=if_pos hd
  have e2:armPl ⟨lb,mb,n,last,cs,ck,off,a,c⟩ d = ⟨lb,mb,n,last,cs,ck,off,a,d⟩:=if_pos hd
  rw [e1,e2]
  rw [e2] at hok
  exact (arm_ok n lb mb pb off a c d hd w h1).mono fun e w' ⟨he,hB,hk⟩=>⟨he,⟨hB,h2.kept hk (fun e=>h4.ne2 e.symm),h3.kept hk (fun e=>h4.ne1 e.symm),hok⟩,hk.mono (fun _ _ h=>.inl h)⟩
 ·have e1:armE d = 1:=if_neg hd
  have e2:armPl ⟨lb,mb,n,last,cs,ck,off,a,c⟩ d = ⟨lb,mb,n,last,cs,ck,off,a,c⟩:=if_neg hd
  rw [e1,e2]
  exact (arm_bad n lb mb pb off a c d hd w h1).mono fun e w' ⟨he,hk⟩=>⟨he,⟨h1.kept hk id,h2.kept hk id,h3.kept hk id,h4⟩,hk.mono (fun _ _ h=>h.elim)⟩
@[simp] def poof_b1 (n:Nat) (a:Int) (c:Int) (off:Bool) (lb:Nat) (mb:Nat) (pb:Nat):List Bk:=[⟨pb,90,false,[.slice (some ⟨lb,0,none⟩) n n,.map (some mb),.bool off,i6 a,i6 c]⟩]
set_option maxRecDepth 100000 in
set_option maxHeartbeats 4000000 in
theorem off_any (n lb mb pb:Nat) (off:Bool) (a c:Int) (w:World) (hp:Blk w pb 90 [.slice (some ⟨lb,0,none⟩) n n,.map (some mb),.bool off,.int .i64 a,.int .i64 c]) :
  Calls Try.prog 27 #[.pointer (some ⟨pb,0,none⟩)] w (RetK (.bool off) w):=by
 refine calls_of_holds (S:=(fun _=>False)) (l:=[(pt pb 0)]) (n:=7) Try.func27 (body_of (by kernel_rfl)) rfl (by simp) (MemOk.start (bk:=(poof_b1 n a c off lb mb pb)) (wn:=[]) (by simpa using hp) (by simp) (by simp) (by simp)) ?_
 refine hgE 15 [oh0,oh0,oh0,oh0,(oA 0 2 1),oh0] [2] [] [(pb,2,1)] [.code [1,1]] ⟨[(2,.bool off)],(poof_b1 n a c off lb mb pb),[],w.heap.size⟩ ?_
 refine hrt [] [.bool off] [] ?_
 intro wx hm
 exact ⟨rfl,hm.kept⟩
theorem off_pl (M:Pl) (pb:Nat) (w:World) (hP:PlatAt 90 94 w pb M):Calls Try.prog 27 #[.pointer (some ⟨pb,0,none⟩)] w (RetK (.bool M.off) w):=off_any M.n M.lb M.mb pb M.off M.acts M.armed w hP.p
@[simp] def poac_b1 (n:Nat) (a:Int) (c:Int) (off:Bool) (lb:Nat) (mb:Nat) (pb:Nat):List Bk:=[⟨pb,90,false,[.slice (some ⟨lb,0,none⟩) n n,.map (some mb),.bool off,i6 a,i6 c]⟩]
set_option maxRecDepth 100000 in
set_option maxHeartbeats 4000000 in
theorem acts_any (n lb mb pb:Nat) (off:Bool) (a c:Int) (w:World) (hp:Blk w pb 90 [.slice (some ⟨lb,0,none⟩) n n,.map (some mb),.bool off,.int .i64 a,.int .i64 c]) :
  Calls Try.prog 40 #[.pointer (some ⟨pb,0,none⟩)] w (RetK (.int .i64 a) w):=by
 refine calls_of_holds (S:=(fun _=>False)) (l:=[(pt pb 0)]) (n:=7) Try.func40 (body_of (by kernel_rfl)) rfl (by simp) (MemOk.start (bk:=(poac_b1 n a c off lb mb pb)) (wn:=[]) (by simpa using hp) (by simp) (by simp) (by simp)) ?_
 refine hgE 15 [oh0,oh0,oh0,oh0,(oA 0 3 1),oh0] [2] [] [(pb,3,1)] [.code [1,1]] ⟨[(2,i6 a)],(poac_b1 n a c off lb mb pb),[],w.heap.size⟩ ?_
 refine hrt [] [i6 a] [] ?_
 intro wx hm
 exact ⟨rfl,hm.kept⟩
theorem acts_pl (M:Pl) (pb:Nat) (w:World) (hP:PlatAt 90 94 w pb M):Calls Try.prog 40 #[.pointer (some ⟨pb,0,none⟩)] w (RetK (.int .i64 M.acts) w):=acts_any M.n M.lb M.mb pb M.off M.acts M.armed w hP.p
theorem seen_push {cs:List CE} {seen:Array Nat} {c:CE} (hb:(cs.map (·.born)).Nodup) (h:c ∈ leftC cs seen):((seenC cs seen).map (·.k) ++ [c.k]).Perm ((seenC cs (seen.push c.born)).map (·.k)):=by
 induction cs with
 | nil=>simp [leftC] at h
 | cons d cs ih=>
  rw [List.map_cons,List.nodup_cons] at hb
  simp only [leftC,List.filter_cons] at h
  simp only [seenC,List.filter_cons,Array.contains_push]
  by_cases hd:seen.contains d.born = true
  ·rw [hd] at h
   simp only [Bool.not_true,Bool.false_eq_true,if_false] at h
   rw [if_pos hd,if_pos (by rw [hd]; rfl),List.map_cons,List.map_cons,List.cons_append]
   have h2:=ih hb.2 h
   simp only [seenC,Array.contains_push] at h2
   exact h2.cons _
  ·have hd':seen.contains d.born = false:=by simpa using hd
   rw [hd'] at h
   simp only [Bool.not_false,if_true,List.mem_cons] at h
   rw [if_neg hd]
   by_cases hc:c = d
   ·subst hc
    rw [if_pos (by simp),List.map_cons]
    have e:cs.filter (fun x=>seen.contains x.born || c.born == x.born) = cs.filter (fun x=>seen.contains x.born):=List.filter_congr (fun x hx=>by
     have:(c.born == x.born) = false:=beq_eq_false_iff_ne.2 (fun e=>hb.1 (e ▸ List.mem_map.2 ⟨x,hx,rfl⟩))
     rw [this,Bool.or_false])
    have e2:cs.filter (fun x=>seen.contains x.born || x.born == c.born) = cs.filter (fun x=>seen.contains x.born):=List.filter_congr (fun x hx=>by
     have:(x.born == c.born) = false:=beq_eq_false_iff_ne.2 (fun e=>hb.1 (e ▸ List.mem_map.2 ⟨x,hx,rfl⟩))
     rw [this,Bool.or_false])
    first | rw [e] | rw [e2]
    exact List.perm_append_singleton _ _
   ·have hm:c ∈ leftC cs seen:=h.resolve_left hc
    have hne:d.born ≠ c.born:=fun e=>hb.1 (e ▸ List.mem_map.2 ⟨c,(List.mem_filter.1 hm).1,rfl⟩)
    rw [if_neg (by rw [hd',beq_eq_false_iff_ne.2 hne]; simp)]
    have h2:=ih hb.2 hm
    simp only [seenC,Array.contains_push] at h2
    exact h2
theorem OwnI.below {w:World} {base base':Nat} {e:TypeId} {A:Option Addr} {n cp:Nat} {ys:List Int} (h:OwnI w base e A n cp ys) (hb:base' ≤ base):OwnI w base' e A n cp ys:=
 ⟨h.1,h.2.imp_right fun ⟨g,cap,cur,hv,h1,h2⟩=>⟨g,cap,cur,hv,Nat.le_trans hb h1,h2⟩⟩
@[simp] def pca_b1 (n:Nat) (a:Int) (c:Int) (off:Bool) (lb:Nat) (mb:Nat) (pb:Nat):List Bk:=[⟨pb,90,false,[.slice (some ⟨lb,0,none⟩) n n,.map (some mb),.bool off,i6 a,i6 c]⟩]
@[simp] def pca_b2 (n:Nat) (a:Int) (c:Int) (off:Bool) (lb:Nat) (mb:Nat) (pb:Nat) (en:CE) (W2:World):List Bk:=[⟨pb,90,false,[.slice (some ⟨lb,0,none⟩) n n,.map (some mb),.bool off,i6 a,i6 c]⟩,⟨W2.heap.size,3,true,[i6 en.k]⟩]
def CachedI (n:Nat) (a:Int) (c:Int) (off:Bool) (lb:Nat) (mb:Nat) (pb:Nat) (cs:List CE) (ck:Nat) (w:World)  (m:Nat) (st:St) (W1:World):Prop:=
 ∃ (seen:Array Nat) (c0:Nat) (A:Option Addr) (nn:Nat) (cp:Nat) (ys:List Int) (z:Nat),m = (leftC cs seen).length ∧ ck ≤ c0 ∧ (nn = 0 → A = none) ∧ ys.Perm ((seenC cs seen).map (·.k)) ∧ OwnI W1 (w.heap.size + 1) 3 A nn cp ys ∧ ItAt W1 w.heap.size mb ck seen c0 ∧ MapAt W1 mb cs ck ∧ st = ⟨[(2,.slice none 0 0),(3,.slice A nn cp),(9,(pt w.heap.size 0))],(pca_b1 n a c off lb mb pb),[],z⟩
set_option maxRecDepth 100000 in
set_option maxHeartbeats 4000000 in
theorem cached_any (n lb mb pb:Nat) (off:Bool) (a c:Int) (cs:List CE) (ck:Nat) (hlen:cs.length ≤ 64) (hborn:∀ c ∈ cs,c.born < ck) (hnb:(cs.map (·.born)).Nodup) (w:World) (hp:Blk w pb 90 [.slice (some ⟨lb,0,none⟩) n n,.map (some mb),.bool off,.int .i64 a,.int .i64 c]) (hmp:MapAt w mb cs ck) :
  Calls Try.prog 61 #[.pointer (some ⟨pb,0,none⟩)] w (fun e w'=>∃ A cp,e = .returned (.slice A cs.length cp) ∧ OwnI w' w.heap.size 3 A cs.length cp (sortI (cs.map (·.k))) ∧ Kept (fun _=>False) w w'):=by
 have hml:=hmp.lt
 have hpl:=hp.lt
 refine calls_of_holds (S:=(fun _=>False)) (l:=[(pt pb 0)]) (n:=21) Try.func61 (body_of (by kernel_rfl)) rfl (by simp) (MemOk.start (bk:=(pca_b1 n a c off lb mb pb)) (wn:=[]) (by simpa using hp) (by simp) (by simp) (by simp)) ?_
 refine hgE 18 [oh0,oh0,oh0,oh0,oh0,(oA 0 1 1)] [2,3,8] [] [(pb,1,1)] [.ops [1,1,0,0] [4],.code [1,1,0,1],.code [1,1,1]] ⟨[(2,.slice none 0 0),(3,.slice none 0 0),(8,.map (some mb))],(pca_b1 n a c off lb mb pb),[],w.heap.size⟩ ?_
 refine holds_opW (w:=w) (S':=fun _=>False) (dst:=(some 9)) (x:=Instr.range 88 (.map (some mb))) (fun _=>(pt w.heap.size 0)) (fun _ W=>ItAt W w.heap.size mb ck #[] ck ∧ MapAt W mb cs ck) (fun _=>[(9,(pt w.heap.size 0)),(2,.slice none 0 0),(3,.slice none 0 0),(8,.map (some mb))]) (by kernel_rfl) (by kernel_rfl) (fun _=>rfl) (fun wx hm=>?_) (fun _ W hX hmW=>?_)
 ·have hmx:MapAt wx mb cs ck:=hmp.kept hm.kept id
  obtain ⟨w',h1,h2,h3⟩:=run_rangeC (P:=Try.prog) wx 88 3 94 mb cs ck (by kernel_rfl) hmx
  rw [hm.size] at h1 h2
  exact ⟨0,w',h1,⟨h2,hmx.kept h3 id⟩,(hm.same h3).2⟩
 obtain ⟨hI0,hM0⟩:=hX
 have hgm:w.heap.size ≠ mb:=by omega
 have hgW:=hI0.lt
 refine hgE 5 [] [2,3,9] [] [] [.code [1,1,0,1,0],.blk 0,.code [1,1,1]] ⟨[(2,.slice none 0 0),(3,.slice none 0 0),(9,(pt w.heap.size 0))],(pca_b1 n a c off lb mb pb),[],W.heap.size⟩ ?_
 have hT:∀ x,¬ Turned (pca_b1 n a c off lb mb pb) x:=by
  rintro x ⟨b,hb,hr,he⟩
  simp at hb
  subst hb
  simp at hr
 refine holds_loopW (w:=w) (S':=fun _=>False) (CachedI n a c off lb mb pb cs ck w) (leftC cs #[]).length (by kernel_rfl) (fun W1 hm=>⟨⟨#[],ck,none,0,0,[],_,rfl,Nat.le_refl _,fun _=>rfl,by rw [seen_none]; exact List.Perm.refl _,OwnI.nil _ _ _,hI0.kept hm.kept (hT _),hM0.kept hm.kept (hT _),rfl⟩,hmW.back hm⟩) ?_
 rintro m _ W1 ⟨seen,c0,A,nn,cp,ys,z,hmi,hcc,hn0,hpm,hO1,hI1,hM1,rfl⟩ hm1 J hJ
 have hown1:=hO1.own
 have hgw:w.heap.size ≤ w.heap.size:=by omega
 have hi1:=hI1.lt
 have hlen1:=hO1.len
 have hml1:=hM1.lt
 refine hgE 5 [] [2,3,9] [] [] [.ops [1,1,0,1,0,0,0] [0,1],.code [1,1,0,1,0,0,1],.inv J,.blk 0,.code [1,1,1]] ⟨[(2,.slice none 0 0),(3,.slice A nn cp),(9,(pt w.heap.size 0))],(pca_b1 n a c off lb mb pb),[],W1.heap.size⟩ ?_
 refine holds_opY (w:=w) (S':=fun _=>False) (dst:=(some 10)) (x:=Instr.next ((pt w.heap.size 0)) false 0) nextV (fun y W2=>MapAt W2 mb cs ck ∧ OwnI W2 (w.heap.size + 1) 3 A nn cp ys ∧ ((y = none ∧ leftC cs seen = [] ∧ ItAt W2 w.heap.size mb ck seen c0) ∨ (∃ c,y = some c ∧ c ∈ leftC cs seen ∧ ItAt W2 w.heap.size mb ck (seen.push c.born) ck))) (fun y=>(10,nextV y) :: [(2,.slice none 0 0),(3,.slice A nn cp),(9,(pt w.heap.size 0))]) (by kernel_rfl) (by kernel_rfl) (fun _=>rfl) (fun wx hm=>?_) (fun y W2 hX hm2=>?_)
 ·obtain ⟨y,w',h1,h2,h3,h4⟩:=run_nextC (P:=Try.prog) wx 0 w.heap.size mb ck c0 seen cs (hI1.kept hm.kept (hT _)) (hM1.kept hm.kept (hT _)) hborn hcc
  refine ⟨y,w',h1,⟨(hM1.kept hm.kept (hT _)).kept h2 (fun e=>hgm e.symm),(hO1.kept hm.kept (fun x _=>hT x)).kept h2 (fun x hx e=>by have:=hown1 x hx; omega),h4⟩,?_⟩
  have h5:=(hm1.back hm).far h2 (by simp; omega) hgw h3
  have h6:=h5.size
  rw [← h6] at h5
  exact h5
 obtain ⟨hM2,hO2,hX⟩:=hX
 have hown2:=hO2.own
 have hml2:=hM2.lt
 rcases hX with ⟨rfl,hle,hI2⟩ | ⟨en,rfl,hen,hI2⟩
 ·skip
  have hpm2:ys.Perm (cs.map (·.k)):=by rw [seen_all hle] at hpm; exact hpm
  have hnn:nn = cs.length:=by rw [← hlen1,hpm2.length_eq,List.length_map]
  refine hgE 11 [oh0,oh0,oh0] [2,3,18] [fF] [] [.ops [1,1,1,0] [1],.code [1,1,1,1]] ⟨[(2,.slice none 0 0),(3,.slice A nn cp),(18,.slice A nn cp)],(pca_b1 n a c off lb mb pb),[],W2.heap.size⟩ ?_
  refine holds_callW (w:=w) (S':=(fun _=>False)) (Y:=Nat) (fun _=>.tuple #[]) (fun _=>(pca_b1 n a c off lb mb pb)) (fun _ W_=>OwnI W_ (w.heap.size + 1) 3 A nn cp (sortI ys)) (fun _=>[(19,.tuple #[]),(2,.slice none 0 0),(3,.slice A nn cp),(18,.slice A nn cp)]) (show _ = some (77,[.slice A nn cp],some 19,[]) by kernel_rfl) tI (fun _=>rfl) (fun wx hm=>?_) (fun _ W3 hO3 hm3=>?_)
  ·refine (sort_own wx (w.heap.size + 1) 3 A nn cp ys (by omega) (hO2.kept hm.kept (fun x _=>hT x))).mono fun e w' ⟨he,h1,h2⟩=>?_
   exact ⟨0,he,h1,(hm2.back hm).off (fun _ h=>h) h2 (fun x hx=>.inr (by have:=hown2 x hx; omega)) (by simp; intro hx; have:=hown2 _ hx; omega)⟩
  refine hgE 9 [oh0,oh0] [2] [] [] [.code [1,1,1,1,1]] ⟨[(2,.slice A nn cp)],(pca_b1 n a c off lb mb pb),[],W3.heap.size⟩ ?_
  refine hrt [] [.slice A nn cp] [] ?_
  intro wx hm
  subst hnn
  refine ⟨A,cp,rfl,?_,(hm3.back hm).kept⟩
  have h:=hO3.kept hm.kept (fun x _=>hT x)
  rw [sortI_eq hpm2] at h
  exact h.below (by omega)
 ·skip
  have hmem:=(List.mem_filter.1 hen).1
  have hi2:=hI2.lt
  have hnn64:nn ≤ 64:=by
   have h1:=hpm.length_eq
   have h2:=List.length_filter_le (fun c:CE=>seen.contains c.born) cs
   rw [List.length_map] at h1
   unfold seenC at h1
   omega
  refine hgE 11 [oh0,oh1] [2,3,9] [tT] [] [.ops [1,1,0,1,0,0,1,1,0,0] [0,1,2],.code [1,1,0,1,0,0,1,1,0,1],.blk 1,.inv J,.blk 0,.code [1,1,1]] ⟨[(2,.slice none 0 0),(3,.slice A nn cp),(9,(pt w.heap.size 0))],(pca_b1 n a c off lb mb pb),[],W2.heap.size⟩ ?_
  refine holds_opR (dst:=(some 12)) (x:=Instr.entry ((pt w.heap.size 0))) (.tuple #[.int .i64 en.k,secV en.L]) (by kernel_rfl) (by kernel_rfl) rfl (fun wx hm=>?_) ?_
  ·exact run_entryC (P:=Try.prog) wx w.heap.size mb ck seen cs en (hI2.kept hm.kept (hT _)) (hM2.kept hm.kept (hT _)) hmem hnb
  refine hgE 10 [oh0,oh0,oh0,oh0,oh0] [2,3,9,14,16] [] [] [.ops [1,1,0,1,0,0,1,1,0,1] [3,4],.blk 1,.inv J,.blk 0,.code [1,1,1]] ⟨[(2,.slice none 0 0),(3,.slice A nn cp),(9,(pt w.heap.size 0)),(14,.slice A nn cp),(16,.slice (some ⟨W2.heap.size,0,none⟩) 1 1)],(pca_b2 n a c off lb mb pb en W2),[],W2.heap.size + 1⟩ ?_
  have hT2:∀ x,x < W2.heap.size → ¬ Turned (pca_b2 n a c off lb mb pb en W2) x:=by
   rintro x hx ⟨b,hb,hr,he⟩
   simp at hb
   rcases hb with rfl | rfl <;> simp at he hr
   omega
  refine holds_opY (w:=w) (S':=fun _=>False) (dst:=(some 17)) (x:=Builtin.append_ #[52,52] 52 #[.slice A nn cp,.slice (some ⟨W2.heap.size,0,none⟩) 1 1]) (fun y:Option Addr × Nat=>.slice y.1 (nn + 1) y.2) (fun y W3=>OwnI W3 (w.heap.size + 1) 3 y.1 (nn + 1) y.2 (ys ++ [en.k]) ∧ ¬ ownB y.1 W2.heap.size ∧ ItAt W3 w.heap.size mb ck (seen.push en.born) ck ∧ MapAt W3 mb cs ck) (fun y=>(17,.slice y.1 (nn + 1) y.2) :: [(2,.slice none 0 0),(3,.slice A nn cp),(9,(pt w.heap.size 0)),(14,.slice A nn cp),(16,.slice (some ⟨W2.heap.size,0,none⟩) 1 1)]) (by kernel_rfl) (by kernel_rfl) (fun _=>rfl) (fun wx hm=>?_) (fun y W3 hX3 hm3=>?_)
  ·have hsz:=hm.size
   have hsz2:W2.heap.size ≤ wx.heap.size:=hm.kept.size
   have hO:=hO2.kept hm.kept (fun x hx=>(by exact fun h=>absurd h (by rintro ⟨b,hb,hr,he⟩; simp at hb; subst hb; simp at hr)))
   obtain ⟨A',cp',w',h1,h2,h3,h4⟩:=run_appendI (P:=Try.prog) wx (w.heap.size + 1) 52 52 3 A nn cp ys W2.heap.size 1 3 en.k (by kernel_rfl) (by kernel_rfl) hO (hm.at_ 1 rfl) hnn64 (by omega) hn0 (fun hx=>by have:=hown2 _ hx; omega)
   have hI:=hI2.kept hm.kept (hT _)
   have hM:=hM2.kept hm.kept (hT _)
   exact ⟨(A',cp'),w',h1,⟨h2,h4,hI.kept h3 (fun hx=>by have:=hown2 _ hx; omega),hM.kept h3 (fun hx=>by have:=hown2 _ hx; omega)⟩,(hm2.back2 hm).off (fun _ h=>h) h3 (fun x hx=>.inr (by have:=hown2 x hx; omega)) (by
    intro b hb hx
    have:=hown2 _ hx
    simp at hb
    rcases hb with rfl | rfl <;> simp at this <;> omega)⟩
  obtain ⟨A1,cp1⟩:=y
  obtain ⟨hO3,hno3,hI3,hM3⟩:=hX3
  have hT3:∀ x,x ≠ W2.heap.size → ¬ Turned (pca_b2 n a c off lb mb pb en W2) x:=by
   rintro x hx ⟨b,hb,hr,he⟩
   simp at hb
   rcases hb with rfl | rfl <;> simp at he hr
   omega
  refine hgE 6 [oh0] [2,3,9] [] [] [.inv J,.blk 0,.code [1,1,1]] ⟨[(2,.slice none 0 0),(3,.slice A1 (nn + 1) cp1),(9,(pt w.heap.size 0))],(pca_b2 n a c off lb mb pb en W2),[],W3.heap.size⟩ ?_
  refine holds_prune [2,3,9] [true,false] ?_
  intro a w5 hf hm
  have hlt:=leftC_push hen
  have hpn:(ys ++ [en.k]).Perm ((seenC cs (seen.push en.born)).map (·.k)):=(hpm.append_right _).trans (seen_push hnb hen)
  exact hJ (leftC cs (seen.push en.born)).length _ a w5 (by omega) ⟨seen.push en.born,ck,A1,nn + 1,cp1,ys ++ [en.k],_,rfl,Nat.le_refl _,fun h=>absurd h (Nat.succ_ne_zero _),hpn,hO3.kept hm.kept (fun x hx=>hT3 x (fun e=>hno3 (e ▸ hx))),hI3.kept hm.kept (hT3 _ (by omega)),hM3.kept hm.kept (hT3 _ (by omega)),rfl⟩ hf (hm3.back2 hm)
end Go.Proofs.Ytpilmccjjbgmiaa
