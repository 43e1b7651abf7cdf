import Derived.Test.YtfiheghjhgnblaaShelf3
import Derived.Test.YtfiheghjhgnblaaRuleL
import Derived.Test.YtfiheghjhgnblaaRepeat
namespace Go.Proofs.Ytfiheghjhgnblaa
open Go.RowKit
set_option maxRecDepth 100000 in
set_option maxHeartbeats 4000000 in
theorem shelfNew_st (M:Pl) (pb:Nat) (st:Int) (hst:1 ≤ st ∧ st ≤ 8) (hn:st ≤ (M.n:Int)) (w:World) (hP:PlatAt 64 80 w pb M) :
  Calls Try.prog 22 #[.pointer (some ⟨pb,0,none⟩),.int .i64 st] w (fun e w'=>∃ sb,e = .returned (.tuple #[.pointer (some ⟨sb,0,none⟩),.int .i64 0]) ∧ w.heap.size ≤ sb ∧ Blk w' sb 82 [.pointer (some ⟨pb,0,none⟩),.int .i64 st] ∧ Kept (fun _=>False) w w'):=by
 refine calls_of_holds (S:=(fun _=>False)) (l:=[(pt pb 0),.int .i64 st]) (n:=26) Try.func22 (body_of (by kernel_rfl)) rfl (by simp) (MemOk.none w _) ?_
 refine hgE 23 [oh0,oh0,oh0,oh0,oh0,oh0,oh0,⟨false,3,[]⟩,oh0,oh0,oh0,⟨false,3,[]⟩,oh0,oh0] [0,1,4,5,16,17] [fF,fF,fF,dF ((st:Int) < 1),dF ((st:Int) < 1),dF ((st:Int) < 1),dF ((st:Int) > 8)] [] [.ops [1,0,0] [12,13,14,15],.code [1,0,1],.code [1,1]] ⟨[(0,(pt pb 0)),(1,i6 st),(4,.pointer none),(5,i6 0),(16,.bool (decide ((st:Int) > 8))),(17,(pt pb 0))],[],[],w.heap.size⟩ ?_
 refine hcp (i6 (M.n:Int)) 36 [(pt pb 0)] (some 18) [(decide ((st:Int) > 8)) = false] ⟨decide_eq_false (by omega),tI⟩ rfl (fun wx hm=>sectors_any M.n M.lb M.mb pb M.off M.acts M.armed wx (hP.kept hm.kept (fun _ _ h=>h)).p) fun z2 hz2=>?_
 replace hz2:w.heap.size ≤ z2:=hz2
 refine hgE 18 [oh0,oh0,⟨false,3,[]⟩,oh0,oh0,oh0,oh0,oh0,oh0,oh0] [4,5] [dF ((st:Int) > 8),dF ((st:Int) > 8),dF ((st:Int) > 8),dF (((M.n:Int):Int) < st)] [] [.code [1,1,1]] ⟨[(4,(pt z2 0)),(5,i6 0)],[⟨z2,82,true,[(pt pb 0),i6 st]⟩],[],z2 + 1⟩ ?_
 refine hrt [] [(pt z2 0),i6 0] [] ?_
 intro wx hm
 exact ⟨z2,rfl,by omega,hm.at_ 0 rfl,hm.kept⟩
set_option maxRecDepth 100000 in
set_option maxHeartbeats 4000000 in
theorem shelfNew_nil  (w:World)  :
  Calls Try.prog 22 #[.pointer none,.int .i64 1] w (RetK (.tuple #[.pointer none,.int .i64 1]) w):=by
 refine calls_of_holds (S:=(fun _=>False)) (l:=[.pointer none,.int .i64 1]) (n:=26) Try.func22 (body_of (by kernel_rfl)) rfl (by simp) (MemOk.none w _) ?_
 refine hgE 34 [oh0,oh0,oh0,oh0,oh0,oh1,oh1,oh3,oh0,oh1,oh1,oh3,oh0,oh1,oh1,oh1,oh1,oh3,oh1,oh0,oh0] [0,1,4,5] [tT,tT,tT,tT,tT,tT,tT,tT,tT,tT,tT,tT] [] [.code [1,0,1,0,1],.code [1,1]] ⟨[(0,.pointer none),(1,i6 1),(4,.pointer none),(5,i6 1)],[],[],w.heap.size⟩ ?_
 refine hrt [] [.pointer none,i6 1] [] ?_
 intro wx hm
 exact ⟨rfl,hm.kept⟩
set_option maxRecDepth 100000 in
set_option maxHeartbeats 4000000 in
theorem nodeNew_st (M:Pl) (pb:Nat) (st:Int) (hst:1 ≤ st ∧ st ≤ 8) (hn:st ≤ (M.n:Int)) (w:World) (hP:PlatAt 64 80 w pb M) :
  Calls Try.prog 9 #[.pointer (some ⟨pb,0,none⟩),.int .i64 st] w (fun e w'=>∃ sb nb,e = .returned (.tuple #[.pointer (some ⟨nb,0,none⟩),.int .i64 0]) ∧ w.heap.size ≤ sb ∧ sb < nb ∧ Blk w' sb 82 [.pointer (some ⟨pb,0,none⟩),.int .i64 st] ∧ Blk w' nb 69 [.pointer (some ⟨sb,0,none⟩),.int .i64 st] ∧ Kept (fun _=>False) w w'):=by
 refine calls_of_holds (S:=(fun _=>False)) (l:=[(pt pb 0),.int .i64 st]) (n:=21) Try.func9 (body_of (by kernel_rfl)) rfl (by simp) (MemOk.none w _) ?_
 refine hgE 12 [oh0,oh0,oh0,oh0] [1,4,5,9,10] [] [] [.ops [1,0] [2,3,4,5,6,7],.code [1,1]] ⟨[(1,i6 st),(4,.pointer none),(5,i6 0),(9,(pt pb 0)),(10,i6 st)],[],[],w.heap.size⟩ ?_
 refine holds_callW (w:=w) (S':=(fun _=>False)) (Y:=Nat) (fun sb=>.tuple #[(pt sb 0),i6 0]) (fun sb=>[⟨sb,82,false,[(pt pb 0),i6 st]⟩]) (fun sb W_=>w.heap.size ≤ sb) (fun sb=>[(11,.tuple #[(pt sb 0),i6 0]),(1,i6 st),(4,.pointer none),(5,i6 0),(9,(pt pb 0)),(10,i6 st)]) (show _ = some (22,[(pt pb 0),i6 st],some 11,[]) by kernel_rfl) tI (fun _=>rfl) (fun wx hm=>?_) (fun sb W1 hX1 hm1=>?_)
 ·refine (shelfNew_st M pb st hst hn wx (hP.kept hm.kept (fun _ _ h=>h))).mono fun e w' ⟨sb,he,h1,h2,h3⟩=>?_
  rw [hm.size] at h1
  exact ⟨sb,he,h1,(hm.add h3 [⟨sb,82,false,_⟩] ⟨h2,trivial⟩ (by simpa using h1) (by simp)).2⟩
 have hlt:sb < W1.heap.size:=(hm1.at_ 0 rfl).lt
 refine hgE 26 [oh0,oh0,oh0,oh0,oh0,oh0,oh0,oh0,oh0,oh0,oh0,oh0,oh0,oh0] [4,5] [fF] [] [.code [1,1,1,1]] ⟨[(4,(pt W1.heap.size 0)),(5,i6 0)],[⟨sb,82,false,[(pt pb 0),i6 st]⟩,⟨W1.heap.size,69,true,[(pt sb 0),i6 st]⟩],[],W1.heap.size + 1⟩ ?_
 refine hrt [] [(pt W1.heap.size 0),i6 0] [] ?_
 intro wx hm
 exact ⟨sb,W1.heap.size,rfl,hX1,by omega,hm.at_ 0 rfl,hm.at_ 1 rfl,(hm1.back2 hm).kept⟩
set_option maxRecDepth 100000 in
set_option maxHeartbeats 4000000 in
theorem nodeNew_nil  (w:World)  :
  Calls Try.prog 9 #[.pointer none,.int .i64 1] w (RetK (.tuple #[.pointer none,.int .i64 1]) w):=by
 refine calls_of_holds (S:=(fun _=>False)) (l:=[.pointer none,.int .i64 1]) (n:=21) Try.func9 (body_of (by kernel_rfl)) rfl (by simp) (MemOk.none w _) ?_
 refine hgE 12 [oh0,oh0,oh0,oh0] [1,4,5,9,10] [] [] [.ops [1,0] [2,3,4,5,6,7],.code [1,1]] ⟨[(1,i6 1),(4,.pointer none),(5,i6 0),(9,.pointer none),(10,i6 1)],[],[],w.heap.size⟩ ?_
 refine hcp (.tuple #[.pointer none,i6 1]) 22 [.pointer none,i6 1] (some 11) [] tI rfl (fun wx hm=>shelfNew_nil wx) fun z2 hz2=>?_
 replace hz2:w.heap.size ≤ z2:=hz2
 refine hgE 22 [oh0,oh0,oh0,oh0,oh0,oh0,oh0,oh1,oh0,oh0,oh0] [1,4,5,6] [tT] [] [.code [1,1,0,1,0,1],.code [1,1,1]] ⟨[(1,i6 1),(4,.pointer none),(5,i6 1),(6,.pointer none)],[],[],z2⟩ ?_
 refine hrt [] [.pointer none,i6 1] [] ?_
 intro wx hm
 exact ⟨rfl,hm.kept⟩
theorem write_on {M:Pl} (ho:M.off = false) (ha:M.armed = 0) (k:Int) (L:List Int):writePl M k L = { M with cs:=(putC M.cs M.ck k L).1,ck:=(putC M.cs M.ck k L).2,acts:=M.acts + 1 }:=by
 obtain ⟨lb,mb,n,last,cs,ck,off,a,c⟩:=M
 dsimp only at ho ha
 subst ho ha
 rfl
theorem flush_on {M:Pl} (ho:M.off = false) (ha:M.armed = 0):flushPl M = { M with last:=ovl M.last M.cs,cs:=[],acts:=M.acts + 1 }:=by
 obtain ⟨lb,mb,n,last,cs,ck,off,a,c⟩:=M
 dsimp only at ho ha
 subst ho ha
 rfl
theorem goes_on {M:Pl} (ho:M.off = false) (ha:M.armed = 0):M.goes = true:=by simp [Pl.goes,ho,ha]
theorem read_put {M:Pl} (hn:(M.cs.map (·.k)).Nodup) {M':Pl} (k:Int) (L:List Int) (h1:M'.cs = (putC M.cs M.ck k L).1) (h2:M'.last = M.last) (j:Int):readPl M' j = if j = k then L else readPl M j:=by
 unfold readPl
 rw [h1,h2,putC_val hn]
 split <;> rfl
theorem read_ovl {M M':Pl} (h1:M'.cs = []) (h2:M'.last = ovl M.last M.cs) {j:Int} (hj:0 ≤ j ∧ j < (M.last.length:Int)):readPl M' j = readPl M j:=by
 unfold readPl
 have hlt:j.toNat < M.last.length:=by omega
 rw [h1,h2,ovl_get,List.getElem?_eq_getElem hlt]
 have e:((j.toNat:Nat):Int) = j:=by omega
 rw [Option.map_some,e]
 rfl
theorem blank_ok:RecOk (blankR 0):=⟨by decide,by decide,by decide,by decide,by decide,by decide,fun h=>(by cases h),fun _=>⟨rfl,rfl,rfl,rfl⟩,fun h=>(by cases h),fun _=>⟨rfl,rfl,rfl,rfl⟩⟩
theorem got_ok (M:Pl) (k:Int) (hk:0 ≤ k ∧ k ≤ 7):RecOk (gotM M k):=by
 unfold gotM unpackR
 cases hg:takeGood k (bytesI (readPl M k)) with
 | true=>exact ((takeGood_iff hk).1 hg).2.2.1
 | false=>exact blank_ok
theorem set_on {M:Pl} {k:Int} {r:RecM} (ho:M.off = false) (ha:M.armed = 0):setPl M k r = { M with last:=ovl M.last (putC M.cs M.ck k (secOf k r)).1,cs:=[],ck:=(putC M.cs M.ck k (secOf k r)).2,acts:=M.acts + 1 + 1 }:=by
 unfold setPl
 rw [if_pos (goes_on ho ha),write_on ho ha,flush_on]
 ·exact ho
 ·exact ha
theorem ok_set {pb:Nat} {M:Pl} {k:Int} {r:RecM} (hp:PlOk pb M) (hk:0 ≤ k ∧ k < (M.n:Int)):PlOk pb (setPl M k r):=by
 have h:=hp.write hk (secOk_of (size_packS k r))
 unfold setPl
 split
 ·exact h.flush
 ·exact h
structure OnPl (lb mb n:Nat) (c:Int) (M:Pl):Prop where
 lb:M.lb = lb
 mb:M.mb = mb
 n:M.n = n
 off:M.off = false
 armed:M.armed = 0
 acts:M.acts ≤ c
theorem on_new (lb mb n:Nat):OnPl lb mb n 0 (newPl lb mb n):=⟨rfl,rfl,rfl,rfl,rfl,Int.le_refl _⟩
theorem on_mine {lb mb n pb x:Nat} {c:Int} {M:Pl} (h:OnPl lb mb n c M) (hx:minePl pb M x):x = pb ∨ x = lb ∨ x = mb:=by
 unfold minePl at hx
 rwa [h.lb,h.mb] at hx
theorem on_lt {lb mb n pb:Nat} {c:Int} {M:Pl} {w:World} (h:OnPl lb mb n c M) (hP:PlatAt 64 80 w pb M):pb < w.heap.size ∧ lb < w.heap.size ∧ mb < w.heap.size:=by
 have h2:=hP.lt
 rwa [h.lb,h.mb] at h2
theorem OnPl.le {lb mb n:Nat} {c d:Int} {M:Pl} (h:OnPl lb mb n c M) (hd:c ≤ d):OnPl lb mb n d M:=⟨h.lb,h.mb,h.n,h.off,h.armed,Int.le_trans h.acts hd⟩
theorem set_e0 {lb mb n:Nat} {c:Int} {M:Pl} (h:OnPl lb mb n c M) (k:Int) (r:RecM):setE M k r = 0:=by
 unfold setE goesE
 rw [if_pos (goes_on h.off h.armed),write_on h.off h.armed,if_pos]
 exact goes_on h.off h.armed
theorem on_set {lb mb n pb:Nat} {c:Int} {M:Pl} {k:Int} {r:RecM} (h:OnPl lb mb n c M) (hp:PlOk pb M) (hr:RecOk r) (hk:0 ≤ k ∧ k ≤ 7):OnPl lb mb n (c + 2) (setPl M k r) ∧ ∀ j,0 ≤ j ∧ j < (n:Int) → gotM (setPl M k r) j = if j = k then r else gotM M j:=by
 rw [set_on h.off h.armed]
 refine ⟨⟨h.lb,h.mb,h.n,h.off,h.armed,by show M.acts + 1 + 1 ≤ _; have:=h.acts; omega⟩,fun j hj=>?_⟩
 have h1:readPl { M with last:=ovl M.last (putC M.cs M.ck k (secOf k r)).1,cs:=[],ck:=(putC M.cs M.ck k (secOf k r)).2,acts:=M.acts + 1 + 1 } j = if j = k then secOf k r else readPl M j:=by
  rw [read_ovl (M:={ M with cs:=(putC M.cs M.ck k (secOf k r)).1 }) rfl rfl (by show 0 ≤ j ∧ j < (M.last.length:Int); rw [hp.len,h.n]; omega)]
  exact read_put (M':={ M with cs:=(putC M.cs M.ck k (secOf k r)).1 }) hp.nk k (secOf k r) rfl rfl j
 unfold gotM
 rw [h1]
 by_cases e:j = k
 ·rw [if_pos e,if_pos e,e]
  unfold secOf
  rw [bytesI_intsOf,(unpack_pack hk hr).1]
 ·rw [if_neg e,if_neg e]
def zeros16:ByteArray:=bytesI (List.replicate 16 0)
theorem byts16:Byts (List.replicate 16 0):=fun x hx=>by rw [List.eq_of_mem_replicate hx]; decide
def fmtR:RecM:=⟨true,0,0,0,zeros16,false,0,0,0,noText⟩
theorem fmtR_ok:RecOk fmtR:=⟨by decide,by decide,by decide,by decide,by decide,by decide,fun _=>by decide,fun h=>(by cases h),fun h=>(by cases h),fun _=>⟨rfl,rfl,rfl,rfl⟩⟩
def fmtPl (M:Pl):Nat → Pl
 | 0=>M
 | j + 1=>setPl (fmtPl M j) (j:Int) fmtR
theorem mine_fmt (M:Pl) (pb:Nat):∀ j,minePl pb (fmtPl M j) = minePl pb M
 | 0=>rfl
 | j + 1=>by show minePl pb (setPl _ _ _) = _; rw [mine_set,mine_fmt M pb j]
theorem on_fmt {lb mb n pb:Nat} {c:Int} {M:Pl} (h:OnPl lb mb n c M) (hp:PlOk pb M) (hn:n ≤ 8):∀ j,j ≤ n → OnPl lb mb n (c + 2 * (j:Int)) (fmtPl M j) ∧ PlOk pb (fmtPl M j) ∧ ∀ i,0 ≤ i ∧ i < (n:Int) → gotM (fmtPl M j) i = if i < (j:Int) then fmtR else gotM M i
 | 0,_=>⟨h.le (by omega),hp,fun i hi=>by rw [if_neg (by omega)]; rfl⟩
 | j + 1,hj=>by
  obtain ⟨h1,h2,h3⟩:=on_fmt h hp hn j (by omega)
  obtain ⟨h4,h5⟩:=on_set (k:=(j:Int)) (r:=fmtR) h1 h2 fmtR_ok (by omega)
  refine ⟨h4.le (by omega),ok_set h2 (by rw [h1.n]; omega),fun i hi=>?_⟩
  rw [show fmtPl M (j + 1) = setPl (fmtPl M j) (j:Int) fmtR from rfl,h5 i hi,h3 i hi]
  by_cases e:i = (j:Int)
  ·rw [if_pos e,if_pos (by omega)]
  ·rw [if_neg e]
   by_cases e2:i < (j:Int)
   ·rw [if_pos e2,if_pos (by omega)]
   ·rw [if_neg e2,if_neg (by omega)]
def recB (a b:RecM):Bool:=((a.used == b.used) && (((a.fence:Int) == b.fence) && ((((a.de:Int) == b.de) && (((a.ds:Int) == b.ds) && true)) && (((a.block:ByteArray) == b.block) && ((a.op == b.op) && ((((a.ie:Int) == b.ie) && (((a.is:Int) == b.is) && true)) && (((a.mask:Int) == b.mask) && (((a.staged:ByteArray) == b.staged) && true))))))))
theorem recB_iff (a b:RecM):recB a b = true ↔ a = b:=by
 obtain ⟨a1,a2,a3,a4,a5,a6,a7,a8,a9,a0⟩:=a
 obtain ⟨b1,b2,b3,b4,b5,b6,b7,b8,b9,b0⟩:=b
 simp [recB,beq_toListBytes,toList_beq,and_assoc]
def behM (M:Pl) (q:AskM):RecM:=(applyM (gotM M q.stripe) q).1
def servPl (M:Pl) (q:AskM):Pl:=bif recB (behM M q) (gotM M q.stripe) then M else setPl M q.stripe (behM M q)
def servOk (M:Pl) (q:AskM):Bool:=recB (behM M q) (gotM M q.stripe) || (setE M q.stripe (behM M q) == 0)
def servS (M:Pl) (q:AskM):SayR:=bif servOk M q then (applyM (gotM M q.stripe) q).2 else ⟨0,0,0,blankR 0⟩
theorem on_serv {lb mb n pb:Nat} {c:Int} {M:Pl} {q:AskM} (h:OnPl lb mb n c M) (hp:PlOk pb M) (hq:AskOk q):OnPl lb mb n (c + 2) (servPl M q) ∧ servOk M q = true ∧ servS M q = (applyM (gotM M q.stripe) q).2 ∧ ∀ j,0 ≤ j ∧ j < (n:Int) → gotM (servPl M q) j = if j = q.stripe then behM M q else gotM M j:=by
 have hok:servOk M q = true:=by
  unfold servOk
  rw [set_e0 h]
  simp
 have hr:RecOk (behM M q):=apply_ok (got_ok M q.stripe hq.stripe) hq
 refine ⟨?_,hok,by unfold servS; rw [hok]; rfl,fun j hj=>?_⟩
 ·unfold servPl
  cases recB (behM M q) (gotM M q.stripe)
  ·exact (on_set h hp hr hq.stripe).1
  ·exact h.le (by omega)
 ·unfold servPl
  cases e:recB (behM M q) (gotM M q.stripe)
  ·exact (on_set h hp hr hq.stripe).2 j hj
  ·rw [cond_true]
   by_cases ej:j = q.stripe
   ·rw [if_pos ej,(recB_iff _ _).1 e,ej]
   ·rw [if_neg ej]
def sfm_v1:List Value:=[.bool true] ++ rp 3 (.int .i64 0) ++ [.string zeros16,.bool false] ++ rp 3 (.int .i64 0) ++ [.string ⟨#[]⟩]
@[simp] def sfm_b1 (n:Nat) (pb:Nat) (sb:Nat) (z2:Nat):List Bk:=[⟨sb,82,false,[(pt pb 0),i6 (n:Int)]⟩,⟨z2,43,true,(sfm_v1)⟩]
def FormI (n:Nat) (M:Pl) (pb:Nat) (sb:Nat) (z2:Nat)  (m:Nat) (st:St) (W1:World):Prop:=
 ∃ (i:Nat) (z:Nat),m + i = n ∧ PlatAt 64 80 W1 pb (fmtPl M i) ∧ st = ⟨[(0,(pt sb 0)),(2,.int .i64 0),(3,(pt z2 0)),(11,.int .i64 (n:Int)),(12,.int .i64 (i:Int))],(sfm_b1 n pb sb z2),[],z⟩
set_option maxRecDepth 100000 in
set_option maxHeartbeats 4000000 in
theorem format_pl (M:Pl) (pb sb n lb mb:Nat) (c:Int) (hc:c ≤ 1000000) (hA:OnPl lb mb n c M) (hn8:n ≤ 8) (hsb:¬ minePl pb M sb) (w:World) (hP:PlatAt 64 80 w pb M) (hs:Blk w sb 82 [.pointer (some ⟨pb,0,none⟩),.int .i64 (n:Int)]) :
  Calls Try.prog 23 #[.pointer (some ⟨sb,0,none⟩)] w (fun e w'=>e = .returned (.int .i64 0) ∧ PlatAt 64 80 w' pb (fmtPl M n) ∧ Kept (minePl pb M) w w'):=by
 refine calls_of_holds (S:=(fun _=>False)) (l:=[(pt sb 0)]) (n:=23) Try.func23 (body_of (by kernel_rfl)) rfl (by simp) (MemOk.start (bk:=[⟨sb,82,false,[(pt pb 0),.int .i64 (n:Int)]⟩]) (wn:=[]) (by simpa using hs) (by simp) (by simp) (by simp)) ?_
 refine hgE 9 [oh0] [0,2] [] [] [.ops [1,0] [0,1,2,3],.code [1,1]] ⟨[(0,(pt sb 0)),(2,i6 0)],[⟨sb,82,false,[(pt pb 0),i6 (n:Int)]⟩],[],w.heap.size⟩ ?_
 refine hcp (sT zeros16) 37 [sT ⟨#[0]⟩,i6 16] (some 6) [] tI rfl (fun wx hm=>zeros16_any wx) fun z2 hz2=>?_
 replace hz2:w.heap.size ≤ z2:=hz2
 refine hgE 17 [oh0,oh0,(oA 1 0 10),oh0,oh0,oh0,(oA 0 1 1),oh0] [0,2,3,11,12] [] [(z2,0,10),(sb,1,1)] [.code [1,1,0,1,0],.blk 0,.code [1,1,1]] ⟨[(0,(pt sb 0)),(2,i6 0),(3,(pt z2 0)),(11,i6 (n:Int)),(12,i6 0)],(sfm_b1 n pb sb z2),[],z2 + 1⟩ ?_
 refine holds_loopW (w:=w) (S':=minePl pb M) (FormI n M pb sb z2) n (by kernel_rfl) (fun W3 hm=>⟨⟨0,_,rfl,hP.kept hm.kept (fun _ _ h=>h),rfl⟩,?_⟩) ?_
 ·have h:=hm.off (S':=minePl pb M) (fun _ h=>h.elim) (Kept.refl (fun _=>False) W3) (fun _ h=>h.elim) (fun _ _ h=>h)
  rwa [hm.size] at h
 rintro m _ W1 ⟨i,z,hmi,hP1,rfl⟩ hm1 J hJ
 obtain ⟨hO,hPk,hG⟩:=on_fmt hA hP.ok hn8 i (by omega)
 have hPl:=hP.lt
 have hw1:=hm1.kept.size
 have hrl:z2 < W1.heap.size:=(hm1.at_ 1 rfl).lt
 have hrw:w.heap.size ≤ z2:=by omega
 have hmine:∀ x,minePl pb M x → x < w.heap.size:=fun x hx=>by
  obtain ⟨h1,h2,h3⟩:=hPl
  rcases hx with rfl | rfl | rfl <;> assumption
 have hnT:∀ x,minePl pb (fmtPl M i) x → ¬ Turned (sfm_b1 n pb sb z2) x:=by
  rw [mine_fmt]
  rintro x hx ⟨b,hb,hr,he⟩
  have hx2:=hmine x hx
  simp at hb
  rcases hb with rfl | rfl <;> simp at he hr <;> omega
 have hnB:∀ b ∈ ((sfm_b1 n pb sb z2):List Bk),¬ minePl pb (fmtPl M i) b.g:=by
  rw [mine_fmt]
  intro b hb h
  have hx2:=hmine _ h
  simp at hb
  rcases hb with rfl | rfl
  ·exact hsb h
  ·simp at hx2
   omega
 by_cases h1:i < n
 rotate_left
 ·skip
  refine hgE 14 [oh0,oh0,oh0] [2] [dF (((i:Int):Int) < (n:Int))] [] [.code [1,1,1,1]] ⟨[(2,i6 0)],(sfm_b1 n pb sb z2),[],W1.heap.size⟩ ?_
  refine hrt [] [i6 0] [] ?_
  intro wx hm
  obtain rfl:i = n:=by omega
  exact ⟨rfl,hP1.kept hm.kept hnT,(hm1.back hm).kept⟩
 refine hgE 22 [oh0,oh1,oh0,oh0,oh0,oh0,(oA 1 0 10)] [0,2,3,11,12,15,16,17] [dT (((i:Int):Int) < (n:Int))] [(z2,0,10)] [.ops [1,1,0,1,0,0,1,1,0,0,1,0] [3,4],.code [1,1,0,1,0,0,1,1,0,0,1,1],.blk 1,.code [1,1,0,1,0,0,1,1,1],.inv J,.blk 0,.code [1,1,1]] ⟨[(0,(pt sb 0)),(2,i6 0),(3,(pt z2 0)),(11,i6 (n:Int)),(12,i6 (i:Int)),(15,(pt sb 0)),(16,i6 (i:Int)),(17,.agg (List.toArray (sfm_v1)))],(sfm_b1 n pb sb z2),[],W1.heap.size⟩ ?_
 refine holds_callW (w:=w) (S':=(minePl pb M)) (Y:=Nat) (fun _=>i6 0) (fun _=>(sfm_b1 n pb sb z2)) (fun _ W_=>PlatAt 64 80 W_ pb (fmtPl M (i + 1))) (fun _=>[(18,i6 0),(0,(pt sb 0)),(2,i6 0),(3,(pt z2 0)),(11,i6 (n:Int)),(12,i6 (i:Int)),(15,(pt sb 0)),(16,i6 (i:Int)),(17,.agg (List.toArray (sfm_v1)))]) (show _ = some (28,[(pt sb 0),i6 (i:Int),.agg (List.toArray (sfm_v1))],some 18,[]) by kernel_rfl) tI (fun _=>rfl) (fun wx hm=>?_) (fun _ W2 hP2 hm2=>?_)
 ·refine (set_pl (fmtPl M i) sb pb (n:Int) (i:Int) fmtR fmtR_ok (by omega) (by omega) (by rw [hO.n]; omega) (by have:=hO.acts; omega) (by rw [mine_fmt]; exact hsb) wx (hP1.kept hm.kept hnT) (hm.at_ 0 rfl)).mono fun e w' ⟨h1,h2,h3⟩=>?_
  rw [set_e0 hO] at h1
  exact ⟨0,h1,h2,(hm1.back hm).off (fun _ h=>h) h3 (fun x h=>.inl (by rw [mine_fmt] at h; exact h)) hnB⟩
 refine hgE 17 [oh0,oh0,oh0,oh0,oh2,oh0] [0,2,3,11,12] [fF,n64 (((i:Int) + 1))] [] [.inv J,.blk 0,.code [1,1,1]] ⟨[(0,(pt sb 0)),(2,i6 0),(3,(pt z2 0)),(11,i6 (n:Int)),(12,i6 ((i:Int) + 1))],(sfm_b1 n pb sb z2),[],W2.heap.size⟩ ?_
 refine holds_prune [0,2,3,11,12] [] ?_
 intro a w4 hf hm
 exact hJ (m - 1) _ a w4 (by omega) ⟨i + 1,W2.heap.size,by omega,hP2.kept hm.kept (by rw [mine_fmt]; rw [mine_fmt] at hnT; exact hnT),by rw [← cast_succ i]; rfl⟩ hf (hm2.back hm)
@[simp] def nfm_b1 (n:Nat) (pb:Nat) (sb:Nat) (nb:Nat):List Bk:=[⟨sb,82,false,[(pt pb 0),i6 (n:Int)]⟩,⟨nb,69,false,[(pt sb 0),i6 (n:Int)]⟩]
set_option maxRecDepth 100000 in
set_option maxHeartbeats 4000000 in
theorem nodeFormat_pl (M:Pl) (pb sb nb n lb mb:Nat) (c:Int) (hc:c ≤ 1000000) (hA:OnPl lb mb n c M) (hn8:n ≤ 8) (hsb:¬ minePl pb M sb) (hnb:¬ minePl pb M nb) (hne:¬ sb = nb) (w:World) (hP:PlatAt 64 80 w pb M) (hs:Blk w sb 82 [.pointer (some ⟨pb,0,none⟩),.int .i64 (n:Int)]) (hnd:Blk w nb 69 [.pointer (some ⟨sb,0,none⟩),.int .i64 (n:Int)]) :
  Calls Try.prog 10 #[.pointer (some ⟨nb,0,none⟩)] w (fun e w'=>e = .returned (.int .i64 0) ∧ PlatAt 64 80 w' pb (fmtPl M n) ∧ Kept (minePl pb M) w w'):=by
 refine calls_of_holds (S:=(fun _=>False)) (l:=[(pt nb 0)]) (n:=8) Try.func10 (body_of (by kernel_rfl)) rfl (by simp) (MemOk.start (bk:=(nfm_b1 n pb sb nb)) (wn:=[]) (by simpa using ⟨hs,hnd⟩) (by simp) (by simp; exact hne) (by simp)) ?_
 refine hgE 13 [oh0,oh0,oh0,oh0,(oA 1 0 1)] [2,6] [] [(nb,0,1)] [.ops [1,0] [4,5],.code [1,1]] ⟨[(2,i6 0),(6,(pt sb 0))],(nfm_b1 n pb sb nb),[],w.heap.size⟩ ?_
 refine holds_callW (w:=w) (S':=(minePl pb M)) (Y:=Nat) (fun _=>i6 0) (fun _=>(nfm_b1 n pb sb nb)) (fun _ W_=>PlatAt 64 80 W_ pb (fmtPl M n)) (fun _=>[(7,i6 0),(2,i6 0),(6,(pt sb 0))]) (show _ = some (23,[(pt sb 0)],some 7,[]) by kernel_rfl) tI (fun _=>rfl) (fun wx hm=>?_) (fun _ W2 hP2 hm2=>?_)
 ·refine (format_pl M pb sb n lb mb c hc hA hn8 hsb wx (hP.kept hm.kept (fun _ _ h=>h)) (hm.at_ 0 rfl)).mono fun e w' ⟨h1,h2,h3⟩=>?_
  exact ⟨0,h1,h2,hm.off (fun _ h=>h.elim) h3 (fun x h=>.inl h) (by intro b hb h; simp at hb; rcases hb with rfl | rfl; exact hsb h; exact hnb h)⟩
 refine hgE 5 [oh0] [2] [] [] [.code [1,1]] ⟨[(2,i6 0)],(nfm_b1 n pb sb nb),[],W2.heap.size⟩ ?_
 refine hrt [] [i6 0] [] ?_
 intro wx hm
 exact ⟨rfl,hP2.kept hm.kept (by rintro x _ ⟨b,hb,hr,he⟩; simp at hb; rcases hb with rfl | rfl <;> simp at hr),(hm2.back hm).kept⟩
def nrc_v1 (k:Int) (M:Pl):List Value:=[.bool ((gotM M k).used),i6 ((gotM M k).fence),i6 ((gotM M k).de),i6 ((gotM M k).ds),sT ((gotM M k).block),.bool ((gotM M k).op),i6 ((gotM M k).ie),i6 ((gotM M k).is),i6 ((gotM M k).mask),sT ((gotM M k).staged)]
set_option maxRecDepth 100000 in
set_option maxHeartbeats 4000000 in
theorem record_pl (M:Pl) (pb sb nb:Nat) (st k:Int) (hk:0 ≤ k ∧ k < st) (hk2:0 ≤ k ∧ k < (M.n:Int)) (hoff:M.off = false) (hne:¬ sb = nb) (w:World) (hP:PlatAt 64 80 w pb M) (hs:Blk w sb 82 [.pointer (some ⟨pb,0,none⟩),.int .i64 st]) (hnd:Blk w nb 69 [.pointer (some ⟨sb,0,none⟩),.int .i64 st]) :
  Calls Try.prog 15 #[.pointer (some ⟨nb,0,none⟩),.int .i64 k] w (RetK (.tuple #[.agg (gotM M k).cells.toArray,.bool true]) w):=by
 refine calls_of_holds (S:=(fun _=>False)) (l:=[(pt nb 0),.int .i64 k]) (n:=20) Try.func15 (body_of (by kernel_rfl)) rfl (by simp) (MemOk.start (bk:=[⟨sb,82,false,[(pt pb 0),.int .i64 st]⟩,⟨nb,69,false,[(pt sb 0),.int .i64 st]⟩]) (wn:=[]) (by simpa using ⟨hs,hnd⟩) (by simp) (by simp; exact hne) (by simp)) ?_
 refine hgE 15 [oh0,oh0,oh0,oh0,oh0,(oA 1 0 1),oh0] [4,5,12,13] [] [(nb,0,1)] [.ops [1,0] [5,6,7,8,9,10,11],.code [1,1]] ⟨[(4,(pt w.heap.size 0)),(5,.bool false),(12,(pt sb 0)),(13,i6 k)],[⟨sb,82,false,[(pt pb 0),i6 st]⟩,⟨nb,69,false,[(pt sb 0),i6 st]⟩,⟨w.heap.size,43,true,[.bool false,i6 0,i6 0,i6 0,sT ⟨#[]⟩,.bool false,i6 0,i6 0,i6 0,sT ⟨#[]⟩]⟩],[],w.heap.size + 1⟩ ?_
 refine hcp (.tuple #[.agg (List.toArray (nrc_v1 k M)),i6 0]) 26 [(pt sb 0),i6 k] (some 14) [] tI rfl (fun wx hm=>get_pl M sb pb st k hk hk2 hoff wx (hP.kept hm.kept (fun _ _ h=>h)) (hm.at_ 0 rfl)) fun z2 hz2=>?_
 replace hz2:w.heap.size + 1 ≤ z2:=hz2
 refine hgE 18 [oh0,oh0,oh0,oh0,(oA 3 0 10),oh0,(oA 3 0 10),oh0,oh0,(oA 2 0 10),oh0] [4,5] [] [(z2,0,10),(z2,0,10),(w.heap.size,0,10)] [.code [1,1,1]] ⟨[(4,(pt w.heap.size 0)),(5,.bool true)],[⟨sb,82,false,[(pt pb 0),i6 st]⟩,⟨nb,69,false,[(pt sb 0),i6 st]⟩,⟨w.heap.size,43,true,(nrc_v1 k M)⟩,⟨z2,43,true,(nrc_v1 k M)⟩],[],z2 + 1⟩ ?_
 refine hrt [[⟨false,2,0,10⟩]] [.agg (List.toArray (nrc_v1 k M)),.bool true] [(w.heap.size,0,10)] ?_
 intro wx hm
 exact ⟨rfl,hm.kept⟩
end Go.Proofs.Ytfiheghjhgnblaa
