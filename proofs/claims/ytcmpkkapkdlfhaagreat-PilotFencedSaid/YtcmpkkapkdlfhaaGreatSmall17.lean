import Derived.Test.YtcmpkkapkdlfhaaGreatPil23
import Derived.Test.YtcmpkkapkdlfhaaGreatNewSim
namespace Go.Proofs.YtcmpkkapkdlfhaaGreat
open Go.RowKit
theorem pil_idle {W:World} {N S frm last:Int} {pa ca:Nat} (h1:Blk W pa 98 (PilC.cells { (pil0 N S ca) with ak:=.slice none 0 0 })) (h2:Blk W ca 124 [i6 frm,i6 last,.slice none 0 0]) (hl:0 ≤ last):PilI W pa (pil0 N S ca) ⟨frm,last,[]⟩:=
 ⟨h1,fun _=>⟨⟨Nat.zero_le _,hl,fun _ h=>(by cases h),fun _ h=>(by cases h)⟩,none,0,h2,OwnR.nil _ _ _ _⟩⟩
def NewA (lo N S pa:Nat) (W:World):Prop:=∃ ca,PilI W pa (pil0 (N:Int) (S:Int) ca) ⟨200,1048576,[]⟩ ∧ (pa < W.heap.size ∧ ca < W.heap.size) ∧ lo ≤ pa ∧ lo ≤ ca
def NewB (lo N S pa pb:Nat) (W:World):Prop:=∃ ca cb,PilI W pa (pil0 (N:Int) (S:Int) ca) ⟨200,1048576,[]⟩ ∧ PilI W pb (pil0 (N:Int) (S:Int) cb) ⟨201,1048576,[]⟩ ∧ PilPok lo ⟨pa,ca,200⟩ ⟨pb,cb,201⟩ W.heap.size
def TwoE (lo N S sb pa pb:Nat) (nn T:Int) (M:Nat → Nat → ByteArray) (W:World):Prop:=∃ b ca cb,TwoP lo N S b sb ⟨pa,ca,200⟩ ⟨pb,cb,201⟩ nn T M W
theorem NewA.stb {lo N S pa:Nat}:Stb (NewA lo N S pa):=fun _ _ _ _ ⟨ca,h1,h2,h3⟩ hk hT he=>⟨ca,PilI.stb _ _ _ _ h1 hk hT he,⟨Nat.lt_of_lt_of_le h2.1 hk.size,Nat.lt_of_lt_of_le h2.2 hk.size⟩,h3⟩
theorem NewB.stb {lo N S pa pb:Nat}:Stb (NewB lo N S pa pb):=fun _ _ _ _ ⟨ca,cb,h1,h2,h3⟩ hk hT he=>⟨ca,cb,PilI.stb _ _ _ _ h1 hk hT he,PilI.stb _ _ _ _ h2 hk hT he,⟨h3.hl,by have:=h3.hp; have:=hk.size; omega,h3.hd,h3.hf⟩⟩
theorem TwoE.stb {lo N S sb pa pb:Nat} {nn T:Int} {M:Nat → Nat → ByteArray}:Stb (TwoE lo N S sb pa pb nn T M):=fun _ _ _ _ ⟨b,ca,cb,h⟩ hk hT he=>⟨b,ca,cb,TwoP.stb _ _ _ _ h hk hT he⟩
theorem PilI.kept0 {w w':World} {pb:Nat} {x:PilC} {c:CM} (h:PilI w pb x c) (hk:Kept (fun _=>False) w w'):PilI w' pb x c:=PilI.stb _ _ _ [] h hk (fun _ h=>h.elim) rfl
theorem new_a {lo N S:Nat} (hN:3 ≤ N ∧ N ≤ 6) (hS:1 ≤ S ∧ S ≤ 8) (w:World) (hl:lo ≤ w.heap.size) :
  Calls Tryz.prog 8 #[.agg #[i6 (N:Int),i6 (S:Int)],i6 0,i6 1] w (fun e w'=>∃ pa,e = .returned (.pointer (some ⟨pa,0,none⟩)) ∧ NewA lo N S pa w' ∧ Kept (LawL lo w) w w'):=
 (pil_new (N:Int) (S:Int) 0 1 (by omega) (by omega) (by omega) w).mono fun _ _ ⟨p,q,h1,h2,h3,h4,h5,h6⟩=>⟨p,h1,⟨q,pil_idle h4 h5 (by decide),⟨h4.lt,h5.lt⟩,Nat.le_trans hl h2,Nat.le_trans hl h3⟩,h6.mono fun _ _ h=>h.elim⟩
theorem new_b {lo N S pa:Nat} (hN:3 ≤ N ∧ N ≤ 6) (hS:1 ≤ S ∧ S ≤ 8) (w:World) (h:NewA lo N S pa w) :
  Calls Tryz.prog 8 #[.agg #[i6 (N:Int),i6 (S:Int)],i6 1,i6 1] w (fun e w'=>∃ pb,e = .returned (.pointer (some ⟨pb,0,none⟩)) ∧ NewB lo N S pa pb w' ∧ Kept (LawL lo w) w w'):=by
 obtain ⟨ca,a1,a2,a3⟩:=h
 refine (pil_new (N:Int) (S:Int) 1 1 (by omega) (by omega) (by omega) w).mono fun _ w' ⟨p,q,h1,h2,h3,h4,h5,h6⟩=>?_
 have hz:=h6.size
 have l4:=h4.lt
 have l5:=h5.lt
 exact ⟨p,h1,⟨ca,q,a1.kept0 h6,pil_idle h4 h5 (by decide),⟨⟨a3.1,a3.2,by show lo ≤ p; omega,by show lo ≤ q; omega⟩,⟨Nat.lt_of_lt_of_le a2.1 hz,Nat.lt_of_lt_of_le a2.2 hz,l4,l5⟩,⟨by show p ≠ pa; omega,by show p ≠ ca; omega,by show q ≠ pa; omega,by show q ≠ ca; omega⟩,⟨⟨(by decide:(200:Int) ≤ 200),(by decide:(200:Int) < 202)⟩,⟨(by decide:(200:Int) ≤ 201),(by decide:(201:Int) < 202)⟩,(by decide:(200:Int) ≠ 201)⟩⟩⟩,h6.mono fun _ _ h=>h.elim⟩
theorem goodP_new {N S ca:Nat} {frm:Int} (hf:200 ≤ frm ∧ frm < 202):GoodP N S ca frm 0 (-30) [0,0] (pil0 (N:Int) (S:Int) ca) ⟨frm,1048576,[]⟩:=by
 refine ⟨rfl,rfl,rfl,rfl,⟨Int.le_refl 0,Int.le_refl 0⟩,fun i=>⟨⟨Int.le_refl 0,(by decide:(0:Int) ≤ 1000000)⟩,fun h=>by cases h⟩,rfl,⟨(by decide:(0:Int) ≤ 1048576),(by decide:(1048576:Int) ≤ 2000000 + 20 * 0)⟩,0,?_,(by decide:(0:Int) ≤ 1048576)⟩
 have h:Int.toNat (frm - 200) < 2:=by omega
 match Int.toNat (frm - 200),h with
 | 0,_=>rfl
 | 1,_=>rfl
theorem new_s {lo N S pa pb:Nat} (hN:3 ≤ N ∧ N ≤ 6) (hS:1 ≤ S ∧ S ≤ 8) (w:World) (h:NewB lo N S pa pb w) :
  Calls Tryz.prog 9 #[.agg #[i6 (N:Int),i6 (S:Int)]] w (fun e w'=>∃ sb,e = .returned (.pointer (some ⟨sb,0,none⟩)) ∧ TwoE lo N S sb pa pb 0 (-30) (fun _ _=>zer16) w' ∧ Kept (LawL lo w) w w'):=by
 obtain ⟨ca,cb,a1,a2,a3⟩:=h
 refine (new_sim N S hN hS w).mono fun _ w' ⟨s,h1,h2,⟨h3,h3l⟩,h4⟩=>?_
 have hlw:lo ≤ w.heap.size:=by have:=a3.hl; have:=a3.hp; dsimp only at *; omega
 refine ⟨s.sb,h1,⟨w'.heap.size,ca,cb,s,_,_,_,_,h2,⟨rfl,Nat.le_trans hlw h3l.1,Nat.le_trans hlw h3l.2.1,Nat.le_trans hlw h3l.2.2.1,fun n hn=>Nat.le_trans hlw (h3l.2.2.2 n hn)⟩,⟨h3.sN,h3.sS,by rw [h3.ids]; rfl,by rw [h3.says]; rfl,fun i _=>⟨0,0,0,by rw [h3.lea],by omega,by omega⟩,fun i _ m _=>⟨0,0,0,zer16,by rw [h3.recs]; rfl,?_,?_,by omega,rfl⟩⟩,a1.kept0 h4,by rw [h3.ids]; exact goodP_new (by dsimp only; omega),a2.kept0 h4,by rw [h3.ids]; exact goodP_new (by dsimp only; omega),fun i _ m _=>by rw [h3.recs]; rfl,Nat.le_refl _,⟨a3.hl,by have:=a3.hp; have:=h4.size; dsimp only at *; omega,a3.hd,a3.hf⟩⟩,h4.mono fun _ _ h=>h.elim⟩
 ·rw [h3.lea]; exact ⟨Int.le_refl 0,Int.le_refl 0⟩
 ·rw [h3.lea]; exact ⟨Int.le_refl 0,Int.le_refl 0⟩
theorem plays_a {lo N S sn cn sb pa pb:Nat} {kd at_:Int} {da:ByteArray} {nn T now:Int} {M:Nat → Nat → ByteArray} (hO:GoodOp N S sn cn kd at_ da 200 nn T now) (w:World) (h:TwoE lo N S sb pa pb nn T M w) :
  Calls Tryz.prog 23 #[.pointer (some ⟨sb,0,none⟩),.pointer (some ⟨pa,0,none⟩),i6 now,.agg #[i6 kd,i6 at_,sT da]] w (fun e w'=>e = .returned (.tuple #[i6 0,sT (if kd = 1 then M ((cn + sn) % N) sn else ⟨#[]⟩),.bool true]) ∧ TwoE lo N S sb pa pb (nn + 1) now (opM N sn cn kd da M) w' ∧ Kept (LawL lo w) w w'):=by
 obtain ⟨b,ca,cb,h⟩:=h
 exact (two_plays (p:=⟨pa,ca,200⟩) hO w h).mono fun _ _ ⟨h1,h2,h3⟩=>⟨h1,⟨b,ca,cb,h2⟩,h3⟩
theorem plays_b {lo N S sn cn sb pa pb:Nat} {kd at_:Int} {da:ByteArray} {nn T now:Int} {M:Nat → Nat → ByteArray} (hO:GoodOp N S sn cn kd at_ da 201 nn T now) (w:World) (h:TwoE lo N S sb pa pb nn T M w) :
  Calls Tryz.prog 23 #[.pointer (some ⟨sb,0,none⟩),.pointer (some ⟨pb,0,none⟩),i6 now,.agg #[i6 kd,i6 at_,sT da]] w (fun e w'=>e = .returned (.tuple #[i6 0,sT (if kd = 1 then M ((cn + sn) % N) sn else ⟨#[]⟩),.bool true]) ∧ TwoE lo N S sb pa pb (nn + 1) now (opM N sn cn kd da M) w' ∧ Kept (LawL lo w) w w'):=by
 obtain ⟨b,ca,cb,h⟩:=h
 exact (two_plays (p:=⟨pb,cb,201⟩) hO w h.swap).mono fun _ _ ⟨h1,h2,h3⟩=>⟨h1,⟨b,ca,cb,h2.swap⟩,h3⟩
theorem goodOp_of {N S:Nat} {kd q:Int} {da:ByteArray} {frm nn T now:Int} (hN:3 ≤ N ∧ N ≤ 6) (hS:1 ≤ S ∧ S ≤ 8) (hq:0 ≤ q ∧ q < (S:Int) * ((N:Int) - 1)) (hkd:(kd = 1 ∧ da = ⟨#[]⟩) ∨ (kd = 2 ∧ da.size = 16)) (hfrm:200 ≤ frm ∧ frm < 202) (hT:-100 ≤ T ∧ T + 30 ≤ now ∧ 0 ≤ now ∧ now ≤ 1000000) (hnn:0 ≤ nn ∧ nn ≤ 100):GoodOp N S (Int.toNat (q / ((N:Int) - 1))) (Int.toNat (q % ((N:Int) - 1))) kd q da frm nn T now:=by
 have h1:0 ≤ q / ((N:Int) - 1) ∧ q / ((N:Int) - 1) < (S:Int):=⟨Int.ediv_nonneg (by omega) (by omega),Int.ediv_lt_of_lt_mul (by omega) hq.2⟩
 have h2:0 ≤ q % ((N:Int) - 1) ∧ q % ((N:Int) - 1) < (N:Int) - 1:=⟨Int.emod_nonneg _ (by omega),Int.emod_lt_of_pos _ (by omega)⟩
 exact ⟨hN,hS,by omega,by omega,hfrm,hT,hnn,.inr ⟨hkd,hq,by omega,by omega⟩⟩
def TwoV (lo N S sb pa pb:Nat) (nn T q:Int) (v:ByteArray) (W:World):Prop:=∃ M:Nat → Nat → ByteArray,M ((Int.toNat (q % ((N:Int) - 1)) + Int.toNat (q / ((N:Int) - 1))) % N) (Int.toNat (q / ((N:Int) - 1))) = v ∧ TwoE lo N S sb pa pb nn T M W
theorem TwoV.stb {lo N S sb pa pb:Nat} {nn T q:Int} {v:ByteArray}:Stb (TwoV lo N S sb pa pb nn T q v):=fun _ _ _ _ ⟨M,h1,h2⟩ hk hT he=>⟨M,h1,TwoE.stb _ _ _ _ h2 hk hT he⟩
theorem opM_R {N sn cn:Nat} {da:ByteArray} {M:Nat → Nat → ByteArray}:opM N sn cn 1 da M = M:=by
 funext m i
 simp [opM]
theorem opM_W {N sn cn:Nat} {da:ByteArray} {M:Nat → Nat → ByteArray}:opM N sn cn 2 da M ((cn + sn) % N) sn = da:=by simp [opM]
theorem rd_a {lo N S sb pa pb:Nat} {nn T now q:Int} {v:ByteArray} (hN:3 ≤ N ∧ N ≤ 6) (hS:1 ≤ S ∧ S ≤ 8) (hq:0 ≤ q ∧ q < (S:Int) * ((N:Int) - 1)) (hT:-100 ≤ T ∧ T + 30 ≤ now ∧ 0 ≤ now ∧ now ≤ 1000000) (hnn:0 ≤ nn ∧ nn ≤ 100) (w:World) (h:TwoV lo N S sb pa pb nn T q v w) :
  Calls Tryz.prog 23 #[.pointer (some ⟨sb,0,none⟩),.pointer (some ⟨pa,0,none⟩),i6 now,.agg #[i6 1,i6 q,sT ⟨#[]⟩]] w (fun e w'=>e = .returned (.tuple #[i6 0,sT v,.bool true]) ∧ TwoV lo N S sb pa pb (nn + 1) now q v w' ∧ Kept (LawL lo w) w w'):=by
 obtain ⟨M,h1,h2⟩:=h
 have hp:=plays_a (goodOp_of hN hS hq (.inl ⟨rfl,rfl⟩) (by omega) hT hnn) w h2
 rw [if_pos rfl,h1,opM_R] at hp
 exact hp.mono fun _ _ ⟨a1,a2,a3⟩=>⟨a1,⟨M,h1,a2⟩,a3⟩
theorem wr_a {lo N S sb pa pb:Nat} {nn T now q:Int} {v da:ByteArray} (hda:da.size = 16) (hN:3 ≤ N ∧ N ≤ 6) (hS:1 ≤ S ∧ S ≤ 8) (hq:0 ≤ q ∧ q < (S:Int) * ((N:Int) - 1)) (hT:-100 ≤ T ∧ T + 30 ≤ now ∧ 0 ≤ now ∧ now ≤ 1000000) (hnn:0 ≤ nn ∧ nn ≤ 100) (w:World) (h:TwoV lo N S sb pa pb nn T q v w) :
  Calls Tryz.prog 23 #[.pointer (some ⟨sb,0,none⟩),.pointer (some ⟨pa,0,none⟩),i6 now,.agg #[i6 2,i6 q,sT da]] w (fun e w'=>e = .returned (.tuple #[i6 0,sT ⟨#[]⟩,.bool true]) ∧ TwoV lo N S sb pa pb (nn + 1) now q da w' ∧ Kept (LawL lo w) w w'):=by
 obtain ⟨M,_,h2⟩:=h
 have hp:=plays_a (goodOp_of hN hS hq (.inr ⟨rfl,hda⟩) (by omega) hT hnn) w h2
 rw [if_neg (by decide)] at hp
 exact hp.mono fun _ _ ⟨a1,a2,a3⟩=>⟨a1,⟨_,opM_W,a2⟩,a3⟩
theorem rd_b {lo N S sb pa pb:Nat} {nn T now q:Int} {v:ByteArray} (hN:3 ≤ N ∧ N ≤ 6) (hS:1 ≤ S ∧ S ≤ 8) (hq:0 ≤ q ∧ q < (S:Int) * ((N:Int) - 1)) (hT:-100 ≤ T ∧ T + 30 ≤ now ∧ 0 ≤ now ∧ now ≤ 1000000) (hnn:0 ≤ nn ∧ nn ≤ 100) (w:World) (h:TwoV lo N S sb pa pb nn T q v w) :
  Calls Tryz.prog 23 #[.pointer (some ⟨sb,0,none⟩),.pointer (some ⟨pb,0,none⟩),i6 now,.agg #[i6 1,i6 q,sT ⟨#[]⟩]] w (fun e w'=>e = .returned (.tuple #[i6 0,sT v,.bool true]) ∧ TwoV lo N S sb pa pb (nn + 1) now q v w' ∧ Kept (LawL lo w) w w'):=by
 obtain ⟨M,h1,h2⟩:=h
 have hp:=plays_b (goodOp_of hN hS hq (.inl ⟨rfl,rfl⟩) (by omega) hT hnn) w h2
 rw [if_pos rfl,h1,opM_R] at hp
 exact hp.mono fun _ _ ⟨a1,a2,a3⟩=>⟨a1,⟨M,h1,a2⟩,a3⟩
theorem wr_b {lo N S sb pa pb:Nat} {nn T now q:Int} {v da:ByteArray} (hda:da.size = 16) (hN:3 ≤ N ∧ N ≤ 6) (hS:1 ≤ S ∧ S ≤ 8) (hq:0 ≤ q ∧ q < (S:Int) * ((N:Int) - 1)) (hT:-100 ≤ T ∧ T + 30 ≤ now ∧ 0 ≤ now ∧ now ≤ 1000000) (hnn:0 ≤ nn ∧ nn ≤ 100) (w:World) (h:TwoV lo N S sb pa pb nn T q v w) :
  Calls Tryz.prog 23 #[.pointer (some ⟨sb,0,none⟩),.pointer (some ⟨pb,0,none⟩),i6 now,.agg #[i6 2,i6 q,sT da]] w (fun e w'=>e = .returned (.tuple #[i6 0,sT ⟨#[]⟩,.bool true]) ∧ TwoV lo N S sb pa pb (nn + 1) now q da w' ∧ Kept (LawL lo w) w w'):=by
 obtain ⟨M,_,h2⟩:=h
 have hp:=plays_b (goodOp_of hN hS hq (.inr ⟨rfl,hda⟩) (by omega) hT hnn) w h2
 rw [if_neg (by decide)] at hp
 exact hp.mono fun _ _ ⟨a1,a2,a3⟩=>⟨a1,⟨_,opM_W,a2⟩,a3⟩
end Go.Proofs.YtcmpkkapkdlfhaaGreat
namespace Go.Proofs.YtcmpkkapkdlfhaaGreat
open Go.RowKit
set_option maxHeartbeats 4000000
set_option maxRecDepth 100000
theorem pick5_n (c n v:Int) (h:pickZ c n = v) (hc:c < 0) (h1:1 ≤ n) (h2:n ≤ 9223372036854775807) (h3:-9223372036854775808 ≤ c ∧ c ≤ 9223372036854775807) (w:World) :
  Calls Tryz.prog 25 #[i6 c,i6 n] w (RetK (i6 v) w):=by
 refine cH (S:=(fun _=>False)) (n:=13) Tryz.func25 (MemOk.none w _) ?_
 refine hgS 27 (dz 12 0x20002201000) [4] [oE ((decide ((c:Int) < 0)) = true) (decide_eq_true hc),n64 ((c + 1)),n64 ((0 - (c + 1))),oE ((0:Int) ≤ (0 - (c + 1)) ∧ (0:Int) < n)] [] [.code [1,1,1]] [] [] w.heap.size ?_
 refine hrt [] [i6 ((0 - (c + 1)) % n)] [] ?_
 intro wx hm
 refine ⟨?_,hm.kept⟩
 subst h
 simp only [oneOf,pickZ,if_pos hc]
 congr 3
 omega
theorem pick5_p (c n v:Int) (h:pickZ c n = v) (hc:¬ c < 0) (h1:1 ≤ n) (h2:n ≤ 9223372036854775807) (h3:-9223372036854775808 ≤ c ∧ c ≤ 9223372036854775807) (w:World) :
  Calls Tryz.prog 25 #[i6 c,i6 n] w (RetK (i6 v) w):=by
 refine cH (S:=(fun _=>False)) (n:=13) Tryz.func25 (MemOk.none w _) ?_
 refine hgS 22 (dz 8 33554432) [4] [dF ((c:Int) < 0),oE ((0:Int) ≤ c ∧ (0:Int) < n)] [] [.code [1,1,1]] [] [] w.heap.size ?_
 refine hrt [] [i6 (c % n)] [] ?_
 intro wx hm
 refine ⟨?_,hm.kept⟩
 subst h
 simp only [oneOf,pickZ,if_neg hc]
theorem pick5 (c n v:Int) (h:pickZ c n = v) (w:World) (h1:1 ≤ n) (h2:n ≤ 9223372036854775807) (h3:-9223372036854775808 ≤ c ∧ c ≤ 9223372036854775807):Calls Tryz.prog 25 #[i6 c,i6 n] w (RetK (i6 v) w):=by
 by_cases hc:c < 0
 ·exact pick5_n c n v h hc h1 h2 h3 w
 ·exact pick5_p c n v h hc h1 h2 h3 w
section
variable (a b:Int) (w:World)
@[simp] def f5_b1:List Bk:=[⟨w.heap.size,23,true,[i6 a,i6 b]⟩,⟨w.heap.size + 1,23,true,[i6 0,i6 0]⟩]
def f5_g2s:List (Nat × Value):=[(1,(pt w.heap.size 0)),(2,(pt (w.heap.size + 1) 0))]
def f5_g2v:List (Option Value):=[some ((pt w.heap.size 0)),some (i6 a),some (i6 (pickZ a 4)),some (i6 (3 + (pickZ a 4))),some ((pt w.heap.size 1)),some (i6 b),some (i6 (pickZ b 8)),some (i6 (1 + (pickZ b 8))),some (.agg #[i6 (3 + (pickZ a 4)),i6 (1 + (pickZ b 8))]),some (.tuple #[])]
def f5_g2m:List (List Bk):=[(f5_b1 a b w),[⟨w.heap.size,23,true,[i6 a,i6 b]⟩,⟨w.heap.size + 1,23,true,[i6 (3 + (pickZ a 4)),i6 (1 + (pickZ b 8))]⟩]]
def f5_g2t:List (Option Nat):=[none,none,none,none,none,none,none,none,none,some 0]
theorem f5_g2_2:callAt Tryz.prog (opsOf (getCode (bodyOf Tryz.f7) [1,0])) (slG (opsOf (getCode (bodyOf Tryz.f7) [1,0])) (f5_g2v a b w) (slI (opsOf (getCode (bodyOf Tryz.f7) [1,0])) (f5_g2s w) 2) (needsOf (opsOf (getCode (bodyOf Tryz.f7) [1,0])) 2)) 2 = some (25,[i6 a,i6 4],dstOf (opsOf (getCode (bodyOf Tryz.f7) [1,0])) 2,[]):=by kernel_rfl
theorem f5_g2_6:callAt Tryz.prog (opsOf (getCode (bodyOf Tryz.f7) [1,0])) (slG (opsOf (getCode (bodyOf Tryz.f7) [1,0])) (f5_g2v a b w) (slI (opsOf (getCode (bodyOf Tryz.f7) [1,0])) (f5_g2s w) 6) (needsOf (opsOf (getCode (bodyOf Tryz.f7) [1,0])) 6)) 6 = some (25,[i6 b,i6 8],dstOf (opsOf (getCode (bodyOf Tryz.f7) [1,0])) 6,[]):=by kernel_rfl
theorem f5_g2_9:∀ sz,opG Tryz.prog (opsOf (getCode (bodyOf Tryz.f7) [1,0])) ⟨slG (opsOf (getCode (bodyOf Tryz.f7) [1,0])) (f5_g2v a b w) (slI (opsOf (getCode (bodyOf Tryz.f7) [1,0])) (f5_g2s w) 9) (needsOf (opsOf (getCode (bodyOf Tryz.f7) [1,0])) 9),(f5_b1 a b w),[],sz⟩ 9 (oA 1 0 2) = some ([],dupR [(w.heap.size + 1,0,2)],undef,[⟨w.heap.size,23,true,[i6 a,i6 b]⟩,⟨w.heap.size + 1,23,true,[i6 (3 + (pickZ a 4)),i6 (1 + (pickZ b 8))]⟩],sz):=fun sz=>by kernel_rfl
def f5_g2C (i_:Nat):Prop:=CertG (wpOp Tryz.prog (opsOf (getCode (bodyOf Tryz.f7) [1,0])) (sem Tryz.prog (bodyOf Tryz.f7) (bodyPost Tryz.prog Tryz.f7 (RetK (.agg #[i6 (3 + pickZ a 4),i6 (1 + pickZ b 8)]) w)) [.code [1,1]])) [] 12 (opsOf (getCode (bodyOf Tryz.f7) [1,0])) (slI (opsOf (getCode (bodyOf Tryz.f7) [1,0])) (f5_g2s w) i_) (f5_g2t) 1 (MG w (fun _=>False) (f5_g2m a b w) [] (w.heap.size + 2)) (Turned (f5_b1 a b w)) (PvG (f5_g2v a b w) (fun _ _ _=>False)) i_
end
theorem fit5 (a b:Int) (ha:-9223372036854775808 ≤ a ∧ a ≤ 9223372036854775807) (hb:-9223372036854775808 ≤ b ∧ b ≤ 9223372036854775807) (w:World) :
  Calls Tryz.prog 7 #[.agg #[i6 a,i6 b]] w (RetK (.agg #[i6 (3 + pickZ a 4),i6 (1 + pickZ b 8)]) w):=by
 refine cH (S:=(fun _=>False)) (n:=12) Tryz.func7 (MemOk.none w _) ?_
 have hpa:=pickZ_bd a 4 (by omega)
 have hpb:=pickZ_bd b 8 (by omega)
 refine hgE 9 (dz 2 0) [1,2] [] [] [.code [1,0],.code [1,1]] ⟨[(1,(pt w.heap.size 0)),(2,(pt (w.heap.size + 1) 0))],(f5_b1 a b w),[],w.heap.size + 2⟩ ?_
 have f5_g2_c2:f5_g2C a b w 2:=cert_call (v:=i6 (pickZ a 4)) (by kernel_rfl) (by kernel_rfl) (f5_g2_2 a b w) trivial (fun j wx _ hm=>pick5 a 4 _ rfl wx (by omega) (by omega) (by omega))
 have f5_g2_c6:f5_g2C a b w 6:=cert_call (v:=i6 (pickZ b 8)) (by kernel_rfl) (by kernel_rfl) (f5_g2_6 a b w) trivial (fun j wx _ hm=>pick5 b 8 _ rfl wx (by omega) (by omega) (by omega))
 have f5_g2_c9:f5_g2C a b w 9:=cert_store (s:=0) (v:=undef) (by kernel_rfl) (by kernel_rfl) (by kernel_rfl) (by kernel_rfl) (by kernel_rfl) (f5_g2_9 a b w) trivial
 have f5_g2_R:∀ e_ ∈ (rZs [0,4,8] ++ [rG 1 0 0 1 w.heap.size,⟨3,oh2,[n64 ((3 + (pickZ a 4)))],[]⟩,rG 5 0 1 1 w.heap.size,⟨7,oh2,[n64 ((1 + (pickZ b 8)))],[]⟩]:List RegE),f5_g2C a b w e_.i:=certs_reg (by kernel_rfl) _ (fun sz=>by kernel_rfl)
 refine holds_mixG (vs:=(f5_g2v a b w)) (ms:=(f5_g2m a b w)) (stg:=(f5_g2t)) (J:=1) (sl':=[(2,(pt (w.heap.size + 1) 0))]) (bk':=[⟨w.heap.size,23,true,[i6 a,i6 b]⟩,⟨w.heap.size + 1,23,true,[i6 (3 + (pickZ a 4)),i6 (1 + (pickZ b 8))]⟩]) (fun _ _ _=>False) [2] (by kernel_rfl) (by kernel_rfl) (by kernel_rfl) (fun _ _ _ _ h=>h.elim) (certs_mix f5_g2_R [2,6,9] ⟨f5_g2_c2,f5_g2_c6,f5_g2_c9,tI⟩ (by kernel_rfl)) (by kernel_rfl) (by kernel_rfl) (by kernel_rfl) (fun z2 hz2=>?_)
 replace hz2:w.heap.size + 2 ≤ z2:=hz2
 refine hgS 3 [] [2] [] [] [.code [1,1]] [⟨w.heap.size,23,true,[i6 a,i6 b]⟩,⟨w.heap.size + 1,23,true,[i6 (3 + (pickZ a 4)),i6 (1 + (pickZ b 8))]⟩] [] z2 ?_
 refine hrt [[⟨false,1,0,2⟩]] [.agg #[i6 (3 + (pickZ a 4)),i6 (1 + (pickZ b 8))]] [(w.heap.size + 1,0,2)] ?_
 intro wx hm
 exact ⟨rfl,hm.kept⟩
theorem ref5Right (N S:Int) (hg:3 ≤ N ∧ N ≤ 6 ∧ 1 ≤ S ∧ S ≤ 8) (w:World) :
  Calls Tryz.prog 29 #[.agg #[i6 N,i6 S]] w (RetK (.bool true) w):=by
 refine cH (S:=(fun _=>False)) (n:=21) Tryz.func29 (MemOk.none w _) ?_
 refine hgS 30 (dz 21 0x3101010910310101091031010009100010008000) [2] (rE 4 (dT ((N:Int) ≥ 3)) ++ rE 4 (dT ((N:Int) ≤ 6)) ++ rE 4 (dT ((S:Int) ≥ 1))) [(w.heap.size,0,1),(w.heap.size,0,1),(w.heap.size,1,1),(w.heap.size,1,1)] [.code [1,1]] [⟨w.heap.size,23,true,[i6 N,i6 S]⟩] [] (w.heap.size + 1) ?_
 refine hrt [] [.bool (decide ((S:Int) ≤ 8))] [] ?_
 intro wx hm
 exact ⟨ret_bool (decide_eq_true (by omega)),hm.kept⟩
theorem ref5Blocks (N S:Int) (hg:3 ≤ N ∧ N ≤ 6 ∧ 1 ≤ S ∧ S ≤ 8) (w:World) :
  Calls Tryz.prog 10 #[.agg #[i6 N,i6 S]] w (RetK (i6 (S * (N - 1))) w):=by
 refine cH (S:=(fun _=>False)) (n:=14) Tryz.func10 (MemOk.none w _) ?_
 have hm1:0 ≤ S * (N - 1):=Int.mul_nonneg (by omega) (by omega)
 have hm2:S * (N - 1) ≤ 8 * 5:=Int.mul_le_mul (by omega) (by omega) (by omega) (by omega)
 refine hgS 11 (dz 3 33556480) [1,2,4] [] [(w.heap.size,0,2)] [.ops [1,0] [1,2],.code [1,1]] [⟨w.heap.size,23,true,[i6 N,i6 S]⟩] [] (w.heap.size + 1) ?_
 refine hcq (.bool true) _ _ (some 5) [] tI rfl (fun wx hm=>ref5Right N S hg wx) fun z2 hz2=>?_
 refine hgS 23 (dz 11 0x22010008001010800000) [2] [fF,n64 ((N - 1)),n64 ((S * (N - 1)))] [(w.heap.size,1,1),(w.heap.size,0,1)] [.code [1,1,1,1]] [⟨w.heap.size,23,true,[i6 N,i6 S]⟩] [] z2 ?_
 refine hrt [] [i6 (S * (N - 1))] [] ?_
 intro wx hm
 exact ⟨rfl,hm.kept⟩
end Go.Proofs.YtcmpkkapkdlfhaaGreat
