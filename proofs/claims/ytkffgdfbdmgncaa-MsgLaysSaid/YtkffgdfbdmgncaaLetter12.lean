import Derived.Test.YtkffgdfbdmgncaaPut12
import Derived.Test.YtkffgdfbdmgncaaTake12
namespace Go.Proofs.Ytkffgdfbdmgncaa
open Go.RowKit
def tx (fs:List FldM) (k:Nat):ByteArray:=(fs[k]?.getD ⟨0,noText⟩).text
def gv (fs:List FldM) (k:Nat):Int:=getV (tx fs k)
def txs (fs:List FldM) (d L:Nat):List ByteArray:=(List.range L).map fun i=>tx fs (d + i)
def rc7 (fs:List FldM):RecM:=bif decide ((tx fs 6).size = 0) then blankR 0 else unpackR 0 (tx fs 6)
def letter7 (fs:List FldM):LetM:=⟨gv fs 0,gv fs 1,gv fs 2,true,zeroQ,⟨gv fs 3,gv fs 4,gv fs 5,rc7 fs⟩⟩
def letter12 (fs:List FldM):LetM:=⟨gv fs 0,gv fs 1,gv fs 2,false,⟨gv fs 3,gv fs 4,gv fs 5,gv fs 6,gv fs 7,gv fs 8,gv fs 9,gv fs 10,tx fs 11⟩,zeroS⟩
def ok7 (fs:List FldM):Bool:=(txs fs 0 3).all getOk && ((txs fs 3 3).all getOk && (decide ((tx fs 6).size = 0) || (unpackE 0 (tx fs 6) == 0)))
def ok12 (fs:List FldM):Bool:=(txs fs 0 3).all getOk && (txs fs 3 8).all getOk
def letterV (fs:List FldM):Option LetM:=if fs.length = 7 then (bif ok7 fs then some (letter7 fs) else none) else if fs.length = 12 then (bif ok12 fs then some (letter12 fs) else none) else none
theorem letM_inj {a b:LetM} (h:a.cells = b.cells):a = b:=by
 obtain ⟨a1,a2,a3,a4,⟨b1,b2,b3,b4,b5,b6,b7,b8,b9⟩,⟨c1,c2,c3,⟨d1,d2,d3,d4,d5,d6,d7,d8,d9,d0⟩⟩⟩:=a
 obtain ⟨a1',a2',a3',a4',⟨b1',b2',b3',b4',b5',b6',b7',b8',b9'⟩,⟨c1',c2',c3',⟨d1',d2',d3',d4',d5',d6',d7',d8',d9',d0'⟩⟩⟩:=b
 simpa [LetM.cells,AskM.cells,SayR.cells,RecM.cells,and_assoc] using h
def isLet (cs:List Value):Prop:=∃ l:LetM,cs = l.cells
theorem isLet_set {o:Nat} (ho:o ∈ [0,1,2,4,5,6,7,8,9,10,11,13,14,15]) (cs:List Value) (v:Int) (h:isLet cs):isLet (cs.set o (.int .i64 v)):=by
 obtain ⟨l,rfl⟩:=h
 simp only [List.mem_cons,List.not_mem_nil,or_false] at ho
 rcases ho with rfl | rfl | rfl | rfl | rfl | rfl | rfl | rfl | rfl | rfl | rfl | rfl | rfl | rfl
 ·exact ⟨{ l with fr:=v },rfl⟩
 ·exact ⟨{ l with dst:=v },rfl⟩
 ·exact ⟨{ l with id:=v },rfl⟩
 ·exact ⟨{ l with ask:={ l.ask with kind:=v } },rfl⟩
 ·exact ⟨{ l with ask:={ l.ask with stripe:=v } },rfl⟩
 ·exact ⟨{ l with ask:={ l.ask with epoch:=v } },rfl⟩
 ·exact ⟨{ l with ask:={ l.ask with seq:=v } },rfl⟩
 ·exact ⟨{ l with ask:={ l.ask with mask:=v } },rfl⟩
 ·exact ⟨{ l with ask:={ l.ask with node:=v } },rfl⟩
 ·exact ⟨{ l with ask:={ l.ask with oe:=v } },rfl⟩
 ·exact ⟨{ l with ask:={ l.ask with os:=v } },rfl⟩
 ·exact ⟨{ l with say:={ l.say with st:=v } },rfl⟩
 ·exact ⟨{ l with say:={ l.say with ep:=v } },rfl⟩
 ·exact ⟨{ l with say:={ l.say with ou:=v } },rfl⟩
theorem isLet_put {cs:List Value} (os:List Nat) (ts:List ByteArray) (h:isLet cs) (ho:∀ o ∈ os,o ∈ [0,1,2,4,5,6,7,8,9,10,11,13,14,15]):isLet (putN cs os ts):=
 putN_inv os ts cs h (fun o h1 cs v h2=>isLet_set (ho o h1) cs v h2)
theorem txs_cell {w wx:World} {b0 g n cp:Nat} {fs:List FldM} (hF:OwnR w b0 60 2 (some ⟨g,0,none⟩) n cp (fldV fs)) (hk:Kept (fun _=>False) w wx) {d L:Nat} (hd:d + L ≤ fs.length):∀ j t,(txs fs d L)[j]? = some t → g < wx.heap.size ∧ wx.cell? ⟨g,d * 2 + j * 2 + 1,none⟩ = some (.string t):=by
 intro j t hj
 have hl:=(List.getElem?_eq_some_iff.1 hj).1
 simp only [txs,List.length_map,List.length_range] at hl
 simp only [txs,List.getElem?_map,List.getElem?_range hl,Option.map_some,Option.some.injEq] at hj
 obtain ⟨f,hf⟩:∃ f,fs[d + j]? = some f:=⟨_,List.getElem?_eq_getElem (by omega)⟩
 obtain ⟨g',h1,_,h2,h3⟩:=(hF.kept hk (fun _ _ h=>h)).cell (fldV_get fs (d + j) 1 f hf (by omega))
 simp only [Option.some.injEq,Addr.mk.injEq,and_true] at h1
 subst h1
 refine ⟨h2,?_⟩
 rw [show d * 2 + j * 2 + 1 = (d + j) * 2 + 1 by omega,h3]
 subst hj
 simp [tx,hf]
theorem tx_size {fs:List FldM} (hS:∀ f ∈ fs,f.text.size ≤ 9223372036854775807) (k:Nat):(tx fs k).size ≤ 9223372036854775807:=by
 unfold tx
 cases h:fs[k]? with
 | none=>exact Nat.zero_le _
 | some f=>exact hS f (List.mem_of_getElem? h)
theorem txs_size {fs:List FldM} (hS:∀ f ∈ fs,f.text.size ≤ 9223372036854775807) (d L:Nat):∀ t ∈ txs fs d L,t.size ≤ 9223372036854775807:=by
 intro t ht
 simp only [txs,List.mem_map] at ht
 obtain ⟨i,_,rfl⟩:=ht
 exact tx_size hS _
theorem slot_more {D:List Deferred} {n:Nat} {sl:List (Nat × Value)} {a:Act} {d:Nat} {v:Value} (hf:FrOk D n sl a) (hv:a.tmps[d]? = some v):FrOk D n ((d,v) :: sl) a:=⟨hf.size,hf.df,fun q u hq=>by
 simp only [getS] at hq
 split at hq
 ·rename_i he
  have he':d = q:=Nat.eq_of_beq_eq_true he
  subst he'
  simp only [Option.some.injEq] at hq
  subst hq
  exact hv
 ·exact hf.val q u hq⟩
theorem own_some {w:World} {base:Nat} {e:TypeId} {z:Nat} {A:Option Addr} {n cp:Nat} {cs:List Value} (h:OwnR w base e z A n cp cs) (hn:n ≠ 0):∃ g,A = some ⟨g,0,none⟩ ∧ g < w.heap.size ∧ n ≤ cp:=by
 rcases h.blk with ⟨_,h1,_⟩ | ⟨g,r,h1,_,h2,h3,_⟩
 ·exact absurd h1 hn
 ·exact ⟨g,h1,h2.lt,h3⟩
theorem run_sliceR {P:Program} (w:World) (t e z:TypeId) (g n cp k:Nat) (i:Int) (hi:i = (k:Int)) (ht:P.underlying t = some (.slice e)) (hs:(P.info? e).map (·.size) = some z) (hk:k ≤ n) (hc:k < cp) :
  (Instr.sliceAt t (.slice (some ⟨g,0,none⟩) n cp) (some (.int .i64 i)) none none).run P w = .ok (.slice (some ⟨g,k * z,none⟩) (n - k) (cp - k)) w:=by
 subst hi
 obtain ⟨inf,hi1,hi2⟩:=Option.map_eq_some_iff.1 hs
 have e1:(⟨g,0,none⟩:Addr).add (k * z) = ⟨g,k * z,none⟩:=by rw [add_norm,Nat.zero_add]
 have h3:¬ cp = k:=by omega
 simp [Instr.sliceAt,Instr.slice,Instr.sliceBounds,Instr.sliceBound,asIntOf,run_underlying ht,hk,sizeOf,typeInfo,hi1,hi2,h3,e1]
def lox_v1 (n:Nat):List Value:=[i6 0,i6 0,i6 0,.bool ((n:Int) == 7)] ++ rp 8 (i6 0) ++ [sT ⟨#[]⟩,i6 0,i6 0,i6 0,.bool false,i6 0,i6 0,i6 0,sT ⟨#[]⟩,.bool false,i6 0,i6 0,i6 0,sT ⟨#[]⟩]
set_option maxRecDepth 100000 in
set_option maxHeartbeats 4000000 in
theorem letterOf_x (A:Option Addr) (n cp b0:Nat) (fs:List FldM) (h7:n ≠ 7) (h12:n ≠ 12) (w:World) (hF:OwnR w b0 60 2 A n cp (fldV fs)) :
  Calls Try.prog 28 #[.slice A n cp] w (fun e w'=>(∃ l:LetM,e = .returned (.tuple #[.agg l.cells.toArray,.bool (letterV fs).isSome]) ∧ ∀ l',letterV fs = some l' → l' = l) ∧ Kept (fun _=>False) w w'):=by
 refine calls_of_holds (S:=(fun _=>False)) (l:=[.slice A n cp]) (n:=105) Try.func28 (body_of (by kernel_rfl)) rfl (by simp) (MemOk.none w _) ?_
 have hfl:fs.length = n:=by have:=hF.len; rw [len_fldV] at this; omega
 refine hgE 36 [oh0,oh0,oh0,oh0,oh0,oh0,oh0,(oA 1 0 26),oh0,(oA 1 3 1),oh0,oh0,oh1,oh1,oh1,oh3,oh1,(oA 1 0 26),(oA 0 0 26),oh0] [0,2,3,4] [oE ((!((n:Int) == 7)) = true) (by rw [beq_eq_false_iff_ne.2 (by omega)]; rfl),oE ((!((n:Int) == 7)) = true) (by rw [beq_eq_false_iff_ne.2 (by omega)]; rfl),oE ((!((n:Int) == 7)) = true) (by rw [beq_eq_false_iff_ne.2 (by omega)]; rfl),oE ((!((n:Int) == 7)) = true) (by rw [beq_eq_false_iff_ne.2 (by omega)]; rfl),oE (((n:Int) != 12) = true) (bne_iff_ne.2 (by omega))] [(w.heap.size + 1,0,26),(w.heap.size + 1,3,1),(w.heap.size + 1,0,26),(w.heap.size,0,26)] [.code [1,1,0,1,0,1],.code [1,1,1]] ⟨[(0,.slice A n cp),(2,(pt w.heap.size 0)),(3,.bool false),(4,(pt (w.heap.size + 1) 0))],[⟨w.heap.size,31,true,(lox_v1 n)⟩,⟨w.heap.size + 1,31,true,(lox_v1 n)⟩],[],w.heap.size + 2⟩ ?_
 refine hrt [[⟨false,0,0,26⟩]] [.agg (List.toArray (lox_v1 n)),.bool false] [(w.heap.size,0,26)] ?_
 intro wx hm
 have e:letterV fs = none:=by unfold letterV; rw [if_neg (by omega),if_neg (by omega)]
 rw [e]
 exact ⟨⟨⟨0,0,0,((n:Int) == 7),zeroQ,zeroS⟩,rfl,fun _ h=>by cases h⟩,hm.kept⟩
def lo7_v1:List Value:=rp 3 (.int .i64 0) ++ [.bool false] ++ rp 8 (.int .i64 0) ++ [.string ⟨#[]⟩] ++ rp 3 (.int .i64 0) ++ [.bool false] ++ rp 3 (.int .i64 0) ++ [.string ⟨#[]⟩,.bool false] ++ rp 3 (.int .i64 0) ++ [.string ⟨#[]⟩]
def lo7_v2:List Value:=(lo7_v1.set 3 (.bool true))
def lo7_v3 (w:World):List Value:=[(pt (w.heap.size + 1) 0),(pt (w.heap.size + 1) 1),(pt (w.heap.size + 1) 2)]
def lo7_v4 (y1:LetM):List Value:=[i6 y1.fr,i6 y1.dst,i6 y1.id,.bool y1.ans,i6 y1.ask.kind,i6 y1.ask.stripe,i6 y1.ask.epoch,i6 y1.ask.seq,i6 y1.ask.mask,i6 y1.ask.node,i6 y1.ask.oe,i6 y1.ask.os,sT y1.ask.block,i6 y1.say.st,i6 y1.say.ep,i6 y1.say.ou,.bool y1.say.rc.used,i6 y1.say.rc.fence,i6 y1.say.rc.de,i6 y1.say.rc.ds,sT y1.say.rc.block,.bool y1.say.rc.op,i6 y1.say.rc.ie,i6 y1.say.rc.is,i6 y1.say.rc.mask,sT y1.say.rc.staged]
def lo7_v5 (w:World):List Value:=[(pt (w.heap.size + 1) 13),(pt (w.heap.size + 1) 14),(pt (w.heap.size + 1) 15)]
def lo7_v6 (y2:LetM):List Value:=[i6 y2.fr,i6 y2.dst,i6 y2.id,.bool y2.ans,i6 y2.ask.kind,i6 y2.ask.stripe,i6 y2.ask.epoch,i6 y2.ask.seq,i6 y2.ask.mask,i6 y2.ask.node,i6 y2.ask.oe,i6 y2.ask.os,sT y2.ask.block,i6 y2.say.st,i6 y2.say.ep,i6 y2.say.ou,.bool y2.say.rc.used,i6 y2.say.rc.fence,i6 y2.say.rc.de,i6 y2.say.rc.ds,sT y2.say.rc.block,.bool y2.say.rc.op,i6 y2.say.rc.ie,i6 y2.say.rc.is,i6 y2.say.rc.mask,sT y2.say.rc.staged]
def lo7_v7 (u:RecM):List Value:=[.bool u.used,i6 u.fence,i6 u.de,i6 u.ds,sT u.block,.bool u.op,i6 u.ie,i6 u.is,i6 u.mask,sT u.staged]
def lo7_v8 (y2:LetM) (u:RecM):List Value:=(((((((((((lo7_v6 y2).set 16 (.bool u.used)).set 17 (i6 u.fence)).set 18 (i6 u.de)).set 19 (i6 u.ds)).set 20 (sT u.block)).set 21 (.bool u.op)).set 22 (i6 u.ie)).set 23 (i6 u.is)).set 24 (i6 u.mask)).set 25 (sT u.staged))
def lo7_n1:List OH:=[oh1,⟨false,0,[⟨false,1,0,26⟩]⟩,⟨false,0,[⟨false,0,0,26⟩]⟩,oh0]
@[simp] def lo7_b1 (y1:LetM) (w:World):List Bk:=[⟨w.heap.size,31,true,(lo7_v1)⟩,⟨w.heap.size + 1,31,true,(lo7_v4 y1)⟩,⟨w.heap.size + 2,89,true,(lo7_v3 w)⟩]
@[simp] def lo7_b2 (y2:LetM) (w:World) (z2:Nat):List Bk:=[⟨w.heap.size,31,true,(lo7_v1)⟩,⟨w.heap.size + 1,31,true,(lo7_v6 y2)⟩,⟨w.heap.size + 2,89,true,(lo7_v3 w)⟩,⟨z2,89,true,(lo7_v5 w)⟩]
@[simp] def lo7_b3 (y2:LetM) (w:World) (z2:Nat):List Bk:=[⟨w.heap.size,31,true,(lo7_v6 y2)⟩,⟨w.heap.size + 1,31,true,(lo7_v6 y2)⟩,⟨w.heap.size + 2,89,true,(lo7_v3 w)⟩,⟨z2,89,true,(lo7_v5 w)⟩]
set_option maxRecDepth 100000 in
set_option maxHeartbeats 4000000 in
theorem letterOf_7 (g cp b0:Nat) (fs:List FldM) (hgc:7 ≤ cp) (w:World) (hgl:g < w.heap.size) (hF:OwnR w b0 60 2 (some ⟨g,0,none⟩) 7 cp (fldV fs)) (hS:∀ f ∈ fs,f.text.size ≤ 9223372036854775807) :
  Calls Try.prog 28 #[.slice (some ⟨g,0,none⟩) 7 cp] w (fun e w'=>(∃ l:LetM,e = .returned (.tuple #[.agg l.cells.toArray,.bool (letterV fs).isSome]) ∧ ∀ l',letterV fs = some l' → l' = l) ∧ Kept (fun _=>False) w w'):=by
 refine calls_of_holds (S:=(fun _=>False)) (l:=[.slice (some ⟨g,0,none⟩) 7 cp]) (n:=105) Try.func28 (body_of (by kernel_rfl)) rfl (by simp) (MemOk.none w _) ?_
 have hfl:fs.length = 7:=by have:=hF.len; rw [len_fldV] at this; omega
 have hV:letterV fs = bif ok7 fs then some (letter7 fs) else none:=by unfold letterV; rw [if_pos hfl]
 refine holds_wins [⟨g,13,[sT (tx fs 6)]⟩] (fun _ y hy=>?_) ?_
 ·simp only [List.mem_singleton] at hy
  subst hy
  refine ⟨fun h=>h,hgl,fun j v hj=>?_⟩
  match j,hj with
  | 0,hj=>
   simp only [List.getElem?_cons_zero,Option.some.injEq] at hj
   subst hj
   exact (txs_cell hF (Kept.refl _ _) (d:=6) (L:=1) (by omega) 0 _ rfl).2
  | j + 1,hj=>simp at hj
 refine hgE 39 [oh0,oh0,oh0,oh0,oh0,oh0,oh0,(oA 1 0 26),oh0,(oA 1 3 1),oh0,oh0,oh0,oh0,oh0,⟨false,3,[]⟩,oh0,oh0,oh0,oh0,oh0,oh0] [0,2,3,4,22,26] [fF,fF,fF,fF,fF] [(w.heap.size + 1,0,26),(w.heap.size + 1,3,1)] [.ops [1,1,1,0,0] [5,6],.code [1,1,1,0,1],.code [1,1,1,1]] ⟨[(0,.slice (some ⟨g,0,none⟩) 7 cp),(2,(pt w.heap.size 0)),(3,.bool false),(4,(pt (w.heap.size + 1) 0)),(22,.slice (some ⟨g,0,none⟩) 7 cp),(26,.slice (some ⟨w.heap.size + 2,0,none⟩) 3 3)],[⟨w.heap.size,31,true,(lo7_v1)⟩,⟨w.heap.size + 1,31,true,(lo7_v2)⟩,⟨w.heap.size + 2,89,true,(lo7_v3 w)⟩],[⟨g,13,[sT (tx fs 6)]⟩],w.heap.size + 3⟩ ?_
 obtain ⟨y1,hy1⟩:∃ y,putN (lo7_v2) [0,1,2] ((txs fs 0 3).takeWhile getOk) = LetM.cells y:=isLet_put _ _ ⟨⟨0,0,0,true,zeroQ,zeroS⟩,rfl⟩ (by decide)
 refine holds_callM (.bool (List.all (txs fs 0 3) getOk)) (lo7_b1 y1 w) (show _ = some (50,[.slice (some ⟨g,0,none⟩) 7 cp,.slice (some ⟨w.heap.size + 2,0,none⟩) 3 3],some 27,[]) by kernel_rfl) tI rfl (fun wx hm=>?_) fun z2 hz2=>?_
 ·have h1:=(take_any12 g 0 7 cp (w.heap.size + 2) 3 (w.heap.size + 1) (lo7_v2) [0,1,2] (txs fs 0 3) rfl rfl (by omega) (fun q hq=>(by decide:∀ q ∈ [0,1,2],q < 26) q hq) (by omega) (by omega) (by omega) (txs_size hS 0 3) wx (hm.at_ 1 rfl) (hm.at_ 2 rfl) (txs_cell hF hm.kept (by omega)))
  refine h1.mono fun e w' ⟨h2,h3,h4⟩=>?_
  rw [hy1] at h4
  exact ⟨h2,hm.set1 1 rfl rfl h3 h4⟩
 replace hz2:w.heap.size + 3 ≤ z2:=hz2
 refine hgE 5 [oh0] [0,2,3,4,28] [] [] [.code [1,1,1,0,1],.code [1,1,1,1]] ⟨[(0,.slice (some ⟨g,0,none⟩) 7 cp),(2,(pt w.heap.size 0)),(3,.bool false),(4,(pt (w.heap.size + 1) 0)),(28,.bool (!(List.all (txs fs 0 3) getOk)))],(lo7_b1 y1 w),[⟨g,13,[sT (tx fs 6)]⟩],z2⟩ ?_
 rcases Bool.eq_false_or_eq_true (List.all (txs fs 0 3) getOk) with hB1 | hB1
 rotate_left
 ·skip
  refine hgE 10 lo7_n1 [0,2,3,4] [eD (nT hB1)] [(w.heap.size + 1,0,26),(w.heap.size,0,26)] [.code [1,1,1,0,1,0,1],.code [1,1,1,1]] ⟨[(0,.slice (some ⟨g,0,none⟩) 7 cp),(2,(pt w.heap.size 0)),(3,.bool false),(4,(pt (w.heap.size + 1) 0))],[⟨w.heap.size,31,true,(lo7_v4 y1)⟩,⟨w.heap.size + 1,31,true,(lo7_v4 y1)⟩,⟨w.heap.size + 2,89,true,(lo7_v3 w)⟩],[⟨g,13,[sT (tx fs 6)]⟩],z2⟩ ?_
  refine hrt [[⟨false,0,0,26⟩]] [.agg (List.toArray (lo7_v4 y1)),.bool false] [(w.heap.size,0,26)] ?_
  intro wx hm
  have e:letterV fs = none:=by rw [hV]; unfold ok7; rw [show (txs fs 0 3).all getOk = false from hB1]; rfl
  rw [e]
  exact ⟨⟨y1,rfl,fun _ h=>by cases h⟩,hm.kept⟩
 have e1:y1 = ⟨gv fs 0,gv fs 1,gv fs 2,true,zeroQ,zeroS⟩:=letM_inj (hy1.symm.trans (by rw [tw_all _ hB1]; rfl))
 refine hgE 8 [oh0,oh0] [0,2,3,4,30] [eD (nF hB1)] [] [.ops [1,1,1,1,0] [1,2],.code [1,1,1,1,1]] ⟨[(0,.slice (some ⟨g,0,none⟩) 7 cp),(2,(pt w.heap.size 0)),(3,.bool false),(4,(pt (w.heap.size + 1) 0)),(30,.slice (some ⟨g,0,none⟩) 7 cp)],(lo7_b1 y1 w),[⟨g,13,[sT (tx fs 6)]⟩],z2⟩ ?_
 refine holds_opR (dst:=(some 31)) (x:=Instr.sliceAt 54 (.slice (some ⟨g,0,none⟩) 7 cp) (some (.int .i64 3)) none none) (.slice (some ⟨g,6,none⟩) 4 (cp - 3)) (by kernel_rfl) (by kernel_rfl) rfl (fun wx hm=>?_) ?_
 ·exact run_sliceR (P:=Try.prog) wx 54 60 2 g 7 cp 3 3 rfl (by kernel_rfl) (by kernel_rfl) (by omega) (by omega)
 refine hgE 25 [oh0,oh0,(oA 1 3 1),oh0,oh0,oh0,oh0,oh0,oh0,oh0,oh0,oh0,oh0] [0,2,3,4,74,81] [oE ((!y1.ans) = false) (by rw [show (y1.ans) = true from by rw [e1]]; rfl)] [(w.heap.size + 1,3,1)] [.ops [1,1,1,1,1,1,0,0] [8,9],.code [1,1,1,1,1,1,0,1],.code [1,1,1,1,1,1,1]] ⟨[(0,.slice (some ⟨g,6,none⟩) 4 (cp - 3)),(2,(pt w.heap.size 0)),(3,.bool false),(4,(pt (w.heap.size + 1) 0)),(74,.slice (some ⟨g,6,none⟩) 4 (cp - 3)),(81,.slice (some ⟨z2,0,none⟩) 3 3)],[⟨w.heap.size,31,true,(lo7_v1)⟩,⟨w.heap.size + 1,31,true,(lo7_v4 y1)⟩,⟨w.heap.size + 2,89,true,(lo7_v3 w)⟩,⟨z2,89,true,(lo7_v5 w)⟩],[⟨g,13,[sT (tx fs 6)]⟩],z2 + 1⟩ ?_
 obtain ⟨y2,hy2⟩:∃ y,putN (lo7_v4 y1) [13,14,15] ((txs fs 3 3).takeWhile getOk) = LetM.cells y:=isLet_put _ _ ⟨y1,rfl⟩ (by decide)
 refine holds_callM (.bool (List.all (txs fs 3 3) getOk)) (lo7_b2 y2 w z2) (show _ = some (50,[.slice (some ⟨g,6,none⟩) 4 (cp - 3),.slice (some ⟨z2,0,none⟩) 3 3],some 82,[]) by kernel_rfl) tI rfl (fun wx hm=>?_) fun z9 hz9=>?_
 ·have h1:=(take_any12 g 6 4 (cp - 3) z2 3 (w.heap.size + 1) (lo7_v4 y1) [13,14,15] (txs fs 3 3) rfl rfl (by omega) (fun q hq=>(by decide:∀ q ∈ [13,14,15],q < 26) q hq) (by omega) (by omega) (by omega) (txs_size hS 3 3) wx (hm.at_ 1 rfl) (hm.at_ 3 rfl) (txs_cell hF hm.kept (by omega)))
  refine h1.mono fun e w' ⟨h2,h3,h4⟩=>?_
  rw [hy2] at h4
  exact ⟨h2,hm.set1 1 rfl rfl h3 h4⟩
 replace hz9:z2 + 1 ≤ z9:=hz9
 refine hgE 5 [oh0] [0,2,3,4,83] [] [] [.code [1,1,1,1,1,1,0,1],.code [1,1,1,1,1,1,1]] ⟨[(0,.slice (some ⟨g,6,none⟩) 4 (cp - 3)),(2,(pt w.heap.size 0)),(3,.bool false),(4,(pt (w.heap.size + 1) 0)),(83,.bool (!(List.all (txs fs 3 3) getOk)))],(lo7_b2 y2 w z2),[⟨g,13,[sT (tx fs 6)]⟩],z9⟩ ?_
 rcases Bool.eq_false_or_eq_true (List.all (txs fs 3 3) getOk) with hB2 | hB2
 rotate_left
 ·skip
  refine hgE 10 lo7_n1 [0,2,3,4] [eD (nT hB2)] [(w.heap.size + 1,0,26),(w.heap.size,0,26)] [.code [1,1,1,1,1,1,0,1,0,1],.code [1,1,1,1,1,1,1]] ⟨[(0,.slice (some ⟨g,6,none⟩) 4 (cp - 3)),(2,(pt w.heap.size 0)),(3,.bool false),(4,(pt (w.heap.size + 1) 0))],(lo7_b3 y2 w z2),[⟨g,13,[sT (tx fs 6)]⟩],z9⟩ ?_
  refine hrt [[⟨false,0,0,26⟩]] [.agg (List.toArray (lo7_v6 y2)),.bool false] [(w.heap.size,0,26)] ?_
  intro wx hm
  have e:letterV fs = none:=by rw [hV]; unfold ok7; rw [show (txs fs 0 3).all getOk = true from hB1,show (txs fs 3 3).all getOk = false from hB2]; rfl
  rw [e]
  exact ⟨⟨y2,rfl,fun _ h=>by cases h⟩,hm.kept⟩
 have e2:y2 = ⟨gv fs 0,gv fs 1,gv fs 2,true,zeroQ,⟨gv fs 3,gv fs 4,gv fs 5,blankR 0⟩⟩:=letM_inj (hy2.symm.trans (by rw [tw_all _ hB2,e1]; rfl))
 refine hgE 14 [oh0,oh0,oh2,oh0,⟨false,0,[⟨true,0,0,1⟩]⟩,oh0] [0,2,3,4,89] [eD (nF hB2),oE ((0:Int) ≤ 3 ∧ 3 < ((4:Nat):Int))] [(g,13,1)] [.code [1,1,1,1,1,1,1,0,1],.code [1,1,1,1,1,1,1,1]] ⟨[(0,.slice (some ⟨g,6,none⟩) 4 (cp - 3)),(2,(pt w.heap.size 0)),(3,.bool false),(4,(pt (w.heap.size + 1) 0)),(89,.bool (ByteArray.toList (tx fs 6) == ByteArray.toList ⟨#[]⟩))],(lo7_b2 y2 w z2),[⟨g,13,[sT (tx fs 6)]⟩],z9⟩ ?_
 by_cases h6:(tx fs 6).size = 0
 ·skip
  refine hgE 10 lo7_n1 [0,2,3,4] [oE ((ByteArray.toList (tx fs 6) == ByteArray.toList ⟨#[]⟩) = true) (by rw [empty_text]; exact decide_eq_true h6)] [(w.heap.size + 1,0,26),(w.heap.size,0,26)] [.code [1,1,1,1,1,1,1,0,1,0,1],.code [1,1,1,1,1,1,1,1]] ⟨[(0,.slice (some ⟨g,6,none⟩) 4 (cp - 3)),(2,(pt w.heap.size 0)),(3,.bool true),(4,(pt (w.heap.size + 1) 0))],(lo7_b3 y2 w z2),[⟨g,13,[sT (tx fs 6)]⟩],z9⟩ ?_
  refine hrt [[⟨false,0,0,26⟩]] [.agg (List.toArray (lo7_v6 y2)),.bool true] [(w.heap.size,0,26)] ?_
  intro wx hm
  have e:letterV fs = some (letter7 fs):=by rw [hV]; unfold ok7; rw [show (txs fs 0 3).all getOk = true from hB1,show (txs fs 3 3).all getOk = true from hB2,decide_eq_true h6]; rfl
  rw [e]
  exact ⟨⟨y2,rfl,fun l' hl=>by
   simp only [Option.some.injEq] at hl
   rw [← hl,e2]
   unfold letter7 rc7
   rw [decide_eq_true h6]
   rfl⟩,hm.kept⟩
 obtain ⟨u,hu⟩:∃ u,unpackR 0 (tx fs 6) = u:=⟨_,rfl⟩
 refine hgE 11 [oh0,oh0,oh2,oh0,⟨false,0,[⟨true,0,0,1⟩]⟩] [2,3,4,95] [oE ((ByteArray.toList (tx fs 6) == ByteArray.toList ⟨#[]⟩) = false) (by rw [empty_text]; exact decide_eq_false h6),oE ((0:Int) ≤ 3 ∧ 3 < ((4:Nat):Int))] [(g,13,1)] [.ops [1,1,1,1,1,1,1,1,0] [4,5,6,7,8,9,10],.code [1,1,1,1,1,1,1,1,1]] ⟨[(2,(pt w.heap.size 0)),(3,.bool false),(4,(pt (w.heap.size + 1) 0)),(95,sT (tx fs 6))],(lo7_b2 y2 w z2),[⟨g,13,[sT (tx fs 6)]⟩],z9⟩ ?_
 refine hcp (.tuple #[.agg (List.toArray (lo7_v7 u)),i6 (unpackE 0 (tx fs 6))]) 51 [i6 0,sT (tx fs 6)] (some 96) [] tI rfl (fun wx hm=>by have h:=unpack_any 0 (tx fs 6) wx; rw [hu] at h; exact h) fun z17 hz17=>?_
 replace hz17:z9 ≤ z17:=hz17
 refine hgE 25 [oh0,oh0,oh0,oh0,(oA 4 0 10),oh0,(oA 4 0 10),oh0,oh0,(oA 1 16 10),(oA 1 0 26),oh0,oh0,(oA 0 0 26),oh0] [2,3] [] [(z17,0,10),(z17,0,10),(w.heap.size + 1,16,10),(w.heap.size + 1,0,26),(w.heap.size,0,26)] [.code [1,1,1,1,1,1,1,1,1,1,1]] ⟨[(2,(pt w.heap.size 0)),(3,.bool ((unpackE 0 (tx fs 6)) == 0))],[⟨w.heap.size,31,true,(lo7_v8 y2 u)⟩,⟨w.heap.size + 1,31,true,(lo7_v8 y2 u)⟩,⟨w.heap.size + 2,89,true,(lo7_v3 w)⟩,⟨z2,89,true,(lo7_v5 w)⟩,⟨z17,27,true,(lo7_v7 u)⟩],[⟨g,13,[sT (tx fs 6)]⟩],z17 + 1⟩ ?_
 refine hrt [[⟨false,0,0,26⟩]] [.agg (List.toArray (lo7_v8 y2 u)),.bool ((unpackE 0 (tx fs 6)) == 0)] [(w.heap.size,0,26)] ?_
 intro wx hm
 have e:letterV fs = bif (unpackE 0 (tx fs 6) == 0) then some (letter7 fs) else none:=by rw [hV]; unfold ok7; rw [show (txs fs 0 3).all getOk = true from hB1,show (txs fs 3 3).all getOk = true from hB2,decide_eq_false h6]; rfl
 refine ⟨⟨⟨y2.fr,y2.dst,y2.id,y2.ans,y2.ask,⟨y2.say.st,y2.say.ep,y2.say.ou,u⟩⟩,?_,fun l' hl=>?_⟩,hm.kept⟩
 ·rw [e]
  cases h:(unpackE 0 (tx fs 6) == 0)
  all_goals (show _ = Ending.returned (.tuple #[_,_]); first | rfl | (rw [← h]; rfl))
 ·rw [e] at hl
  cases h:(unpackE 0 (tx fs 6) == 0) with
  | false=>rw [h] at hl; cases hl
  | true=>
   rw [h] at hl
   have hl2:letter7 fs = l':=by simpa using hl
   rw [← hl2,e2]
   unfold letter7 rc7
   rw [decide_eq_false h6,hu]
   rfl
def lo12_v1:List Value:=lo7_v1
def lo12_v2 (fs:List FldM) (y1:LetM):List Value:=((lo7_v4 y1).set 12 (sT (tx fs 11)))
def lo12_v3 (w:World):List Value:=(lo7_v3 w)
def lo12_v4 (y2:LetM):List Value:=(lo7_v6 y2)
def lo12_v5 (w:World):List Value:=[(pt (w.heap.size + 1) 4),(pt (w.heap.size + 1) 5),(pt (w.heap.size + 1) 6),(pt (w.heap.size + 1) 7),(pt (w.heap.size + 1) 8),(pt (w.heap.size + 1) 9),(pt (w.heap.size + 1) 10),(pt (w.heap.size + 1) 11)]
def lo12_v6 (y1:LetM):List Value:=(lo7_v4 y1)
def lo12_n1:List Nat:=[1,1,1,1,1,0,1,0,1,1,0]
@[simp] def lo12_b1 (fs:List FldM) (y1:LetM) (w:World):List Bk:=[⟨w.heap.size,31,true,(lo12_v1)⟩,⟨w.heap.size + 1,31,true,(lo12_v2 fs y1)⟩,⟨w.heap.size + 2,89,true,(lo12_v3 w)⟩]
@[simp] def lo12_b2 (y2:LetM) (w:World):List Bk:=[⟨w.heap.size,31,true,(lo12_v1)⟩,⟨w.heap.size + 1,31,true,(lo12_v4 y2)⟩,⟨w.heap.size + 2,89,true,(lo12_v3 w)⟩]
@[simp] def lo12_b3 (y1:LetM) (w:World):List Bk:=[⟨w.heap.size,31,true,(lo12_v1)⟩,⟨w.heap.size + 1,31,true,(lo12_v6 y1)⟩,⟨w.heap.size + 2,89,true,(lo12_v3 w)⟩]
def lo12_g9s (g:Nat) (cp:Nat) (w:World):List (Nat × Value):=[(0,.slice (some ⟨g,6,none⟩) 9 (cp - 3)),(2,(pt w.heap.size 0)),(3,.bool false),(4,(pt (w.heap.size + 1) 0)),(5,(pt (w.heap.size + 1) 4))]
def lo12_g9v (g:Nat) (cp:Nat) (fs:List FldM) (w:World):List (Option Value):=[some (.slice (some ⟨g,6,none⟩) 9 (cp - 3)),some ((pt (w.heap.size + 1) 4)),some ((pt (w.heap.size + 1) 4)),some ((pt (w.heap.size + 1) 4)),some ((pt (w.heap.size + 1) 4)),some ((pt (w.heap.size + 1) 4)),some ((pt (w.heap.size + 1) 5)),some ((pt (w.heap.size + 1) 4)),some ((pt (w.heap.size + 1) 4)),some ((pt (w.heap.size + 1) 6)),some ((pt (w.heap.size + 1) 4)),some ((pt (w.heap.size + 1) 4)),some ((pt (w.heap.size + 1) 7)),some ((pt (w.heap.size + 1) 4)),some ((pt (w.heap.size + 1) 4)),some ((pt (w.heap.size + 1) 8)),some ((pt (w.heap.size + 1) 4)),some ((pt (w.heap.size + 1) 4)),some ((pt (w.heap.size + 1) 9)),some ((pt (w.heap.size + 1) 4)),some ((pt (w.heap.size + 1) 4)),some ((pt (w.heap.size + 1) 10)),some ((pt (w.heap.size + 1) 10)),some ((pt (w.heap.size + 1) 4)),some ((pt (w.heap.size + 1) 4)),some ((pt (w.heap.size + 1) 10)),some ((pt (w.heap.size + 1) 11)),none,some (.bool (List.all (txs fs 3 8) getOk)),some (.bool (List.all (txs fs 3 8) getOk))]
def lo12_g9m (fs:List FldM) (y1:LetM) (y2:LetM) (w:World):List (List Bk):=[(lo12_b1 fs y1 w),(lo12_b2 y2 w)]
def lo12_g9t:List (Option Nat):=[none,none,none,none,none,none,none,none,none,none,none,none,none,none,none,none,none,none,none,none,none,none,none,none,none,none,none,none,some 0,none]
def lo12_g9C (g:Nat) (cp:Nat) (fs:List FldM) (y1:LetM) (y2:LetM) (w:World) (z2:Nat) (i_:Nat):Prop:=CertG (wpOp Try.prog (opsOf (getCode (bodyOf Try.f28) lo12_n1)) (sem Try.prog (bodyOf Try.f28) (bodyPost Try.prog Try.f28 (fun e w'=>(∃ l:LetM,e = .returned (.tuple #[.agg l.cells.toArray,.bool (letterV fs).isSome]) ∧ ∀ l',letterV fs = some l' → l' = l) ∧ Kept (fun _=>False) w w')) [.code [1,1,1,1,1,0,1,0,1,1,1],.code [1,1,1,1,1,1]])) [] 105 (opsOf (getCode (bodyOf Try.f28) lo12_n1)) (slI (opsOf (getCode (bodyOf Try.f28) lo12_n1)) (lo12_g9s g cp w) i_) (lo12_g9t) 1 (MG w (fun _=>False) (lo12_g9m fs y1 y2 w) [⟨g,23,[sT (tx fs 11)]⟩] z2) (Turned (lo12_b1 fs y1 w)) (PvG (lo12_g9v g cp fs w) (CBlk 27 z2 89 8 (lo12_v5 w))) i_
set_option maxRecDepth 100000 in
set_option maxHeartbeats 4000000 in
theorem letterOf_12 (g cp b0:Nat) (fs:List FldM) (hgc:12 ≤ cp) (w:World) (hgl:g < w.heap.size) (hF:OwnR w b0 60 2 (some ⟨g,0,none⟩) 12 cp (fldV fs)) (hS:∀ f ∈ fs,f.text.size ≤ 9223372036854775807) :
  Calls Try.prog 28 #[.slice (some ⟨g,0,none⟩) 12 cp] w (fun e w'=>(∃ l:LetM,e = .returned (.tuple #[.agg l.cells.toArray,.bool (letterV fs).isSome]) ∧ ∀ l',letterV fs = some l' → l' = l) ∧ Kept (fun _=>False) w w'):=by
 refine calls_of_holds (S:=(fun _=>False)) (l:=[.slice (some ⟨g,0,none⟩) 12 cp]) (n:=105) Try.func28 (body_of (by kernel_rfl)) rfl (by simp) (MemOk.none w _) ?_
 have hfl:fs.length = 12:=by have:=hF.len; rw [len_fldV] at this; omega
 have hV:letterV fs = bif ok12 fs then some (letter12 fs) else none:=by unfold letterV; rw [if_neg (by omega),if_pos hfl]
 refine holds_wins [⟨g,23,[sT (tx fs 11)]⟩] (fun _ y hy=>?_) ?_
 ·simp only [List.mem_singleton] at hy
  subst hy
  refine ⟨fun h=>h,hgl,fun j v hj=>?_⟩
  match j,hj with
  | 0,hj=>
   simp only [List.getElem?_cons_zero,Option.some.injEq] at hj
   subst hj
   exact (txs_cell hF (Kept.refl _ _) (d:=11) (L:=1) (by omega) 0 _ rfl).2
  | j + 1,hj=>simp at hj
 refine hgE 39 [oh0,oh0,oh0,oh0,oh0,oh0,oh0,(oA 1 0 26),oh0,(oA 1 3 1),oh0,oh0,oh1,oh1,oh1,oh3,oh0,oh0,oh0,oh0,oh0,oh0] [0,2,3,4,22,26] [tT,tT,tT,tT,fF] [(w.heap.size + 1,0,26),(w.heap.size + 1,3,1)] [.ops [1,1,1,0,0] [5,6],.code [1,1,1,0,1],.code [1,1,1,1]] ⟨[(0,.slice (some ⟨g,0,none⟩) 12 cp),(2,(pt w.heap.size 0)),(3,.bool false),(4,(pt (w.heap.size + 1) 0)),(22,.slice (some ⟨g,0,none⟩) 12 cp),(26,.slice (some ⟨w.heap.size + 2,0,none⟩) 3 3)],[⟨w.heap.size,31,true,(lo12_v1)⟩,⟨w.heap.size + 1,31,true,(lo12_v1)⟩,⟨w.heap.size + 2,89,true,(lo12_v3 w)⟩],[⟨g,23,[sT (tx fs 11)]⟩],w.heap.size + 3⟩ ?_
 obtain ⟨y1,hy1⟩:∃ y,putN (lo12_v1) [0,1,2] ((txs fs 0 3).takeWhile getOk) = LetM.cells y:=isLet_put _ _ ⟨⟨0,0,0,false,zeroQ,zeroS⟩,rfl⟩ (by decide)
 refine holds_callM (.bool (List.all (txs fs 0 3) getOk)) (lo12_b3 y1 w) (show _ = some (50,[.slice (some ⟨g,0,none⟩) 12 cp,.slice (some ⟨w.heap.size + 2,0,none⟩) 3 3],some 27,[]) by kernel_rfl) tI rfl (fun wx hm=>?_) fun z2 hz2=>?_
 ·have h1:=(take_any12 g 0 12 cp (w.heap.size + 2) 3 (w.heap.size + 1) (lo12_v1) [0,1,2] (txs fs 0 3) rfl rfl (by omega) (fun q hq=>(by decide:∀ q ∈ [0,1,2],q < 26) q hq) (by omega) (by omega) (by omega) (txs_size hS 0 3) wx (hm.at_ 1 rfl) (hm.at_ 2 rfl) (txs_cell hF hm.kept (by omega)))
  refine h1.mono fun e w' ⟨h2,h3,h4⟩=>?_
  rw [hy1] at h4
  exact ⟨h2,hm.set1 1 rfl rfl h3 h4⟩
 replace hz2:w.heap.size + 3 ≤ z2:=hz2
 refine hgE 5 [oh0] [0,2,3,4,28] [] [] [.code [1,1,1,0,1],.code [1,1,1,1]] ⟨[(0,.slice (some ⟨g,0,none⟩) 12 cp),(2,(pt w.heap.size 0)),(3,.bool false),(4,(pt (w.heap.size + 1) 0)),(28,.bool (!(List.all (txs fs 0 3) getOk)))],(lo12_b3 y1 w),[⟨g,23,[sT (tx fs 11)]⟩],z2⟩ ?_
 rcases Bool.eq_false_or_eq_true (List.all (txs fs 0 3) getOk) with hB1 | hB1
 rotate_left
 ·skip
  refine hgE 10 [oh1,(oA 1 0 26),(oA 0 0 26),oh0] [0,2,3,4] [eD (nT hB1)] [(w.heap.size + 1,0,26),(w.heap.size,0,26)] [.code [1,1,1,0,1,0,1],.code [1,1,1,1]] ⟨[(0,.slice (some ⟨g,0,none⟩) 12 cp),(2,(pt w.heap.size 0)),(3,.bool false),(4,(pt (w.heap.size + 1) 0))],[⟨w.heap.size,31,true,(lo12_v6 y1)⟩,⟨w.heap.size + 1,31,true,(lo12_v6 y1)⟩,⟨w.heap.size + 2,89,true,(lo12_v3 w)⟩],[⟨g,23,[sT (tx fs 11)]⟩],z2⟩ ?_
  refine hrt [[⟨false,0,0,26⟩]] [.agg (List.toArray (lo12_v6 y1)),.bool false] [(w.heap.size,0,26)] ?_
  intro wx hm
  have e:letterV fs = none:=by rw [hV]; unfold ok12; rw [show (txs fs 0 3).all getOk = false from hB1]; rfl
  rw [e]
  exact ⟨⟨y1,rfl,fun _ h=>by cases h⟩,hm.kept⟩
 have e1:y1 = ⟨gv fs 0,gv fs 1,gv fs 2,false,zeroQ,zeroS⟩:=letM_inj (hy1.symm.trans (by rw [tw_all _ hB1]; rfl))
 refine hgE 8 [oh0,oh0] [0,2,3,4,30] [eD (nF hB1)] [] [.ops [1,1,1,1,0] [1,2],.code [1,1,1,1,1]] ⟨[(0,.slice (some ⟨g,0,none⟩) 12 cp),(2,(pt w.heap.size 0)),(3,.bool false),(4,(pt (w.heap.size + 1) 0)),(30,.slice (some ⟨g,0,none⟩) 12 cp)],(lo12_b3 y1 w),[⟨g,23,[sT (tx fs 11)]⟩],z2⟩ ?_
 refine holds_opR (dst:=(some 31)) (x:=Instr.sliceAt 54 (.slice (some ⟨g,0,none⟩) 12 cp) (some (.int .i64 3)) none none) (.slice (some ⟨g,6,none⟩) 9 (cp - 3)) (by kernel_rfl) (by kernel_rfl) rfl (fun wx hm=>?_) ?_
 ·exact run_sliceR (P:=Try.prog) wx 54 60 2 g 12 cp 3 3 rfl (by kernel_rfl) (by kernel_rfl) (by omega) (by omega)
 refine hgE 30 [oh0,oh0,(oA 1 3 1),oh0,oh1,oh0,oh0,oh0,oh0,oh2,oh0,⟨false,0,[⟨true,0,0,1⟩]⟩,oh0,oh0,(oA 1 12 1)] [0,2,3,4,5] [oE ((!y1.ans) = true) (by rw [show (y1.ans) = false from by rw [e1]]; rfl),oE ((0:Int) ≤ 8 ∧ 8 < ((9:Nat):Int))] [(w.heap.size + 1,3,1),(g,23,1),(w.heap.size + 1,12,1)] [.code lo12_n1,.code [1,1,1,1,1,0,1,0,1,1,1],.code [1,1,1,1,1,1]] ⟨[(0,.slice (some ⟨g,6,none⟩) 9 (cp - 3)),(2,(pt w.heap.size 0)),(3,.bool false),(4,(pt (w.heap.size + 1) 0)),(5,(pt (w.heap.size + 1) 4))],(lo12_b1 fs y1 w),[⟨g,23,[sT (tx fs 11)]⟩],z2⟩ ?_
 obtain ⟨y2,hy2⟩:∃ y,putN (lo12_v2 fs y1) [4,5,6,7,8,9,10,11] ((txs fs 3 8).takeWhile getOk) = LetM.cells y:=isLet_put _ _ ⟨⟨y1.fr,y1.dst,y1.id,y1.ans,{ y1.ask with block:=tx fs 11 },y1.say⟩,rfl⟩ (by decide)
 have lo12_g9_c27:lo12_g9C g cp fs y1 y2 w z2 27:=cert_newV (h:=oh0) (ob:=[]) (rs:=[]) (t:=89) (L:=8) (l:=(lo12_v5 w)) (by kernel_rfl) (by kernel_rfl) (by kernel_rfl) (fun sz=>by kernel_rfl) trivial
 have lo12_g9_c28:lo12_g9C g cp fs y1 y2 w z2 28:=cert_callG (by
   intro j a_ wx hj hjs hf hk_ hm
   obtain ⟨rfl,_⟩:=hjs 0 (by kernel_rfl)
   obtain ⟨bk_,hb_,hz_,hM_⟩:=hm
   have hb':some (lo12_b1 fs y1 w) = some bk_:=hb_
   cases hb'
   obtain ⟨v,hv1,hv2⟩:=hk_ 27 (List.mem_of_getElem? (i:=1) (by kernel_rfl)) 70 (by kernel_rfl)
   have hv3:CBlk 27 z2 89 8 (lo12_v5 w) 27 v wx:=hv2
   obtain ⟨_,gp,hgp,rfl,hB⟩:=hv3
   refine ⟨(70,.slice (some ⟨gp,0,none⟩) 8 8) :: slG (opsOf (getCode (bodyOf Try.f28) lo12_n1)) (lo12_g9v g cp fs w) (slI (opsOf (getCode (bodyOf Try.f28) lo12_n1)) (lo12_g9s g cp w) 28) (needsOf (opsOf (getCode (bodyOf Try.f28) lo12_n1)) 28),50,[.slice (some ⟨g,6,none⟩) 9 (cp - 3),.slice (some ⟨gp,0,none⟩) 8 8],[],slot_more hf hv1,(by kernel_rfl),trivial,?_⟩
   have h1:=(take_any12 g 6 9 (cp - 3) gp 8 (w.heap.size + 1) (lo12_v2 fs y1) [4,5,6,7,8,9,10,11] (txs fs 3 8) rfl rfl (by omega) (fun q hq=>(by decide:∀ q ∈ [4,5,6,7,8,9,10,11],q < 26) q hq) (by omega) (by have:=hM_.at_ 1 rfl; have h9:=this.lt; have hzz:=(show w.heap.size + 1 < z2 by omega); omega) (by omega) (txs_size hS 3 8) wx (hM_.at_ 1 rfl) hB (txs_cell hF hM_.kept (by omega)))
   refine h1.mono fun e w' ⟨h2,h3,h4⟩=>?_
   rw [hy2] at h4
   have h5:=hM_.set1 1 (b:=⟨w.heap.size + 1,31,true,_⟩) (cs:=LetM.cells y2) rfl rfl h3 h4
   exact ⟨h2,(show _ = _ from rfl),h3.mono (fun k _ e=>⟨⟨w.heap.size + 1,31,true,(lo12_v2 fs y1)⟩,List.mem_of_getElem? (i:=1) (by kernel_rfl),rfl,e.symm⟩),_,(by kernel_rfl),Nat.le_trans hz_ h5.1,h5.2⟩)
 have lo12_g9_R:∀ e_ ∈ (rZs [0,1,2,3,4,5,6,7,8,9,10,11,12,13,14,15,16,17,18,19,20,21,22,23,24,25,26,29]:List RegE),lo12_g9C g cp fs y1 y2 w z2 e_.i:=certs_reg (by kernel_rfl) _ (fun sz=>by kernel_rfl)
 refine holds_mixG (vs:=(lo12_g9v g cp fs w)) (ms:=(lo12_g9m fs y1 y2 w)) (stg:=(lo12_g9t)) (J:=1) (sl':=[(0,.slice (some ⟨g,6,none⟩) 9 (cp - 3)),(2,(pt w.heap.size 0)),(3,.bool false),(4,(pt (w.heap.size + 1) 0)),(6,.bool (List.all (txs fs 3 8) getOk))]) (bk':=(lo12_b2 y2 w)) (CBlk 27 z2 89 8 (lo12_v5 w)) [0,2,3,4,6] (by kernel_rfl) (by kernel_rfl) (by kernel_rfl) (cblk_stable (by intro b hb; simp at hb; rcases hb with rfl | rfl | rfl <;> (simp; try omega))) (certs_mix lo12_g9_R [27,28] ⟨lo12_g9_c27,lo12_g9_c28,tI⟩ (by kernel_rfl)) (by kernel_rfl) (by kernel_rfl) (by kernel_rfl) (fun z9 hz9=>?_)
 replace hz9:z2 ≤ z9:=hz9
 refine hgE 10 [(oA 1 0 26),oh0,(oA 0 0 26),oh0] [0,2,3,4] [] [(w.heap.size + 1,0,26),(w.heap.size,0,26)] [.code [1,1,1,1,1,0,1,0,1,1,1,1],.code [1,1,1,1,1,1]] ⟨[(0,.slice (some ⟨g,6,none⟩) 9 (cp - 3)),(2,(pt w.heap.size 0)),(3,.bool (List.all (txs fs 3 8) getOk)),(4,(pt (w.heap.size + 1) 0))],[⟨w.heap.size,31,true,(lo12_v4 y2)⟩,⟨w.heap.size + 1,31,true,(lo12_v4 y2)⟩,⟨w.heap.size + 2,89,true,(lo12_v3 w)⟩],[⟨g,23,[sT (tx fs 11)]⟩],z9⟩ ?_
 refine hrt [[⟨false,0,0,26⟩]] [.agg (List.toArray (lo12_v4 y2)),.bool (List.all (txs fs 3 8) getOk)] [(w.heap.size,0,26)] ?_
 intro wx hm
 have e:letterV fs = bif (List.all (txs fs 3 8) getOk) then some (letter12 fs) else none:=by rw [hV]; unfold ok12; rw [show (txs fs 0 3).all getOk = true from hB1]; rfl
 refine ⟨⟨y2,?_,fun l' hl=>?_⟩,hm.kept⟩
 ·rw [e]
  cases h:(List.all (txs fs 3 8) getOk)
  all_goals (show _ = Ending.returned (.tuple #[_,_]); first | rfl | (rw [← h]; rfl))
 ·rw [e] at hl
  cases h:(List.all (txs fs 3 8) getOk) with
  | false=>rw [h] at hl; cases hl
  | true=>
   rw [h] at hl
   have hl2:letter12 fs = l':=by simpa using hl
   have e2:y2 = letter12 fs:=letM_inj (hy2.symm.trans (by rw [tw_all _ h,e1]; rfl))
   rw [← hl2,e2]
end Go.Proofs.Ytkffgdfbdmgncaa
