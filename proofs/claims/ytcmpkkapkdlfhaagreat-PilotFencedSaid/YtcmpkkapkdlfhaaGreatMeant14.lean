import Derived.Test.YtcmpkkapkdlfhaaGreatLib17
import Derived.Laws.OwnMore
namespace Go.Proofs.YtcmpkkapkdlfhaaGreat
open Go.RowKit
set_option maxHeartbeats 4000000
set_option maxRecDepth 100000
theorem onesV_app (a b:List OneM):onesV a ++ onesV b = onesV (a ++ b):=by simp [onesV]
theorem onesV_one (l:List OneM):∀ u ∈ onesV l,u.oneCell' = true:=by
 intro u hu
 simp only [onesV,List.mem_flatten,List.mem_map] at hu
 obtain ⟨_,⟨o,_,rfl⟩,hu⟩:=hu
 simp only [OneM.cells,List.mem_cons,List.not_mem_nil,or_false] at hu
 rcases hu with rfl | rfl | rfl | rfl | rfl | rfl | rfl | rfl | rfl | rfl | rfl | rfl | rfl <;> rfl
def dela_n1:Array Bool:=(bA 8 0)
def dela_n2:Array Bool:=(bA 8 27)
def dela_n3:Array Bool:=(bA 8 63)
section
variable (g n cp i:Nat) (w:World) (z3:Nat)
def dela_Q (base:Nat) (l:List OneM) (w:World):Exit → Act → World → Prop:=bodyPost Tryz.prog Tryz.f73 (fun e w'=>e = .returned (.slice (some ⟨g,0,none⟩) (n - 1) cp) ∧ OwnR w' base 141 13 (some ⟨g,0,none⟩) (n - 1) cp (onesV (l.eraseIdx i)) ∧ Kept (fun x=>x = g) w w')
theorem dela_t2:tailP [0,6,7,20,21,23,24] (tailX Tryz.prog 33 (opsOf (getCode (bodyOf Tryz.f73) [1,1,1,1,0])) 8 dela_n1 ⟨[(0,.slice (some ⟨g,0,none⟩) n cp),(1,i6 (i:Int)),(2,i6 ((i:Int) + 1)),(6,.slice none 0 0),(7,i6 (n:Int))],[],[],w.heap.size⟩ [(0,true,oh0),(1,true,oh0),(3,true,oh0),(4,true,oh0)]) = some (⟨[],dupR [],⟨[(0,.slice (some ⟨g,0,none⟩) n cp),(6,.slice none 0 0),(7,i6 (n:Int)),(20,.slice (some ⟨g,0,none⟩) n cp),(21,i6 (i:Int)),(23,.slice (some ⟨g,0,none⟩) n cp),(24,i6 ((i:Int) + 1))],[],[],w.heap.size⟩⟩,4,dela_n2):=by kernel_rfl
theorem dela_e4:Out.prune [0,6,7,22,25] (opStep Tryz.prog 33 (opsOf (getCode (bodyOf Tryz.f73) [1,1,1,1,0])) ⟨[(0,.slice (some ⟨g,0,none⟩) n cp),(6,.slice none 0 0),(7,i6 (n:Int)),(22,.slice (some ⟨g,0,none⟩) i cp),(23,.slice (some ⟨g,0,none⟩) n cp),(24,i6 ((i:Int) + 1))],[],[],z3⟩ 5 oh3) = some ⟨[((0:Int) ≤ ((i:Int) + 1) ∧ ((i:Int) + 1) ≤ ((n:Nat):Int)) ∧ True],dupR [],⟨[(0,.slice (some ⟨g,0,none⟩) n cp),(6,.slice none 0 0),(7,i6 (n:Int)),(22,.slice (some ⟨g,0,none⟩) i cp),(25,.slice (some ⟨g,(bif Nat.beq cp (i + 1) then 0 else 0 + (i + 1) * 13),none⟩) (n - (i + 1)) (cp - (i + 1)))],[],[],z3⟩⟩:=by kernel_rfl
theorem dela_e5:Out.prune [0,6,7,22,25] (opStep Tryz.prog 33 (opsOf (getCode (bodyOf Tryz.f73) [1,1,1,1,0])) ⟨[(0,.slice (some ⟨g,0,none⟩) n cp),(6,.slice none 0 0),(7,i6 (n:Int)),(20,.slice (some ⟨g,0,none⟩) n cp),(21,i6 (i:Int)),(25,.slice (some ⟨g,(bif Nat.beq cp (i + 1) then 0 else 0 + (i + 1) * 13),none⟩) (n - (i + 1)) (cp - (i + 1)))],[],[],z3⟩ 2 oh2) = some ⟨[(0:Int) ≤ (i:Int) ∧ (i:Int) ≤ ((cp:Nat):Int)],dupR [],⟨[(0,.slice (some ⟨g,0,none⟩) n cp),(6,.slice none 0 0),(7,i6 (n:Int)),(22,.slice (some ⟨g,0,none⟩) i cp),(25,.slice (some ⟨g,(bif Nat.beq cp (i + 1) then 0 else 0 + (i + 1) * 13),none⟩) (n - (i + 1)) (cp - (i + 1)))],[],[],z3⟩⟩:=by kernel_rfl
theorem dela_e6:Out.prune [0,6,7,22,23,24] (opStep Tryz.prog 33 (opsOf (getCode (bodyOf Tryz.f73) [1,1,1,1,0])) ⟨[(0,.slice (some ⟨g,0,none⟩) n cp),(6,.slice none 0 0),(7,i6 (n:Int)),(20,.slice (some ⟨g,0,none⟩) n cp),(21,i6 (i:Int)),(23,.slice (some ⟨g,0,none⟩) n cp),(24,i6 ((i:Int) + 1))],[],[],z3⟩ 2 oh2) = some ⟨[(0:Int) ≤ (i:Int) ∧ (i:Int) ≤ ((cp:Nat):Int)],dupR [],⟨[(0,.slice (some ⟨g,0,none⟩) n cp),(6,.slice none 0 0),(7,i6 (n:Int)),(22,.slice (some ⟨g,0,none⟩) i cp),(23,.slice (some ⟨g,0,none⟩) n cp),(24,i6 ((i:Int) + 1))],[],[],z3⟩⟩:=by kernel_rfl
theorem dela_e7:Out.prune [0,6,7,20,21,25] (opStep Tryz.prog 33 (opsOf (getCode (bodyOf Tryz.f73) [1,1,1,1,0])) ⟨[(0,.slice (some ⟨g,0,none⟩) n cp),(6,.slice none 0 0),(7,i6 (n:Int)),(20,.slice (some ⟨g,0,none⟩) n cp),(21,i6 (i:Int)),(23,.slice (some ⟨g,0,none⟩) n cp),(24,i6 ((i:Int) + 1))],[],[],z3⟩ 5 oh3) = some ⟨[((0:Int) ≤ ((i:Int) + 1) ∧ ((i:Int) + 1) ≤ ((n:Nat):Int)) ∧ True],dupR [],⟨[(0,.slice (some ⟨g,0,none⟩) n cp),(6,.slice none 0 0),(7,i6 (n:Int)),(20,.slice (some ⟨g,0,none⟩) n cp),(21,i6 (i:Int)),(25,.slice (some ⟨g,(bif Nat.beq cp (i + 1) then 0 else 0 + (i + 1) * 13),none⟩) (n - (i + 1)) (cp - (i + 1)))],[],[],z3⟩⟩:=by kernel_rfl
theorem dela_t9 (W3:World):tailP [0,6,7] (tailX Tryz.prog 33 (opsOf (getCode (bodyOf Tryz.f73) [1,1,1,1,0])) 1 (bA 8 127) ⟨[(26,.slice (some ⟨g,0,none⟩) (n - 1) cp),(0,.slice (some ⟨g,0,none⟩) n cp),(6,.slice none 0 0),(7,i6 (n:Int)),(22,.slice (some ⟨g,0,none⟩) i cp),(25,.slice (some ⟨g,(bif Nat.beq cp (i + 1) then 0 else 0 + (i + 1) * 13),none⟩) (n - (i + 1)) (cp - (i + 1)))],[],[],W3.heap.size⟩ [(7,false,oh0)]) = some (⟨[],dupR [],⟨[(0,.slice (some ⟨g,0,none⟩) (n - 1) cp),(6,.slice none 0 0),(7,i6 (n:Int))],[],[],W3.heap.size⟩⟩,0,(bA 8 255)):=by kernel_rfl
end
theorem delete_any (g n cp i base:Nat) (l:List OneM) (hl:l.length = n) (hi:i < n) (hn:n ≤ 64) (w:World) (hO:OwnR w base 141 13 (some ⟨g,0,none⟩) n cp (onesV l)) :
  Calls Tryz.prog 73 #[.slice (some ⟨g,0,none⟩) n cp,i6 (i:Int),i6 ((i:Int) + 1)] w (fun e w'=>e = .returned (.slice (some ⟨g,0,none⟩) (n - 1) cp) ∧ OwnR w' base 141 13 (some ⟨g,0,none⟩) (n - 1) cp (onesV (l.eraseIdx i)) ∧ Kept (fun x=>x = g) w w'):=by
 refine cH (S:=(fun _=>False)) (n:=33) Tryz.func73 (MemOk.none w _) ?_
 obtain ⟨r,hB,hnc,hcm,hrl⟩:∃ r,Blk w g 141 (onesV l ++ r) ∧ n ≤ cp ∧ cp ≤ maxLen ∧ (onesV l ++ r).length = cp * 13:=by
  rcases hO.blk with ⟨h,_⟩ | ⟨g',r,h,_,h2,h3,h4,h5⟩
  ·cases h
  ·cases h
   exact ⟨r,h2,h3,h4,h5⟩
 refine hgE 32 (dz 14 33554432) [0,1,2,6,7] [oE (((0:Int) ≤ (i:Int) ∧ (i:Int) ≤ ((i:Int) + 1) ∧ ((i:Int) + 1) ≤ (n:Int) ∧ (n:Int) ≤ ((cp:Nat):Int)) ∧ i < n),oE (((i:Int) == ((i:Int) + 1)) = false) (beq_eq_false_iff_ne.2 (by omega))] [] [.code [1,1,1,1,0],.code [1,1,1,1,1]] ⟨[(0,.slice (some ⟨g,0,none⟩) n cp),(1,i6 (i:Int)),(2,i6 ((i:Int) + 1)),(6,.slice none 0 0),(7,i6 (n:Int))],[],[],w.heap.size⟩ ?_
 refine holds_anyStart (f:=8) (ls:=dela_n1) (by kernel_rfl) (by kernel_rfl) (by kernel_rfl) (by kernel_rfl) ?_
 refine holds_tail panicOk_body _ _ (dela_t2 g n cp i w) trivial ?_
 suffices HZ3:∀ z3:Nat,w.heap.size ≤ z3 → Holds [] Tryz.prog (bodyOf Tryz.f73) 33 w (fun _=>False) (dela_Q g n cp i base l w) [.any [1,1,1,1,0] 2 dela_n3,.code [1,1,1,1,1]] ⟨[(0,.slice (some ⟨g,0,none⟩) n cp),(6,.slice none 0 0),(7,i6 (n:Int)),(22,.slice (some ⟨g,0,none⟩) i cp),(25,.slice (some ⟨g,(bif Nat.beq cp (i + 1) then 0 else 0 + (i + 1) * 13),none⟩) (n - (i + 1)) (cp - (i + 1)))],[],[],z3⟩ by
  have A3_0:∀ z3:Nat,w.heap.size ≤ z3 → Holds [] Tryz.prog (bodyOf Tryz.f73) 33 w (fun _=>False) (dela_Q g n cp i base l w) [.any [1,1,1,1,0] 2 dela_n3,.code [1,1,1,1,1]] ⟨[(0,.slice (some ⟨g,0,none⟩) n cp),(6,.slice none 0 0),(7,i6 (n:Int)),(22,.slice (some ⟨g,0,none⟩) i cp),(25,.slice (some ⟨g,(bif Nat.beq cp (i + 1) then 0 else 0 + (i + 1) * 13),none⟩) (n - (i + 1)) (cp - (i + 1)))],[],[],z3⟩:=by
   intro z3 hz3
   exact HZ3 z3 hz3
  have A3_1:∀ z3:Nat,w.heap.size ≤ z3 → Holds [] Tryz.prog (bodyOf Tryz.f73) 33 w (fun _=>False) (dela_Q g n cp i base l w) [.any [1,1,1,1,0] 3 (bA 8 31),.code [1,1,1,1,1]] ⟨[(0,.slice (some ⟨g,0,none⟩) n cp),(6,.slice none 0 0),(7,i6 (n:Int)),(22,.slice (some ⟨g,0,none⟩) i cp),(23,.slice (some ⟨g,0,none⟩) n cp),(24,i6 ((i:Int) + 1))],[],[],z3⟩:=by
   intro z3 hz3
   exact holds_anyAll (l:=[5]) (by kernel_rfl) (by simp) ⟨edge_op (ls':=dela_n3) (by kernel_rfl) (dela_e4 g n cp i z3) ⟨⟨by omega,tI⟩,tI⟩ (A3_0 z3 hz3),tI⟩
  have A3_2:∀ z3:Nat,w.heap.size ≤ z3 → Holds [] Tryz.prog (bodyOf Tryz.f73) 33 w (fun _=>False) (dela_Q g n cp i base l w) [.any [1,1,1,1,0] 3 (bA 8 59),.code [1,1,1,1,1]] ⟨[(0,.slice (some ⟨g,0,none⟩) n cp),(6,.slice none 0 0),(7,i6 (n:Int)),(20,.slice (some ⟨g,0,none⟩) n cp),(21,i6 (i:Int)),(25,.slice (some ⟨g,(bif Nat.beq cp (i + 1) then 0 else 0 + (i + 1) * 13),none⟩) (n - (i + 1)) (cp - (i + 1)))],[],[],z3⟩:=by
   intro z3 hz3
   exact holds_anyAll (l:=[2]) (by kernel_rfl) (by simp) ⟨edge_op (ls':=dela_n3) (by kernel_rfl) (dela_e5 g n cp i z3) ⟨⟨by omega,by omega⟩,tI⟩ (A3_0 z3 hz3),tI⟩
  have A3_3:∀ z3:Nat,w.heap.size ≤ z3 → Holds [] Tryz.prog (bodyOf Tryz.f73) 33 w (fun _=>False) (dela_Q g n cp i base l w) [.any [1,1,1,1,0] 4 dela_n2,.code [1,1,1,1,1]] ⟨[(0,.slice (some ⟨g,0,none⟩) n cp),(6,.slice none 0 0),(7,i6 (n:Int)),(20,.slice (some ⟨g,0,none⟩) n cp),(21,i6 (i:Int)),(23,.slice (some ⟨g,0,none⟩) n cp),(24,i6 ((i:Int) + 1))],[],[],z3⟩:=by
   intro z3 hz3
   exact holds_anyAll (l:=[2,5]) (by kernel_rfl) (by simp) ⟨edge_op (ls':=(bA 8 31)) (by kernel_rfl) (dela_e6 g n cp i z3) ⟨⟨by omega,by omega⟩,tI⟩ (A3_1 z3 hz3),edge_op (ls':=(bA 8 59)) (by kernel_rfl) (dela_e7 g n cp i z3) ⟨⟨by omega,tI⟩,tI⟩ (A3_2 z3 hz3),tI⟩
  exact A3_3 _ (Nat.le_refl _)
 intro z3 hz3
 refine holds_anyV (i:=6) (ls':=(bA 8 127)) (w:=w) (S':=(fun x=>x = g)) (Y:=Unit) (dst:=(some 26)) (x:=Builtin.append_ #[122,122] 122 #[.slice (some ⟨g,0,none⟩) i cp,.slice (some ⟨g,(bif Nat.beq cp (i + 1) then 0 else 0 + (i + 1) * 13),none⟩) (n - (i + 1)) (cp - (i + 1))]) (fun _=>.slice (some ⟨g,0,none⟩) (n - 1) cp) [] (fun _ W_=>OwnR W_ base 141 13 (some ⟨g,0,none⟩) (n - 1) cp (onesV (l.eraseIdx i))) (fun _=>[(26,.slice (some ⟨g,0,none⟩) (n - 1) cp),(0,.slice (some ⟨g,0,none⟩) n cp),(6,.slice none 0 0),(7,i6 (n:Int)),(22,.slice (some ⟨g,0,none⟩) i cp),(25,.slice (some ⟨g,(bif Nat.beq cp (i + 1) then 0 else 0 + (i + 1) * 13),none⟩) (n - (i + 1)) (cp - (i + 1)))]) (by kernel_rfl) (by kernel_rfl) (by kernel_rfl) (by kernel_rfl) (fun _=>rfl) (fun wx hm=>?_) (fun _ W3 hX3 hm3=>?_)
 ·obtain ⟨inf,hi1,hi2⟩:=Option.map_eq_some_iff.1 (show (Tryz.prog.info? 141).map (·.size) = some 13 by kernel_rfl)
  have hlt:(onesV (l.take i)).length = i * 13:=by rw [onesV_len,List.length_take]; omega
  have hld:(onesV (l.drop (i + 1))).length = (n - (i + 1)) * 13:=by rw [onesV_len,List.length_drop,hl]
  have hsp:onesV l = onesV (l.take (i + 1)) ++ onesV (l.drop (i + 1)):=by rw [onesV_app,List.take_append_drop]
  have hl1:(onesV (l.take (i + 1))).length = (i + 1) * 13:=by rw [onesV_len,List.length_take]; omega
  have hBx:=hB.kept hm.kept (fun h=>h)
  have hOx:OwnR wx base 141 13 (some ⟨g,0,none⟩) i cp (onesV (l.take i)):=by
   have e1:onesV l ++ r = onesV (l.take i) ++ (onesV (l.drop i) ++ r):=by rw [← List.append_assoc,onesV_app,List.take_append_drop]
   exact ownR_of (hO.own g ⟨_,rfl,rfl⟩).1 (e1 ▸ hBx) (by omega) hcm hlt (by rw [← e1]; exact hrl)
  obtain ⟨w',h1,h2,h3⟩:=run_append_fits (P:=Tryz.prog) (w:=wx) base 122 122 141 inf 13 (by kernel_rfl) hi1 hi2 g i cp (onesV (l.take i)) hOx ⟨g,(bif Nat.beq cp (i + 1) then 0 else 0 + (i + 1) * 13),none⟩ (n - (i + 1)) (cp - (i + 1)) (onesV (l.drop (i + 1))) hld (fun j u hj=>by
   have hj2:=(List.getElem?_eq_some_iff.1 hj).1
   have hne:Nat.beq cp (i + 1) = false:=by
    cases hb:Nat.beq cp (i + 1) with
    | false=>rfl
    | true=>have:=Nat.eq_of_beq_eq_true hb; omega
   rw [hne,add_norm]
   refine (hBx.cell _).trans ?_
   show (onesV l ++ r)[0 + (i + 1) * 13 + j]? = _
   rw [hsp,List.append_assoc,List.getElem?_append_right (by omega),hl1,show 0 + (i + 1) * 13 + j - (i + 1) * 13 = j by omega,List.getElem?_append_left hj2]
   exact hj) (onesV_one _) (by omega)
  have e2:i + (n - (i + 1)) = n - 1:=by omega
  rw [e2] at h1 h2
  rw [onesV_app,← List.eraseIdx_eq_take_drop_succ] at h2
  exact ⟨(),w',h1,h2,hm.offA (fun _ h=>h.elim) (Kept.of_grown (S:=(fun x=>x = g)) h3 (fun k _ e=>by cases e; rfl)) (fun x h=>.inl h) (fun b hb=>by cases hb)⟩
 refine holds_tail panicOk_body _ _ (dela_t9 g n cp i W3) trivial ?_
 refine holds_done (by kernel_rfl) ?_
 refine hgE 10 (dz 5 131072) [0,6,31] [oE (((0:Int) ≤ (((n - 1):Nat):Int) ∧ (((n - 1):Nat):Int) ≤ (n:Int) ∧ (n:Int) ≤ ((cp:Nat):Int)) ∧ (n - 1) < cp)] [] [.ops [1,1,1,1,1,0] [5],.code [1,1,1,1,1,1]] ⟨[(0,.slice (some ⟨g,0,none⟩) (n - 1) cp),(6,.slice none 0 0),(31,.slice (some ⟨g,0 + (n - 1) * 13,none⟩) (n - (n - 1)) (cp - (n - 1)))],[],[],W3.heap.size⟩ ?_
 refine holds_opW (w:=w) (S':=(fun x=>x = g)) (dst:=none) (x:=Builtin.clear_ #[122] 0 #[.slice (some ⟨g,0 + (n - 1) * 13,none⟩) (n - (n - 1)) (cp - (n - 1))]) (fun _=>.tuple #[]) (fun _ W_=>OwnR W_ base 141 13 (some ⟨g,0,none⟩) (n - 1) cp (onesV (l.eraseIdx i))) (fun _=>[(0,.slice (some ⟨g,0,none⟩) (n - 1) cp),(6,.slice none 0 0),(31,.slice (some ⟨g,0 + (n - 1) * 13,none⟩) (n - (n - 1)) (cp - (n - 1)))]) (by kernel_rfl) (by kernel_rfl) (fun _=>rfl) (fun wx hm=>?_) (fun _ W4 hX4 hm4=>?_)
 ·have hO3:=hX3.kept hm.kept (fun _ _ ⟨_,hb,_⟩=>by cases hb)
  obtain ⟨r3,hB3,hnc3,hcm3,hrl3⟩:∃ r,Blk wx g 141 (onesV (l.eraseIdx i) ++ r) ∧ n - 1 ≤ cp ∧ cp ≤ maxLen ∧ (onesV (l.eraseIdx i) ++ r).length = cp * 13:=by
   rcases hO3.blk with ⟨h,_⟩ | ⟨g',r,h,_,h2,h3,h4,h5⟩
   ·cases h
   ·cases h
    exact ⟨r,h2,h3,h4,h5⟩
  have hle:(onesV (l.eraseIdx i)).length = (n - 1) * 13:=hO3.len
  obtain ⟨ds,w',e1,e2,e3,e4⟩:=run_clearR (P:=Tryz.prog) wx 122 141 0 13 (.agg #[i6 0,i6 0,i6 0,i6 0,i6 0,i6 0,i6 0,i6 0,i6 0,i6 0,sT ⟨#[]⟩,i6 0,i6 0]) g (n - 1) (n - (n - 1)) (cp - (n - 1)) 141 (onesV (l.eraseIdx i) ++ r3) 112 (by kernel_rfl) (by kernel_rfl) rfl (by decide) rfl hB3 (by omega) (by rw [hrl3]; omega)
  rw [List.take_append_of_le_length (by omega),List.take_of_length_le (by omega)] at e2 e3
  exact ⟨0,w',by rw [Nat.zero_add]; exact e1,ownR_of (hO.own g ⟨_,rfl,rfl⟩).1 e2 (by omega) hcm hle (by rw [e3,hrl3]),MemOk.offA (MemOk.bck hm3 hm) (fun _ h=>h) e4 (fun _ h=>.inl h) (fun b hb=>by cases hb)⟩
 refine hgS 9 (dz 2 0) [6] [] [] [.code [1,1,1,1,1,1,1]] [] [] W4.heap.size ?_
 refine hrt [] [.slice (some ⟨g,0,none⟩) (n - 1) cp] [] ?_
 intro wx hm
 exact ⟨rfl,hX4.kept hm.kept (fun _ _ ⟨_,hb,_⟩=>by cases hb),(MemOk.bck hm4 hm).kept⟩
theorem abides_none {β:Type} {B:Nat} {J:β → World → Prop} (h:AbidesFrom B J) {s:β} {W W':World} (hs:J s W) (hk:Kept (fun _=>False) W W'):J s W':=
 h s W W' none hs ⟨hk.os,hk.tape,hk.output,hk.size,fun k hk' _=>hk.block k hk' id⟩ (fun _ e=>by cases e)
theorem holds_opsNil {D:List Deferred} {P:Program} {body:Code} {n:Nat} {w0:World} {S:Nat → Prop} {Q:Exit → Act → World → Prop} {p:List Nat} {k:List KI} {st:St} (h:Holds D P body n w0 S Q k st):Holds D P body n w0 S Q (.ops p [] :: k) st:=h
theorem meant_mem {w0 W:World} {tCp tF tC tI:TypeId} {c1 c2 cb nb cp:Nat} {fv:Value} {frm last:Int} {A:Option Addr} {opn:List OneM} {pre:List Nat} {xs:List Value} (h:MeantI w0 tCp tF tC c1 c2 cb fv (fun W=>Blk W nb tI xs) frm last A cp opn pre W) (hne:([c1,c2,nb]:List Nat).Nodup) :
  MemOk w0 (fun _=>True) [⟨c1,tCp,false,[.pointer (some ⟨cb,0,none⟩)]⟩,⟨c2,tF,false,[fv]⟩,⟨nb,tI,false,xs⟩] [] W.heap.size W:=
 ⟨rfl,by simpa using ⟨h.c1,h.c2,h.x⟩,fun _ _ _=>.inl trivial,by simpa using hne,h.kp,fun _ hx=>by cases hx⟩
def mag_v1 (o:OneM):List Value:=[i6 o.to,i6 o.id,i6 o.q.kind,i6 o.q.stripe,i6 o.q.epoch,i6 o.q.seq,i6 o.q.mask,i6 o.q.node,i6 o.q.oe,i6 o.q.os,sT o.q.block,i6 o.asked,i6 o.sent]
theorem okmag_any (o:OneM) (now:Int) (nb:Nat) (hw:-9223372036854775808 ≤ now - o.sent ∧ now - o.sent ≤ 9223372036854775807) (w:World) (hn:Blk w nb 3 [i6 now]) :
  Calls Tryz.prog 60 #[.agg #[i6 o.to,i6 o.id,i6 o.q.kind,i6 o.q.stripe,i6 o.q.epoch,i6 o.q.seq,i6 o.q.mask,i6 o.q.node,i6 o.q.oe,i6 o.q.os,sT o.q.block,i6 o.asked,i6 o.sent],.pointer (some ⟨nb,0,none⟩)] w (RetK (.bool (decide (now - o.sent ≥ 2))) w):=by
 refine cH (S:=(fun _=>False)) (n:=9) Tryz.func60 (MemOk.start (bk:=[⟨nb,3,false,[i6 now]⟩]) (wn:=[]) (by simpa using hn) (by simp) (by simp) (by simp)) ?_
 refine hgS 17 (dz 8 0x2010c18001000800) [3] [n64 ((now - o.sent))] [(nb,0,1),(w.heap.size,12,1)] [.code [1,1]] [⟨nb,3,false,[i6 now]⟩,⟨w.heap.size,141,true,(mag_v1 o)⟩] [] (w.heap.size + 1) ?_
 refine hrt [] [.bool (decide (((now - o.sent):Int) ≥ 2))] [] ?_
 intro wx hm
 exact ⟨rfl,hm.kept⟩
def mlt_v1 (o:OneM):List Value:=(mag_v1 o)
theorem okmlt_any (o:OneM) (now:Int) (nb:Nat) (hw:-9223372036854775808 ≤ now - o.asked ∧ now - o.asked ≤ 9223372036854775807) (w:World) (hn:Blk w nb 3 [i6 now]) :
  Calls Tryz.prog 92 #[.agg #[i6 o.to,i6 o.id,i6 o.q.kind,i6 o.q.stripe,i6 o.q.epoch,i6 o.q.seq,i6 o.q.mask,i6 o.q.node,i6 o.q.oe,i6 o.q.os,sT o.q.block,i6 o.asked,i6 o.sent],.pointer (some ⟨nb,0,none⟩)] w (RetK (.bool (decide (now - o.asked ≥ 8))) w):=by
 refine cH (S:=(fun _=>False)) (n:=9) Tryz.func92 (MemOk.start (bk:=[⟨nb,3,false,[i6 now]⟩]) (wn:=[]) (by simpa using hn) (by simp) (by simp) (by simp)) ?_
 refine hgS 17 (dz 8 0x2010b18001000800) [3] [n64 ((now - o.asked))] [(nb,0,1),(w.heap.size,11,1)] [.code [1,1]] [⟨nb,3,false,[i6 now]⟩,⟨w.heap.size,141,true,(mlt_v1 o)⟩] [] (w.heap.size + 1) ?_
 refine hrt [] [.bool (decide (((now - o.asked):Int) ≥ 8))] [] ?_
 intro wx hm
 exact ⟨rfl,hm.kept⟩
def man_v1 (o:OneM):List Value:=(mag_v1 o)
def man_v2 (lf:Int) (lt:Int) (lid:Int) (sy:SayR):List Value:=[i6 lf,i6 lt,i6 lid,.bool true] ++ rp 8 (i6 0) ++ [sT ⟨#[]⟩,i6 sy.st,i6 sy.ep,i6 sy.ou,.bool sy.rc.used,i6 sy.rc.fence,i6 sy.rc.de,i6 sy.rc.ds,sT sy.rc.block,.bool sy.rc.op,i6 sy.rc.ie,i6 sy.rc.is,i6 sy.rc.mask,sT sy.rc.staged]
theorem okman_any {sy:SayR} (o:OneM) (lf lt lid:Int) (nb:Nat) (w:World) (hn:Blk w nb 65 [i6 lf,i6 lt,i6 lid,.bool true,i6 0,i6 0,i6 0,i6 0,i6 0,i6 0,i6 0,i6 0,sT ⟨#[]⟩,i6 sy.st,i6 sy.ep,i6 sy.ou,.bool sy.rc.used,i6 sy.rc.fence,i6 sy.rc.de,i6 sy.rc.ds,sT sy.rc.block,.bool sy.rc.op,i6 sy.rc.ie,i6 sy.rc.is,i6 sy.rc.mask,sT sy.rc.staged]) :
  Calls Tryz.prog 72 #[.agg #[i6 o.to,i6 o.id,i6 o.q.kind,i6 o.q.stripe,i6 o.q.epoch,i6 o.q.seq,i6 o.q.mask,i6 o.q.node,i6 o.q.oe,i6 o.q.os,sT o.q.block,i6 o.asked,i6 o.sent],.pointer (some ⟨nb,0,none⟩)] w (RetK (.bool ((o.id == lid) && (o.to == lf))) w):=by
 refine cH (S:=(fun _=>False)) (n:=16) Tryz.func72 (MemOk.start (bk:=[⟨nb,65,false,(man_v2 lf lt lid sy)⟩]) (wn:=[]) (fun b hb=>by obtain rfl:=List.mem_singleton.1 hb; exact hn) (by simp) (by simp) (by simp)) ?_
 rcases Bool.eq_false_or_eq_true (o.id == lid) with d1 | d1
 ·skip
  refine hgS 24 (dz 15 0x3101000910100191000102080010118000) [3] (rE 6 (eD d1)) [(w.heap.size,1,1),(nb,2,1),(w.heap.size,0,1),(nb,0,1)] [.code [1,1]] [⟨nb,65,false,(man_v2 lf lt lid sy)⟩,⟨w.heap.size,141,true,(man_v1 o)⟩] [] (w.heap.size + 1) ?_
  refine hrt [] [.bool (o.to == lf)] [] ?_
  intro wx hm
  exact ⟨by rw [d1]; rfl,hm.kept⟩
 ·skip
  refine hgS 24 (dz 15 0x400000000102080010118000) [3] (rE 6 (eD d1)) [(w.heap.size,1,1),(nb,2,1)] [.code [1,1]] [⟨nb,65,false,(man_v2 lf lt lid sy)⟩,⟨w.heap.size,141,true,(man_v1 o)⟩] [] (w.heap.size + 1) ?_
  refine hrt [] [.bool false] [] ?_
  intro wx hm
  exact ⟨by rw [d1]; rfl,hm.kept⟩
theorem meant_seq (w0:World) (c1 c2 cb nb cp n fo tN:Nat) (lN:List Value) (okf:OneM → Bool) (frm lst:Int) (A:Option Addr) (opn:List OneM) (hn:opn.length = n) (hn8:n ≤ 1000) (hne:([c1,c2,nb]:List Nat).Nodup) (hcb:cb ≠ c1 ∧ cb ≠ c2 ∧ cb ≠ nb)
  (hfo:fo = 60 ∨ fo = 92 ∨ fo = 72) (hok:∀ (j:Nat) (o:OneM),opn[j]? = some o → ∀ wx:World,Blk wx nb tN lN → Calls Tryz.prog fo #[.agg #[i6 o.to,i6 o.id,i6 o.q.kind,i6 o.q.stripe,i6 o.q.epoch,i6 o.q.seq,i6 o.q.mask,i6 o.q.node,i6 o.q.oe,i6 o.q.os,sT o.q.block,i6 o.asked,i6 o.sent],.pointer (some ⟨nb,0,none⟩)] wx (RetK (.bool (okf o)) wx)) :
  SeqI 4 Tryz.prog 96 #[.pointer (some ⟨c1,0,none⟩),.pointer (some ⟨c2,0,none⟩)] (fun j:Nat=>#[i6 (j:Int)]) (MeantI w0 85 142 124 c1 c2 cb (.func (.func fo) #[] #[.pointer (some ⟨nb,0,none⟩)]) (fun W=>Blk W nb tN lN) frm lst A cp opn) (fun xs=>xs = meantL okf opn opn.length) (MeantSp okf opn) (MeantV okf opn):=by
 intro l J Jx W hInv hJ hJx hY h0
 have hI:=hInv _ _ h0
 have hc:=hI.hd rfl
 rw [hn] at hc
 refine callsIn_wide.2 (calls_of_holds (S:=(fun _=>False)) (l:=[.func (.yield l) #[] #[],.pointer (some ⟨c1,0,none⟩),.pointer (some ⟨c2,0,none⟩)]) (n:=26) (bk:=[⟨c1,85,false,[.pointer (some ⟨cb,0,none⟩)]⟩,⟨c2,142,false,[.func (.func fo) #[] #[.pointer (some ⟨nb,0,none⟩)]]⟩,⟨nb,tN,false,lN⟩,⟨cb,124,false,[i6 frm,i6 lst,.slice A n cp]⟩]) (wn:=[]) Tryz.func96 (body_of (by kernel_rfl)) rfl (by simp) (MemOk.start (by simpa using ⟨hI.c1,hI.c2,hI.x,hc⟩) (by simp) (by simp at hne ⊢; omega) (by simp)) ?_)
 refine holds_go (f:=13) (hs:=[(oA 0 0 1),oh0,oh0,(oA 3 2 1),oh0,oh0]) [0,2,9,10,11] [] (show _ = some (Res.mk [] (dupR [(c1,0,1),(cb,2,1)]) [.code [1,0],.blk 0] ⟨[(0,.func (.yield l) #[] #[]),(2,.pointer (some ⟨c2,0,none⟩)),(9,.slice A n cp),(10,i6 (n:Int)),(11,i6 0)],[⟨c1,85,false,[.pointer (some ⟨cb,0,none⟩)]⟩,⟨c2,142,false,[.func (.func fo) #[] #[.pointer (some ⟨nb,0,none⟩)]]⟩,⟨nb,tN,false,lN⟩,⟨cb,124,false,[i6 frm,i6 lst,.slice A n cp]⟩],[],W.heap.size⟩) by kernel_rfl) trivial ?_
 have hI0:=hInv _ _ h0
 refine holds_prune [0,2,9,10,11] [true,true,true,false] ?_
 refine holds_loopW (w:=w0) (S':=fun _=>True) (fun m st W1=>∃ j z:Nat,m + j = n ∧ J (meantL okf opn j) W1 ∧ st = ⟨[(0,.func (.yield l) #[] #[]),(2,.pointer (some ⟨c2,0,none⟩)),(9,.slice A n cp),(10,i6 (n:Int)),(11,i6 (j:Int))],[⟨c1,85,false,[.pointer (some ⟨cb,0,none⟩)]⟩,⟨c2,142,false,[.func (.func fo) #[] #[.pointer (some ⟨nb,0,none⟩)]]⟩,⟨nb,tN,false,lN⟩],[],z⟩) n (by kernel_rfl) (fun W1 hm=>⟨⟨0,_,by omega,abides_none hJ h0 hm.kept,rfl⟩,by have h:=meant_mem (hInv _ _ (abides_none hJ h0 hm.kept)) hne; rwa [hm.size] at h⟩) ?_
 rintro m _ W1 ⟨j,z,hmj,hj1,rfl⟩ hm1 JL hJL
 have hI1:=hInv _ _ hj1
 have hnT:∀ x,¬ Turned [⟨c1,85,false,[.pointer (some ⟨cb,0,none⟩)]⟩,⟨c2,142,false,[.func (.func fo) #[] #[.pointer (some ⟨nb,0,none⟩)]]⟩,⟨nb,tN,false,lN⟩] x:=by
  rintro x ⟨b,hb,hr,he⟩
  simp at hb
  rcases hb with rfl | rfl | rfl <;> simp at hr
 by_cases h1:j < n
 rotate_left
 ·skip
  refine holds_go (f:=10) (hs:=[oh0,oh0]) [] [] (show _ = some (Res.mk [(decide (((j:Int):Int) < (n:Int))) = false] (dupR []) [] ⟨[],[⟨c1,85,false,[.pointer (some ⟨cb,0,none⟩)]⟩,⟨c2,142,false,[.func (.func fo) #[] #[.pointer (some ⟨nb,0,none⟩)]]⟩,⟨nb,tN,false,lN⟩],[],W1.heap.size⟩) by kernel_rfl) ⟨decide_eq_false (by omega),trivial⟩ ?_
  refine holds_end [] (show _ = some ([],dupR []) by kernel_rfl) ?_
  intro wx hm
  have hjn:j = opn.length:=by omega
  rw [hjn] at hj1
  exact ⟨⟨_,rfl⟩,.inl ⟨_,rfl,abides_none hJ hj1 (hm.kept.mono (fun x _ h=>(hnT x h).elim))⟩⟩
 obtain ⟨o,ho⟩:∃ o,opn[j]? = some o:=⟨_,List.getElem?_eq_getElem (by omega)⟩
 obtain ⟨ga,hA,hg,hcell⟩:=hI1.arr j o ho meantL_lt
 subst hA
 refine holds_wins [⟨ga,0 + j * 13,o.cells⟩] (fun _ y hy=>?_) ?_
 ·simp only [List.mem_cons,List.not_mem_nil,or_false] at hy
  subst hy
  exact ⟨hnT _,hg,fun i v hv=>hcell i v hv⟩
 refine holds_codeY 4 ?_
 intro J3 Qn hJ3 hQ3
 refine holdsR_go (fun _=>trivial) (f:=25) (hs:=[oh0,oh1,oh0,⟨false,1,[]⟩,⟨false,0,[⟨true,0,0,13⟩]⟩,oh0,oh0,(oA 3 0 13),(oA 1 0 1),(oA 3 0 13)]) [0,2,4,9,10,11,16,17] [] (show _ = some (Res.mk [(decide (((j:Int):Int) < (n:Int))) = true,(0:Int) ≤ (j:Int) ∧ (j:Int) < ((n:Nat):Int)] (dupR [(ga,0 + j * 13,13),(W1.heap.size,0,13),(c2,0,1),(W1.heap.size,0,13)]) [.ops [1,0,0,1,1,0,0,1,0] [2,3,4,5,6,7,8],.code [1,0,0,1,1,0,0,1,1],.blk 1,.code [1,0,0,1,1,1],.inv J3] ⟨[(0,.func (.yield l) #[] #[]),(2,.pointer (some ⟨c2,0,none⟩)),(4,i6 (j:Int)),(9,.slice (some ⟨ga,0,none⟩) n cp),(10,i6 (n:Int)),(11,i6 (j:Int)),(16,.func (.func fo) #[] #[.pointer (some ⟨nb,0,none⟩)]),(17,.agg #[i6 o.to,i6 o.id,i6 o.q.kind,i6 o.q.stripe,i6 o.q.epoch,i6 o.q.seq,i6 o.q.mask,i6 o.q.node,i6 o.q.oe,i6 o.q.os,sT o.q.block,i6 o.asked,i6 o.sent])],[⟨c1,85,false,[.pointer (some ⟨cb,0,none⟩)]⟩,⟨c2,142,false,[.func (.func fo) #[] #[.pointer (some ⟨nb,0,none⟩)]]⟩,⟨nb,tN,false,lN⟩,⟨W1.heap.size,141,true,[i6 o.to,i6 o.id,i6 o.q.kind,i6 o.q.stripe,i6 o.q.epoch,i6 o.q.seq,i6 o.q.mask,i6 o.q.node,i6 o.q.oe,i6 o.q.os,sT o.q.block,i6 o.asked,i6 o.sent]⟩],[⟨ga,0 + j * 13,[i6 o.to,i6 o.id,i6 o.q.kind,i6 o.q.stripe,i6 o.q.epoch,i6 o.q.seq,i6 o.q.mask,i6 o.q.node,i6 o.q.oe,i6 o.q.os,sT o.q.block,i6 o.asked,i6 o.sent]⟩],W1.heap.size + 1⟩) by kernel_rfl) ⟨decide_eq_true (by omega),⟨by omega,by omega⟩,trivial⟩ ?_
 refine holdsR_op (r:=none) (by kernel_rfl) ?_
 intro J4 hJ4
 refine holds_callP (.bool (okf o)) (show _ = some (fo,[.agg #[i6 o.to,i6 o.id,i6 o.q.kind,i6 o.q.stripe,i6 o.q.epoch,i6 o.q.seq,i6 o.q.mask,i6 o.q.node,i6 o.q.oe,i6 o.q.os,sT o.q.block,i6 o.asked,i6 o.sent],.pointer (some ⟨nb,0,none⟩)],some 18,[]) by rcases hfo with h_ | h_ | h_ <;> subst h_ <;> kernel_rfl) tI rfl (fun wx hm=>hok j o ho wx (hm.at_ 2 rfl)) fun z5 hz5=>?_
 replace hz5:W1.heap.size + 1 ≤ z5:=hz5
 refine holds_opsNil ?_
 refine hJ4 _ _ _ ?_
 rcases Bool.eq_false_or_eq_true (okf o) with d1 | d1
 rotate_left
 ·skip
  refine holdsR_go (fun _=>trivial) (f:=17) (hs:=[oh0,oh0,oh0,oh0,oh0,⟨false,3,[]⟩,oh0,⟨false,1,[]⟩,oh0]) [0,2,9,10,11] [] (show _ = some (Res.mk [(okf o) = false,(okf o) = false,(okf o) = false,(okf o) = false,(okf o) = false,false = false,inR .i64 (((j:Int) + 1))] (dupR []) [.inv J3] ⟨[(0,.func (.yield l) #[] #[]),(2,.pointer (some ⟨c2,0,none⟩)),(9,.slice (some ⟨ga,0,none⟩) n cp),(10,i6 (n:Int)),(11,i6 ((j:Int) + 1))],[⟨c1,85,false,[.pointer (some ⟨cb,0,none⟩)]⟩,⟨c2,142,false,[.func (.func fo) #[] #[.pointer (some ⟨nb,0,none⟩)]]⟩,⟨nb,tN,false,lN⟩,⟨W1.heap.size,141,true,[i6 o.to,i6 o.id,i6 o.q.kind,i6 o.q.stripe,i6 o.q.epoch,i6 o.q.seq,i6 o.q.mask,i6 o.q.node,i6 o.q.oe,i6 o.q.os,sT o.q.block,i6 o.asked,i6 o.sent]⟩],[⟨ga,0 + j * 13,[i6 o.to,i6 o.id,i6 o.q.kind,i6 o.q.stripe,i6 o.q.epoch,i6 o.q.seq,i6 o.q.mask,i6 o.q.node,i6 o.q.oe,i6 o.q.os,sT o.q.block,i6 o.asked,i6 o.sent]⟩],z5⟩) by kernel_rfl) ⟨d1,d1,d1,d1,d1,rfl,in64 (by omega),trivial⟩ ?_
  refine hJ3 _ _ _ ?_
  refine holds_go (f:=3) (hs:=[]) [0,2,9,10,11] [] (show _ = some (Res.mk [] (dupR []) [.inv JL,.blk 0] ⟨[(0,.func (.yield l) #[] #[]),(2,.pointer (some ⟨c2,0,none⟩)),(9,.slice (some ⟨ga,0,none⟩) n cp),(10,i6 (n:Int)),(11,i6 ((j:Int) + 1))],[⟨c1,85,false,[.pointer (some ⟨cb,0,none⟩)]⟩,⟨c2,142,false,[.func (.func fo) #[] #[.pointer (some ⟨nb,0,none⟩)]]⟩,⟨nb,tN,false,lN⟩,⟨W1.heap.size,141,true,[i6 o.to,i6 o.id,i6 o.q.kind,i6 o.q.stripe,i6 o.q.epoch,i6 o.q.seq,i6 o.q.mask,i6 o.q.node,i6 o.q.oe,i6 o.q.os,sT o.q.block,i6 o.asked,i6 o.sent]⟩],[⟨ga,0 + j * 13,[i6 o.to,i6 o.id,i6 o.q.kind,i6 o.q.stripe,i6 o.q.epoch,i6 o.q.seq,i6 o.q.mask,i6 o.q.node,i6 o.q.oe,i6 o.q.os,sT o.q.block,i6 o.asked,i6 o.sent]⟩],z5⟩) by kernel_rfl) trivial ?_
  refine holds_wins [] (fun _ _ h=>by cases h) ?_
  refine holds_prune [0,2,9,10,11] [true,true,true,false] ?_
  intro a_ w4 hf hm
  have hk4:Kept (fun _=>False) W1 w4:=hm.kept.mono (fun x _ h=>(hnT x h).elim)
  have hj4:J (meantL okf opn (j + 1)) w4:=by rw [meantL_succ ho,d1]; exact abides_none hJ hj1 hk4
  exact hJL (m - 1) _ a_ w4 (by omega) ⟨j + 1,_,by omega,hj4,by rw [← cast_succ j]; rfl⟩ hf (by have h:=meant_mem (hInv _ _ hj4) hne; rw [hm.size] at h; exact h)
 refine holdsR_go (fun _=>trivial) (f:=6) (hs:=[oh0,oh1,oh1]) [0,2,9,10,11,19,20,21] [] (show _ = some (Res.mk [(okf o) = true,(okf o) = true] (dupR []) [.ops [1,0,0,1,1,0,0,1,0] [6,7,8],.code [1,0,0,1,1,0,0,1,1],.blk 1,.code [1,0,0,1,1,1],.inv J3] ⟨[(0,.func (.yield l) #[] #[]),(2,.pointer (some ⟨c2,0,none⟩)),(9,.slice (some ⟨ga,0,none⟩) n cp),(10,i6 (n:Int)),(11,i6 (j:Int)),(19,.bool (okf o)),(20,.func (.yield l) #[] #[]),(21,i6 (j:Int))],[⟨c1,85,false,[.pointer (some ⟨cb,0,none⟩)]⟩,⟨c2,142,false,[.func (.func fo) #[] #[.pointer (some ⟨nb,0,none⟩)]]⟩,⟨nb,tN,false,lN⟩,⟨W1.heap.size,141,true,[i6 o.to,i6 o.id,i6 o.q.kind,i6 o.q.stripe,i6 o.q.epoch,i6 o.q.seq,i6 o.q.mask,i6 o.q.node,i6 o.q.oe,i6 o.q.os,sT o.q.block,i6 o.asked,i6 o.sent]⟩],[⟨ga,0 + j * 13,[i6 o.to,i6 o.id,i6 o.q.kind,i6 o.q.stripe,i6 o.q.epoch,i6 o.q.seq,i6 o.q.mask,i6 o.q.node,i6 o.q.oe,i6 o.q.os,sT o.q.block,i6 o.asked,i6 o.sent]⟩],z5⟩) by kernel_rfl) ⟨d1,d1,trivial⟩ ?_
 refine holdsR_yield (l:=[7,8]) (dst:=some 22) (lp:=l) (args:=#[i6 (j:Int)]) (c:=true) (gd:=(some 3)) (fun _=>trivial) rfl (by kernel_rfl) (by kernel_rfl) (by intro j hj; cases hj; exact congrArg (fun b=>some (Value.bool b)) d1) (fun _=>rfl) (fun wx hm=>?_)
 have hk4:Kept (fun _=>False) W1 wx:=hm.kept.mono (fun x _ h=>(hnT x h).elim)
 refine YieldAt.mono (hY (meantL okf opn j) j wx (abides_none hJ hj1 hk4) ⟨o,ho,d1,rfl⟩) (fun e W2 he=>?_)
 rcases he with ⟨rfl,g1⟩ | ⟨rfl,g1⟩
 ·skip
  have hI2:=hInv _ _ g1
  refine ⟨.bool true,[(22,.bool true),(0,.func (.yield l) #[] #[]),(2,.pointer (some ⟨c2,0,none⟩)),(9,.slice (some ⟨ga,0,none⟩) n cp),(10,i6 (n:Int)),(11,i6 (j:Int)),(19,.bool (okf o)),(20,.func (.yield l) #[] #[]),(21,i6 (j:Int))],rfl,rfl,[⟨c1,85,false,[.pointer (some ⟨cb,0,none⟩)]⟩,⟨c2,142,false,[.func (.func fo) #[] #[.pointer (some ⟨nb,0,none⟩)]]⟩,⟨nb,tN,false,lN⟩],[],(fun _=>False),MemOk.start (by simpa using ⟨hI2.c1,hI2.c2,hI2.x⟩) (by simp) (by simpa using hne) (by simp),?_⟩
  refine holdsR_go (fun _=>trivial) (f:=13) (hs:=[oh1,⟨false,2,[]⟩,oh0,⟨false,1,[]⟩,oh0]) [0,2,9,10,11] [] (show _ = some (Res.mk [(okf o) = true,(okf o) = true,false = false,inR .i64 (((j:Int) + 1))] (dupR []) [.inv J3] ⟨[(0,.func (.yield l) #[] #[]),(2,.pointer (some ⟨c2,0,none⟩)),(9,.slice (some ⟨ga,0,none⟩) n cp),(10,i6 (n:Int)),(11,i6 ((j:Int) + 1))],[⟨c1,85,false,[.pointer (some ⟨cb,0,none⟩)]⟩,⟨c2,142,false,[.func (.func fo) #[] #[.pointer (some ⟨nb,0,none⟩)]]⟩,⟨nb,tN,false,lN⟩],[],W2.heap.size⟩) by kernel_rfl) ⟨d1,d1,rfl,in64 (by omega),trivial⟩ ?_
  refine hJ3 _ _ _ ?_
  refine holds_go (f:=3) (hs:=[]) [0,2,9,10,11] [] (show _ = some (Res.mk [] (dupR []) [.inv JL,.blk 0] ⟨[(0,.func (.yield l) #[] #[]),(2,.pointer (some ⟨c2,0,none⟩)),(9,.slice (some ⟨ga,0,none⟩) n cp),(10,i6 (n:Int)),(11,i6 ((j:Int) + 1))],[⟨c1,85,false,[.pointer (some ⟨cb,0,none⟩)]⟩,⟨c2,142,false,[.func (.func fo) #[] #[.pointer (some ⟨nb,0,none⟩)]]⟩,⟨nb,tN,false,lN⟩],[],W2.heap.size⟩) by kernel_rfl) trivial ?_
  intro a_ w4 hf hm
  have hj4:J (meantL okf opn (j + 1)) w4:=by rw [meantL_succ ho,d1]; exact abides_none hJ g1 hm.kept
  exact hJL (m - 1) _ a_ w4 (by omega) ⟨j + 1,_,by omega,hj4,by rw [← cast_succ j]⟩ hf (by have h:=meant_mem (hInv _ _ hj4) hne; rw [hm.size] at h; exact h)
 ·skip
  refine ⟨.bool false,[(22,.bool false),(0,.func (.yield l) #[] #[]),(2,.pointer (some ⟨c2,0,none⟩)),(9,.slice (some ⟨ga,0,none⟩) n cp),(10,i6 (n:Int)),(11,i6 (j:Int)),(19,.bool (okf o)),(20,.func (.yield l) #[] #[]),(21,i6 (j:Int))],rfl,rfl,[],[],(fun _=>False),MemOk.none _ _,?_⟩
  refine holdsR_go (fun _=>trivial) (f:=7) (hs:=[oh1,⟨false,2,[]⟩,oh1]) [0,2,9,10,11] [] (show _ = some (Res.mk [(okf o) = true,(okf o) = true,true = true] (dupR []) [.code [1,0,0,1,1,0,0,1,1,0],.blk 1,.code [1,0,0,1,1,1],.inv J3] ⟨[(0,.func (.yield l) #[] #[]),(2,.pointer (some ⟨c2,0,none⟩)),(9,.slice (some ⟨ga,0,none⟩) n cp),(10,i6 (n:Int)),(11,i6 (j:Int))],[],[],W2.heap.size⟩) by kernel_rfl) ⟨d1,d1,rfl,trivial⟩ ?_
  refine holdsR_ret (by kernel_rfl) (fun a_ w4 hf hm=>hQ3 _ _ ?_)
  exact ⟨hf.df,_,results_of (vs:=[]) (rs:=[]) (hs:=[]) hf hm (by kernel_rfl),⟨_,rfl⟩,.inr ⟨_,⟨j,o,ho,d1,rfl⟩,abides_none hJx g1 hm.kept⟩⟩
theorem meantAgain_seq (w0:World) (c1 c2 cb nb cp n:Nat) (frm lst now:Int) (A:Option Addr) (opn:List OneM) (hn:opn.length = n) (hn8:n ≤ 1000) (hne:([c1,c2,nb]:List Nat).Nodup) (hcb:cb ≠ c1 ∧ cb ≠ c2 ∧ cb ≠ nb) (hbd:∀ (j:Nat) (o:OneM),opn[j]? = some o → -9223372036854775808 ≤ now - o.sent ∧ now - o.sent ≤ 9223372036854775807) :
  SeqI 4 Tryz.prog 96 #[.pointer (some ⟨c1,0,none⟩),.pointer (some ⟨c2,0,none⟩)] (fun j:Nat=>#[i6 (j:Int)]) (MeantI w0 85 142 124 c1 c2 cb (.func (.func 60) #[] #[.pointer (some ⟨nb,0,none⟩)]) (fun W=>Blk W nb 3 [i6 now]) frm lst A cp opn) (fun xs=>xs = meantL (fun o:OneM=>decide (now - o.sent ≥ 2)) opn opn.length) (MeantSp (fun o:OneM=>decide (now - o.sent ≥ 2)) opn) (MeantV (fun o:OneM=>decide (now - o.sent ≥ 2)) opn):=
 meant_seq w0 c1 c2 cb nb cp n 60 3 _ _ frm lst A opn hn hn8 hne hcb (by decide) (fun j o ho wx hB=>okmag_any o now nb (hbd j o ho) wx hB)
theorem meantLate_seq (w0:World) (c1 c2 cb nb cp n:Nat) (frm lst now:Int) (A:Option Addr) (opn:List OneM) (hn:opn.length = n) (hn8:n ≤ 1000) (hne:([c1,c2,nb]:List Nat).Nodup) (hcb:cb ≠ c1 ∧ cb ≠ c2 ∧ cb ≠ nb) (hbd:∀ (j:Nat) (o:OneM),opn[j]? = some o → -9223372036854775808 ≤ now - o.asked ∧ now - o.asked ≤ 9223372036854775807) :
  SeqI 4 Tryz.prog 96 #[.pointer (some ⟨c1,0,none⟩),.pointer (some ⟨c2,0,none⟩)] (fun j:Nat=>#[i6 (j:Int)]) (MeantI w0 85 142 124 c1 c2 cb (.func (.func 92) #[] #[.pointer (some ⟨nb,0,none⟩)]) (fun W=>Blk W nb 3 [i6 now]) frm lst A cp opn) (fun xs=>xs = meantL (fun o:OneM=>decide (now - o.asked ≥ 8)) opn opn.length) (MeantSp (fun o:OneM=>decide (now - o.asked ≥ 8)) opn) (MeantV (fun o:OneM=>decide (now - o.asked ≥ 8)) opn):=
 meant_seq w0 c1 c2 cb nb cp n 92 3 _ _ frm lst A opn hn hn8 hne hcb (by decide) (fun j o ho wx hB=>okmlt_any o now nb (hbd j o ho) wx hB)
theorem meantAnswer_seq {sy:SayR} (w0:World) (c1 c2 cb nb cp n:Nat) (frm lst lf lt lid:Int) (A:Option Addr) (opn:List OneM) (hn:opn.length = n) (hn8:n ≤ 1000) (hne:([c1,c2,nb]:List Nat).Nodup) (hcb:cb ≠ c1 ∧ cb ≠ c2 ∧ cb ≠ nb) :
  SeqI 4 Tryz.prog 96 #[.pointer (some ⟨c1,0,none⟩),.pointer (some ⟨c2,0,none⟩)] (fun j:Nat=>#[i6 (j:Int)]) (MeantI w0 85 142 124 c1 c2 cb (.func (.func 72) #[] #[.pointer (some ⟨nb,0,none⟩)]) (fun W=>Blk W nb 65 [i6 lf,i6 lt,i6 lid,.bool true,i6 0,i6 0,i6 0,i6 0,i6 0,i6 0,i6 0,i6 0,sT ⟨#[]⟩,i6 sy.st,i6 sy.ep,i6 sy.ou,.bool sy.rc.used,i6 sy.rc.fence,i6 sy.rc.de,i6 sy.rc.ds,sT sy.rc.block,.bool sy.rc.op,i6 sy.rc.ie,i6 sy.rc.is,i6 sy.rc.mask,sT sy.rc.staged]) frm lst A cp opn) (fun xs=>xs = meantL (fun o:OneM=>(o.id == lid) && (o.to == lf)) opn opn.length) (MeantSp (fun o:OneM=>(o.id == lid) && (o.to == lf)) opn) (MeantV (fun o:OneM=>(o.id == lid) && (o.to == lf)) opn):=
 meant_seq w0 c1 c2 cb nb cp n 72 65 _ _ frm lst A opn hn hn8 hne hcb (by decide) (fun _ o _ wx hB=>okman_any o lf lt lid nb wx hB)
theorem meant_fn (cb nb fo:Nat) (w:World) :
  Calls Tryz.prog 59 #[.pointer (some ⟨cb,0,none⟩),.func (.func fo) #[] #[.pointer (some ⟨nb,0,none⟩)]] w (fun e w'=>∃ c1 c2,e = .returned (.func (.func 96) #[] #[.pointer (some ⟨c1,0,none⟩),.pointer (some ⟨c2,0,none⟩)]) ∧ w.heap.size ≤ c1 ∧ c1 < c2 ∧ Blk w' c1 85 [.pointer (some ⟨cb,0,none⟩)] ∧ Blk w' c2 142 [.func (.func fo) #[] #[.pointer (some ⟨nb,0,none⟩)]] ∧ Kept (fun _=>False) w w'):=by
 refine cH (S:=(fun _=>False)) (n:=6) Tryz.func59 (MemOk.none w _) ?_
 refine hgS 14 (dz 5 0) [4] [] [] [.code [1,1]] [⟨w.heap.size,85,true,[(pt cb 0)]⟩,⟨w.heap.size + 1,142,true,[.func (.func fo) #[] #[(pt nb 0)]]⟩] [] (w.heap.size + 2) ?_
 refine hrt [] [.func (.func 96) #[] #[(pt w.heap.size 0),(pt (w.heap.size + 1) 0)]] [] ?_
 intro wx hm
 exact ⟨w.heap.size,(w.heap.size + 1),rfl,by omega,by omega,hm.at_ 0 rfl,hm.at_ 1 rfl,hm.kept⟩
end Go.Proofs.YtcmpkkapkdlfhaaGreat
