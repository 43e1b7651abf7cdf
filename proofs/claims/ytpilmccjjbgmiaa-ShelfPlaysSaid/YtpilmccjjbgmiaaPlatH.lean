import Derived.Test.YtpilmccjjbgmiaaLawM
import Derived.Laws.AppendOwn
namespace Go.Proofs.Ytpilmccjjbgmiaa
open Go.RowKit Go.MapKept Go.ChangeMaps
def armE (d:Int):Int:=if 0 ≤ d ∧ d ≤ 1099511627776 then 0 else 1
def armPl (M:Pl) (d:Int):Pl:=if 0 ≤ d ∧ d ≤ 1099511627776 then { M with armed:=d } else M
def losePl (M:Pl):Pl:={ M with last:=EMPTY M.n,cs:=[],off:=false,armed:=0 }
def sortI (l:List Int):List Int:=l.mergeSort (fun x y=>decide (x ≤ y))
def keptC (cs:List CE) (keep:Nat → Bool) (i:Nat):List CE:=cs.filter (fun c=>decide ((sortI (cs.map (·.k))).idxOf c.k < i) && keep ((sortI (cs.map (·.k))).idxOf c.k))
def restartPl (M:Pl) (keep:Nat → Bool):Pl:={ M with last:=ovl M.last (keptC M.cs keep M.cs.length),cs:=[],off:=false,armed:=0 }
theorem sortI_perm (l:List Int):(sortI l).Perm l:=List.mergeSort_perm _ _
theorem sortI_len (l:List Int):(sortI l).length = l.length:=(sortI_perm l).length_eq
theorem sortI_nodup {l:List Int} (h:l.Nodup):(sortI l).Nodup:=(sortI_perm l).nodup_iff.2 h
theorem sortI_eq {l r:List Int} (h:l.Perm r):sortI l = sortI r:=by
 refine List.Perm.eq_of_pairwise (le:=fun a b=>a ≤ b) (fun a b _ _ h1 h2=>by omega) ?_ ?_ ((sortI_perm l).trans (h.trans (sortI_perm r).symm))
 ·have:=List.pairwise_mergeSort (le:=fun x y:Int=>decide (x ≤ y)) (fun a b c h1 h2=>by simp at *; omega) (fun a b=>by simp; omega) l
  exact this.imp (fun h=>by simpa using h)
 ·have:=List.pairwise_mergeSort (le:=fun x y:Int=>decide (x ≤ y)) (fun a b c h1 h2=>by simp at *; omega) (fun a b=>by simp; omega) r
  exact this.imp (fun h=>by simpa using h)
theorem keptC_zero (cs:List CE) (keep:Nat → Bool):keptC cs keep 0 = []:=by simp [keptC]
theorem keptC_off {cs:List CE} {keep:Nat → Bool} {i:Nat} (h:keep i = false):keptC cs keep (i + 1) = keptC cs keep i:=by
 refine List.filter_congr (fun c _=>?_)
 by_cases e:(sortI (cs.map (·.k))).idxOf c.k = i
 ·rw [e,h]
  simp
 ·rw [show decide ((sortI (cs.map (·.k))).idxOf c.k < i + 1) = decide ((sortI (cs.map (·.k))).idxOf c.k < i) from decide_eq_decide.2 (by omega)]
theorem born_inj {cs:List CE} (hn:(cs.map (·.k)).Nodup) {c d:CE} (hc:c ∈ cs) (hd:d ∈ cs) (e:c.k = d.k):c = d:=by
 obtain ⟨a,ha⟩:=List.mem_iff_getElem?.1 hc
 obtain ⟨b,hb⟩:=List.mem_iff_getElem?.1 hd
 have e1:(cs.map (·.k))[a]? = some c.k:=by simp [ha]
 have e2:(cs.map (·.k))[b]? = some c.k:=by simp [hb,e]
 have k1:=(List.getElem?_eq_some_iff.1 e1).1
 have k2:=(List.getElem?_eq_some_iff.1 e2).1
 have hq:=List.pairwise_iff_getElem.1 hn
 have hab:a = b:=by
  rcases Nat.lt_trichotomy a b with h | h | h
  ·exact absurd (by rw [(List.getElem?_eq_some_iff.1 e1).2,(List.getElem?_eq_some_iff.1 e2).2]) (hq a b k1 k2 h)
  ·exact h
  ·exact absurd (by rw [(List.getElem?_eq_some_iff.1 e1).2,(List.getElem?_eq_some_iff.1 e2).2]) (hq b a k2 k1 h)
 subst hab
 rw [ha] at hb
 exact Option.some.inj hb
theorem keptC_on {last:List (List Int)} {cs:List CE} {keep:Nat → Bool} {i:Nat} {k:Int} (hn:(cs.map (·.k)).Nodup) (hk:(sortI (cs.map (·.k)))[i]? = some k) (h:keep i = true) (h0:0 ≤ k) (L:List Int) (hL:valC cs k = some L) :
  (ovl last (keptC cs keep i)).set k.toNat L = ovl last (keptC cs keep (i + 1)):=by
 have hs:=sortI_nodup hn
 have hlt:=(List.getElem?_eq_some_iff.1 hk).1
 have hidx:(sortI (cs.map (·.k))).idxOf k = i:=by
  have e:=(List.getElem?_eq_some_iff.1 hk).2
  rw [← e]
  exact List.Nodup.idxOf_getElem hs i hlt
 obtain ⟨c,hc,hck,hcL⟩:=(valC_iff hn k L).1 hL
 have hn0:((keptC cs keep i).map (·.k)).Nodup:=nodup_filter _ _ hn
 have hn1:((keptC cs keep (i + 1)).map (·.k)).Nodup:=nodup_filter _ _ hn
 have hmem:∀ d,d ∈ keptC cs keep (i + 1) ↔ d ∈ keptC cs keep i ∨ d = c:=fun d=>by
  simp only [keptC,List.mem_filter,Bool.and_eq_true,decide_eq_true_eq]
  constructor
  ·rintro ⟨h1,h2,h3⟩
   by_cases e:(sortI (cs.map (·.k))).idxOf d.k = i
   ·right
    have hd:d.k ∈ sortI (cs.map (·.k)):=(sortI_perm _).mem_iff.2 (List.mem_map.2 ⟨d,h1,rfl⟩)
    have:(sortI (cs.map (·.k)))[(sortI (cs.map (·.k))).idxOf d.k]? = some d.k:=by
     rw [List.getElem?_eq_getElem (List.idxOf_lt_length_of_mem hd),List.getElem_idxOf]
    rw [e,hk] at this
    exact born_inj hn h1 hc ((Option.some.inj this).symm.trans hck.symm)
   ·exact .inl ⟨h1,by omega,h3⟩
  ·rintro (⟨h1,h2,h3⟩ | rfl)
   ·exact ⟨h1,by omega,h3⟩
   ·exact ⟨hc,by rw [hck,hidx]; omega,by rw [hck,hidx]; exact h⟩
 apply List.ext_getElem?
 intro j
 rw [List.getElem?_set,ovl_get,ovl_get,length_ovl]
 by_cases hj:k.toNat = j
 ·rw [if_pos hj]
  have h1:valC (keptC cs keep (i + 1)) (j:Int) = some L:=(valC_iff hn1 _ _).2 ⟨c,(hmem c).2 (.inr rfl),by omega,hcL⟩
  rw [h1]
  subst hj
  by_cases hl:k.toNat < last.length
  ·simp [hl]
  ·simp [hl]
 ·rw [if_neg hj]
  have h1:valC (keptC cs keep (i + 1)) (j:Int) = valC (keptC cs keep i) (j:Int):=by
   apply Option.ext
   intro X
   rw [valC_iff hn1,valC_iff hn0]
   constructor
   ·rintro ⟨d,hd,hdk,rfl⟩
    rcases (hmem d).1 hd with h2 | rfl
    ·exact ⟨d,h2,hdk,rfl⟩
    ·omega
   ·rintro ⟨d,hd,hdk,rfl⟩
    exact ⟨d,(hmem d).2 (.inl hd),hdk,rfl⟩
  rw [h1]
theorem keptC_mem {cs:List CE} {keep:Nat → Bool} {i:Nat}:∀ c ∈ keptC cs keep i,c ∈ cs:=fun _ hc=>(List.mem_filter.1 hc).1
theorem PlOk.arm {pb:Nat} {M:Pl} (h:PlOk pb M) (d:Int):PlOk pb (armPl M d):=by
 unfold armPl
 split
 ·rename_i hd
  exact { h with c0:=by show 0 ≤ d ∧ d < _; omega }
 ·exact h
theorem PlOk.lose {pb:Nat} {M:Pl} (h:PlOk pb M):PlOk pb (losePl M):=
 { h with len:=by simp [losePl,EMPTY],sec:=fun L hL=>by simp [losePl,EMPTY] at hL; rw [hL.2]; exact secOk_zero,csk:=fun _ hc=>(by cases hc),nk:=List.nodup_nil,nb:=List.nodup_nil,c0:=by show (0:Int) ≤ 0 ∧ (0:Int) < _; omega }
theorem PlOk.restart {pb:Nat} {M:Pl} (h:PlOk pb M) (keep:Nat → Bool):PlOk pb (restartPl M keep):=
 { h with len:=(length_ovl _ _).trans h.len,sec:=ovl_sec h.sec (fun c hc=>(h.csk c (keptC_mem c hc)).2.2.1),csk:=fun _ hc=>(by cases hc),nk:=List.nodup_nil,nb:=List.nodup_nil,c0:=by show (0:Int) ≤ 0 ∧ (0:Int) < _; omega }
def OwnI (w:World) (base:Nat) (e:TypeId) (A:Option Addr) (n cp:Nat) (ys:List Int):Prop:=w.ownsRow base e 1 (.slice A n cp) n (ys.map (.int .i64))
def ownB (A:Option Addr) (x:Nat):Prop:=∃ a,A = some a ∧ x = a.block
theorem OwnI.kept {w w':World} {base:Nat} {e:TypeId} {A:Option Addr} {n cp:Nat} {ys:List Int} {T:Nat → Prop} (h:OwnI w base e A n cp ys) (hk:Kept T w w') (hT:∀ x,ownB A x → ¬ T x):OwnI w' base e A n cp ys:=by
 refine ⟨h.1,h.2.imp_right ?_⟩
 rintro ⟨g,cap,cur,hv,h1,h2,h3⟩
 have hg:g < w.heap.size:=(Array.getElem?_eq_some_iff.1 h2).1
 simp only [Value.slice.injEq] at hv
 exact ⟨g,cap,cur,by simp [hv],h1,(hk.block g hg (hT g ⟨_,hv.1,rfl⟩)).trans h2,h3⟩
theorem OwnI.own {w:World} {base:Nat} {e:TypeId} {A:Option Addr} {n cp:Nat} {ys:List Int} (h:OwnI w base e A n cp ys):∀ x,ownB A x → base ≤ x ∧ x < w.heap.size:=by
 rintro x ⟨a,rfl,rfl⟩
 rcases h.2 with ⟨hv,_⟩ | ⟨g,cap,cur,hv,h1,h2,_⟩
 ·simp at hv
 ·simp only [Value.slice.injEq,Option.some.injEq] at hv
  rw [hv.1]
  exact ⟨h1,(Array.getElem?_eq_some_iff.1 h2).1⟩
theorem OwnI.nil (w:World) (base:Nat) (e:TypeId):OwnI w base e none 0 0 []:=World.ownsRow_nil w base e 1
theorem OwnI.len {w:World} {base:Nat} {e:TypeId} {A:Option Addr} {n cp:Nat} {ys:List Int} (h:OwnI w base e A n cp ys):ys.length = n:=by
 have:=h.1
 simpa using this
theorem OwnI.get {w:World} {base:Nat} {e:TypeId} {A:Option Addr} {n cp:Nat} {ys:List Int} (h:OwnI w base e A n cp ys) {j:Nat} {k:Int} (hj:ys[j]? = some k):∃ g,A = some ⟨g,0,none⟩ ∧ base ≤ g ∧ g < w.heap.size ∧ w.cell? ⟨g,j,none⟩ = some (.int .i64 k):=by
 rcases h.2 with ⟨_,hn⟩ | ⟨g,cap,cur,hv,h1,h2,_⟩
 ·have:=h.len
  have:=(List.getElem?_eq_some_iff.1 hj).1
  omega
 ·simp only [Value.slice.injEq] at hv
  obtain ⟨rfl,_,rfl⟩:=hv
  have h3:=World.ownsRow.cells h (g:=g) rfl j (.int .i64 k) (by simp [hj])
  rw [add_norm,Nat.zero_add] at h3
  exact ⟨g,rfl,h1,(Array.getElem?_eq_some_iff.1 h2).1,h3⟩
theorem kept_grown {w w':World} {v:Value} (h:w.grownBy w' v.ownBlock) {A:Option Addr} {n cp:Nat} (hv:v = .slice A n cp):Kept (ownB A) w w':=by
 subst hv
 refine ⟨h.os,h.tape,h.output,h.size,fun k hk hn=>h.block k hk (fun e=>?_)⟩
 cases A with
 | none=>simp [Value.ownBlock] at e
 | some a=>simp only [Value.ownBlock,Option.some.injEq] at e; exact hn ⟨a,rfl,e⟩
section
variable {P:Program}
theorem run_appendI (w:World) (base:Nat) (t ty e:TypeId) (A:Option Addr) (n cp:Nat) (ys:List Int) (g cap:Nat) (tt:TypeId) (k:Int) (ht:P.underlying t = some (.slice e)) (hi:(P.info? e).map (fun i=>(i.zero,i.size,i.bytes)) = some (some (.int .i64 0),1,8))
  (h:OwnI w base e A n cp ys) (hB:Blk w g tt [.int .i64 k]) (hn:n ≤ 64) (hb:base ≤ w.heap.size) (h0:n = 0 → A = none) (hg:¬ ownB A g) :
  ∃ A' cp' w',(Builtin.append_ #[t,t] ty #[.slice A n cp,.slice (some ⟨g,0,none⟩) 1 cap]).run P w = .ok (.slice A' (n + 1) cp') w' ∧ OwnI w' base e A' (n + 1) cp' (ys ++ [k]) ∧ Kept (ownB A) w w' ∧ ¬ ownB A' g:=by
 obtain ⟨inf,hi1,hi2⟩:=Option.map_eq_some_iff.1 hi
 simp only [Prod.mk.injEq] at hi2
 obtain ⟨hz,hs,hby⟩:=hi2
 obtain ⟨v',w',h1,h2,h3,h4⟩:=run_append_own (P:=P) w base t ty e inf (.int .i64 0) 1 8 ht hi1 hz hs hby rfl (by omega) (.slice A n cp) n (ys.map (.int .i64)) h ⟨g,0,none⟩ 1 cap [.int .i64 k] rfl (fun j u hj=>by
  match j,hj with
  | 0,hj=>
   simp only [List.getElem?_cons_zero,Option.some.injEq] at hj
   subst hj
   rw [add_norm]
   exact hB.cell 0
  | j + 1,hj=>simp at hj) (fun u hu=>by simp at hu; subst hu; rfl) (by simp only [maxLen]; omega) (by omega) hb
 have hk:=kept_grown h3 rfl
 rcases h2.2 with ⟨_,hx⟩ | ⟨g',cap',cur,rfl,hr⟩
 ·omega
 ·refine ⟨some ⟨g',0,none⟩,cap',w',h1,by unfold OwnI; rw [List.map_append]; exact h2,hk,?_⟩
  rintro ⟨a,ha,hag⟩
  simp only [Option.some.injEq] at ha
  subst ha
  have hag:g = g':=hag
  subst hag
  by_cases hn0:n = 0
  ·subst hn0
   have hA:=h0 rfl
   subst hA
   have hcp:cp = 0:=by
    rcases h.2 with ⟨hv,_⟩ | ⟨g2,cap2,cur2,hv,_⟩
    ·simpa using hv
    ·simp at hv
   subst hcp
   obtain ⟨c,rest,w2,h5,_⟩:=run_appendNil1 (P:=P) w t ty e inf (.int .i64 0) (.int .i64 k) ht hi1 hz hs (by rw [hby]; decide) g cap tt [] hB
   rw [h1] at h5
   simp only [Result.ok.injEq,Value.slice.injEq,Option.some.injEq,Addr.mk.injEq] at h5
   have:=hB.lt
   omega
  ·have h6:w'.heap[g]? = w.heap[g]?:=hk.block g hB.lt hg
   have h7:w.heap[g]? = some (.cells [.int .i64 k].toArray tt (0,0)):=hB
   rw [h6,h7] at hr
   have h8:=hr.2.1
   simp only [Option.some.injEq,Obj.cells.injEq] at h8
   have h9:=hr.2.2.1
   have h10:=hr.2.2.2.2.1
   rw [← h8.1] at h10
   simp at h10
   omega
theorem run_bytesSec (w:World) (src dst e:TypeId) (g k cap:Nat) (t:TypeId) (last:List (List Int)) (L:List Int) (hs:P.underlying src = some (.slice e)) (he:P.underlying e = some (.int .u8)) (hd:P.underlying dst = some .string)
  (hB:Blk w g t (secsV last)) (hl:∀ L ∈ last,L.length = 64) (hk:last[k]? = some L) (hL:SecOk L) :
  (convert src dst (.slice (some ⟨g,0 + k * 64,none⟩) 64 cap)).run P w = .ok (.string (bytesI L)) w:=by
 have hlt:=(List.getElem?_eq_some_iff.1 hk).1
 have e1:last = last.take k ++ L :: last.drop (k + 1):=by
  have h:=List.take_append_drop k last
  rw [← (List.getElem?_eq_some_iff.1 hk).2,← List.drop_eq_getElem_cons hlt,h]
 have e2:secsV last = intsV (last.take k).flatten ++ intsV L ++ intsV (last.drop (k + 1)).flatten:=by
  conv=>lhs; rw [e1]
  simp [secsV,intsV]
 rw [e2] at hB
 refine run_bytesAt w src dst e g (0 + k * 64) 64 cap t L _ _ hs he hd hB ?_ hL.1 hL.2
 have h3:=flat_len (last:=last.take k) (fun L hL=>hl L (List.mem_of_mem_take hL))
 simp only [intsV,List.length_map,h3,List.length_take]
 omega
theorem run_clearSecs (w:World) (t e ty:TypeId) (g n cap:Nat) (tt:TypeId) (last:List (List Int)) (b:Nat) (ht:P.underlying t = some (.slice e)) (hi:(P.info? e).map (fun i=>(i.zero,i.size,i.bytes)) = some (some (secV zeroSec),64,b))
  (hB:Blk w g tt (secsV last)) (hl:∀ L ∈ last,L.length = 64) (hn:last.length = n) (h1n:1 ≤ n) :
  ∃ w',(Builtin.clear_ #[t] ty #[.slice (some ⟨g,0,none⟩) n cap]).run P w = .ok (.tuple #[]) w' ∧ Blk w' g tt (secsV (EMPTY n)) ∧ Kept (fun x=>x = g) w w' ∧ w'.heap.size = w.heap.size:=by
 obtain ⟨inf,hi1,hi2⟩:=Option.map_eq_some_iff.1 hi
 simp only [Prod.mk.injEq] at hi2
 obtain ⟨hz,hs,_⟩:=hi2
 have hcz:(secV zeroSec).cells = (intsV zeroSec).toArray:=rfl
 have hrep:intsV zeroSec = List.replicate 64 (.int .u8 0):=by simp [intsV,zeroSec]
 have hz1:(Builtin.zeroCells (secV zeroSec).cells n).toList = secsV (EMPTY n):=by
  have h1:secsV (EMPTY n) = List.replicate (n * 64) (.int .u8 0):=by
   unfold secsV EMPTY
   rw [show zeroSec = List.replicate 64 (0:Int) from rfl,List.flatten_replicate_replicate]
   simp [intsV]
  rw [h1,List.eq_replicate_iff]
  refine ⟨by simp [Builtin.zeroCells,hcz,hrep],fun b hb=>?_⟩
  simp only [Builtin.zeroCells,hcz,hrep,Array.toList_map,List.mem_map] at hb
  obtain ⟨i,_,rfl⟩:=hb
  have hr:∀ m j,j < m → (List.replicate m (Value.int .u8 0)).toArray[j]! = .int .u8 0:=fun m j h=>by simp [h]
  have hsz:(List.replicate 64 (Value.int .u8 0)).toArray.size = 64:=by simp
  rw [hsz]
  exact hr 64 _ (Nat.mod_lt _ (by decide))
 have hlen:=secsV_len hl
 have hlen2:(secsV (EMPTY n)).length = n * 64:=by
  rw [secsV_len (last:=EMPTY n) (fun L hL=>by simp [EMPTY] at hL; rw [hL.2]; exact secOk_zero.1)]
  simp [EMPTY]
 have hst:=run_storeCells_at P g 0 tt (secsV (EMPTY n)) 0 (secsV last).toArray w hB (by simp [hlen,hlen2,hn]) (fun u hu=>by
  simp only [secsV,intsV,List.mem_map] at hu
  obtain ⟨x,_,rfl⟩:=hu
  rfl)
 have e3:((secsV last).toArray.toList.take 0 ++ secsV (EMPTY n) ++ (secsV last).toArray.toList.drop (0 + (secsV (EMPTY n)).length)) = secsV (EMPTY n):=by
  rw [List.drop_of_length_le (by simp [hlen,hlen2,hn])]
  simp
 simp only [Nat.add_zero] at hst
 rw [e3] at hst
 refine ⟨_,?_,setRow_blk hB _,setRow_kept w g _,setRow_size w g _⟩
 obtain ⟨m,rfl⟩:∃ m,n = m + 1:=⟨n - 1,by omega⟩
 simp [Builtin.clear_,run_underlying ht,zeroValue,typeInfo,hi1,hz,hz1,hst,Result.andThen]
theorem run_look0 (w:World) (t k e:TypeId) (kk:IntKind) (m:Nat) (cs:List CE) (clock:Nat) (n:Int) (L:List Int) (ht:P.underlying t = some (.map k e)) (hk:P.underlying k = some (.int kk)) (hm:MapAt w m cs clock) (hv:valC cs n = some L) :
  (Instr.lookup t (.map (some m)) (.int .i64 n) false).run P w = .ok (secV L) w:=by
 have h1:(getObj m).run P w = .ok (.map (cs.map CE.ent).toArray clock) w:=Go.MapKept.run_getObj_map hm
 have h2:∀ b,(Instr.checkKey b 10000 k (.int .i64 n)).run P w = .ok () w:=fun b=>by
  unfold Instr.checkKey
  simp [run_underlying hk]
 have h3:=run_findKey (P:=P) (w:=w) (kt:=k) (k:=.int .i64 n) hk (findNow_look kk n cs 0)
 have h4:=lookI_val cs n 0
 unfold Instr.lookup
 cases hl:lookI cs n 0 with
 | none=>
  rw [hl,hv] at h4
  cases h4
 | some p=>
  rw [hl,hv] at h4
  simp only [Option.map_some,Option.some.injEq] at h4
  rw [hl] at h3
  simp only [Option.map_some] at h3
  simp [run_underlying ht,h1,h2,h3,h4]
theorem run_newStrs (w:World) (t e:TypeId) (n b:Nat) (ht:P.underlying t = some (.slice e)) (hi:(P.info? e).map (fun i=>(i.zero,i.size,i.bytes)) = some (some (.string ⟨#[]⟩),1,b)) (hb:(b:Int) * (n:Int) ≤ 281474976710656) (hn:(n:Int) ≤ 9223372036854775807) :
  ∃ w',(Instr.makeSlice t (.int .i64 (n:Int)) (.int .i64 (n:Int))).run P w = .ok (.slice (some ⟨w.heap.size,0,none⟩) n n) w' ∧ Blk w' w.heap.size e (List.replicate n (.string ⟨#[]⟩)) ∧ Kept (fun _=>False) w w':=by
 obtain ⟨inf,hi1,hi2⟩:=Option.map_eq_some_iff.1 hi
 simp only [Prod.mk.injEq] at hi2
 obtain ⟨hz,hs,hby⟩:=hi2
 have h1:=run_make (P:=P) w t e inf (.string ⟨#[]⟩) ht hi1 hz .i64 .i64 (n:Int) (n:Int) (by omega) (Int.le_refl _) (by rw [hby]; exact hb) hn
 simp only [Int.toNat_natCast,hs] at h1
 refine ⟨_,h1,?_,(Kept.refl _ w).alloc _⟩
 have h2:=Blk.new w e (madeCells (Value.string ⟨#[]⟩).cells (n * 1)).toList
 rw [Array.toArray_toList] at h2
 have e1:(madeCells (Value.string ⟨#[]⟩).cells (n * 1)).toList = List.replicate n (.string ⟨#[]⟩):=by
  rw [show (Value.string ⟨#[]⟩).cells = #[.string ⟨#[]⟩] from rfl,toList_madeCells_one,Nat.mul_one]
 rw [← e1]
 exact h2
end
def strV (L:List Int):Value:=sT (bytesI L)
def imgP (last:List (List Int)) (i:Nat):List Value:=(last.take i).map strV ++ List.replicate (last.length - i) (sT ⟨#[]⟩)
theorem imgP_zero (last:List (List Int)):imgP last 0 = List.replicate last.length (.string ⟨#[]⟩):=by simp [imgP]
theorem imgP_all (last:List (List Int)):imgP last last.length = last.map strV:=by simp [imgP]
theorem imgP_len {last:List (List Int)} {i:Nat} (h:i ≤ last.length):(imgP last i).length = last.length:=by
 simp [imgP]
 omega
theorem imgP_step {last:List (List Int)} {i:Nat} {L:List Int} (h:last[i]? = some L):(imgP last i).take i ++ [strV L] ++ (imgP last i).drop (i + 1) = imgP last (i + 1):=by
 have hlt:=(List.getElem?_eq_some_iff.1 h).1
 have hl:((last.take i).map strV).length = i:=by simp; omega
 unfold imgP
 rw [List.take_append_of_le_length (by omega),List.take_of_length_le (by omega),List.drop_append,List.drop_of_length_le (by omega),hl,List.nil_append,List.drop_replicate,List.take_add_one,h]
 simp
 omega
theorem store_img {P:Program} {w0 wx:World} {S:Nat → Prop} {bk:List Bk} {wn:List Wn} {sz i g k:Nat} {t tt:TypeId} {last:List (List Int)} {L:List Int} (hm:MemOk w0 S bk wn sz wx) (hi:bk[i]? = some ⟨g,tt,true,imgP last k⟩) (hk:last[k]? = some L) (hs:(P.info? t).map (·.size) = some 1) :
  ∃ w',(Instr.storeAt t (.pointer (some ⟨g,0 + k * 1,none⟩)) (strV L)).run P wx = .ok () w' ∧ Kept (fun x=>x = g) wx w' ∧ sz ≤ w'.heap.size ∧ MemOk w0 S (bk.set i ⟨g,tt,true,imgP last (k + 1)⟩) wn w'.heap.size w':=by
 have hB:Blk wx g tt (imgP last k):=hm.at_ i hi
 have hlt:=(List.getElem?_eq_some_iff.1 hk).1
 have hlen:=imgP_len (last:=last) (i:=k) (by omega)
 have h1:=run_storeG (P:=P) wx t g (0 + k * 1) tt (imgP last k) (strV L) (by rw [hs]; rfl) hB (by rw [hlen]; show 0 + k * 1 + 1 ≤ _; omega) (fun u hu=>by
  simp only [strV,Value.cells,List.mem_singleton] at hu
  subst hu
  rfl)
 have e:((imgP last k).take (0 + k * 1) ++ (strV L).cells.toList ++ (imgP last k).drop (0 + k * 1 + (strV L).cells.size)) = imgP last (k + 1):=by
  rw [Nat.zero_add,Nat.mul_one]
  exact imgP_step hk
 rw [e] at h1
 have h2:=hm.set1 i hi rfl (setRow_kept wx g _) (setRow_blk hB (imgP last (k + 1)))
 exact ⟨_,h1,setRow_kept wx g _,h2⟩
theorem nodup_lt:∀ (n:Nat) (l:List Nat),l.Nodup → (∀ x ∈ l,x < n) → l.length ≤ n
 | 0,l,_,h=>by
  cases l with
  | nil=>simp
  | cons a l=>exact absurd (h a (by simp)) (by omega)
 | n + 1,l,hn,h=>by
  have h1:=nodup_lt n (l.erase n) (hn.erase n) (fun x hx=>by
   have h2:=(List.Nodup.mem_erase_iff hn).1 hx
   have:=h x h2.2
   have:=h2.1
   omega)
  have h3:=List.length_erase (a:=n) (l:=l)
  split at h3 <;> omega
theorem PlOk.cs64 {pb:Nat} {M:Pl} (h:PlOk pb M):M.cs.length ≤ 64:=by
 have h1:=nodup_lt M.n (M.cs.map (fun c=>c.k.toNat)) (by
  have h2:=h.nk
  rw [List.nodup_iff_pairwise_ne,List.pairwise_map] at h2 ⊢
  refine List.Pairwise.imp_of_mem (fun {a b} ha hb hne e=>hne ?_) h2
  have h3:=h.csk a ha
  have h4:=h.csk b hb
  omega) (fun x hx=>by
  obtain ⟨c,hc,rfl⟩:=List.mem_map.1 hx
  have:=h.csk c hc
  omega)
 rw [List.length_map] at h1
 have:=h.n1
 omega
def keepB (nk:Nat) (kf:Nat → Num1) (j:Nat):Bool:=decide (j < nk) && ((kf j).v.tmod 2 != 0)
def NumsIn (w:World) (K:Option Addr) (n:Nat) (f:Nat → Num1) (T:Nat → Prop):Prop:=
 ∀ k,k < n → ∃ b o,K = some ⟨b,o,none⟩ ∧ b < w.heap.size ∧ ¬ T b ∧ w.cell? ⟨b,o + k * 1,none⟩ = some (.int .i64 (f k).v)
theorem keys_get {cs:List CE} {i:Nat} (h:i < cs.length):∃ k,(sortI (cs.map (·.k)))[i]? = some k ∧ ∃ c ∈ cs,c.k = k:=by
 have hl:i < (sortI (cs.map (·.k))).length:=by rw [sortI_len,List.length_map]; exact h
 refine ⟨_,List.getElem?_eq_getElem hl,?_⟩
 have h1:=(sortI_perm (cs.map (·.k))).mem_iff.1 (List.getElem_mem hl)
 exact List.mem_map.1 h1
end Go.Proofs.Ytpilmccjjbgmiaa
