import Derived.Test.YtpilmccjjbgmiaaPlatM
import Derived.Maps.RangeRun
namespace Go.Proofs.Ytpilmccjjbgmiaa
open Go.RowKit Go.MapKept Go.ChangeMaps
structure Pl where
 lb:Nat
 mb:Nat
 n:Nat
 last:List (List Int)
 cs:List CE
 ck:Nat
 off:Bool
 acts:Int
 armed:Int
def dn (c:Int):Int:=if 0 < c then c - 1 else c
def Pl.goes (M:Pl):Bool:=!M.off && !decide (M.armed = 1)
def actPl (M:Pl):Pl:=if M.off = true then M else { M with off:=decide (M.armed = 1),acts:=M.acts + 1,armed:=dn M.armed }
def platC (lb mb n:Nat) (off:Bool) (acts armed:Int):List Value:=[.slice (some ⟨lb,0,none⟩) n n,.map (some mb),.bool off,i6 acts,i6 armed]
def platCells (M:Pl):List Value:=platC M.lb M.mb M.n M.off M.acts M.armed
def valC (cs:List CE) (n:Int):Option (List Int):=(cs.find? (fun c=>c.k == n)).map (·.L)
def ovl (last:List (List Int)) (cs:List CE):List (List Int):=last.mapIdx (fun j L=>(valC cs (j:Int)).getD L)
def secsV (last:List (List Int)):List Value:=intsV last.flatten
def EMPTY (n:Nat):List (List Int):=List.replicate n zeroSec
def SecOk (L:List Int):Prop:=L.length = 64 ∧ Byts L
theorem secOk_of {s:ByteArray} (h:s.size = 64):SecOk (intsOf s):=⟨by rw [length_intsOf,h],byts_intsOf s⟩
theorem secOk_zero:SecOk zeroSec:=⟨by simp [zeroSec],fun x hx=>by simp [zeroSec] at hx; omega⟩
structure PlOk (pb:Nat) (M:Pl):Prop where
 ne1:pb ≠ M.mb
 ne2:pb ≠ M.lb
 ne3:M.lb ≠ M.mb
 n1:1 ≤ M.n ∧ M.n ≤ 64
 len:M.last.length = M.n
 sec:∀ L ∈ M.last,SecOk L
 csk:∀ c ∈ M.cs,0 ≤ c.k ∧ c.k < (M.n:Int) ∧ SecOk c.L ∧ c.born < M.ck
 nk:(M.cs.map (·.k)).Nodup
 nb:(M.cs.map (·.born)).Nodup
 a0:0 ≤ M.acts
 c0:0 ≤ M.armed ∧ M.armed < 4611686018427387904
structure PlatAt (tP tS:TypeId) (w:World) (pb:Nat) (M:Pl):Prop where
 p:Blk w pb tP (platCells M)
 l:Blk w M.lb tS (secsV M.last)
 m:MapAt w M.mb M.cs M.ck
 ok:PlOk pb M
def minePl (pb:Nat) (M:Pl) (x:Nat):Prop:=x = pb ∨ x = M.lb ∨ x = M.mb
def writePl (M:Pl) (k:Int) (L:List Int):Pl:=if M.goes = true then { actPl M with cs:=(putC M.cs M.ck k L).1,ck:=(putC M.cs M.ck k L).2 } else actPl M
def goesE (M:Pl):Int:=if M.goes = true then 0 else 70
def flushPl (M:Pl):Pl:=if M.goes = true then { actPl M with last:=ovl M.last M.cs,cs:=[] } else actPl M
def readPl (M:Pl) (k:Int):List Int:=(valC M.cs k).getD (M.last[k.toNat]?.getD zeroSec)
theorem PlatAt.kept {tP tS:TypeId} {w w':World} {pb:Nat} {M:Pl} {T:Nat → Prop} (h:PlatAt tP tS w pb M) (hk:Kept T w w') (hT:∀ x,minePl pb M x → ¬ T x):PlatAt tP tS w' pb M:=
 ⟨h.p.kept hk (hT _ (.inl rfl)),h.l.kept hk (hT _ (.inr (.inl rfl))),h.m.kept hk (hT _ (.inr (.inr rfl))),h.ok⟩
theorem PlatAt.lt {tP tS:TypeId} {w:World} {pb:Nat} {M:Pl} (h:PlatAt tP tS w pb M):pb < w.heap.size ∧ M.lb < w.heap.size ∧ M.mb < w.heap.size:=⟨h.p.lt,h.l.lt,h.m.lt⟩
theorem lookI_val:∀ (cs:List CE) (n:Int) (i:Nat),(lookI cs n i).map (·.2) = valC cs n
 | [],_,_=>rfl
 | c :: cs,n,i=>by
  simp only [lookI,valC,List.find?_cons]
  by_cases h:n = c.k
  ·simp [h]
  ·rw [if_neg h,beq_eq_false_iff_ne.2 (fun e=>h e.symm)]
   exact lookI_val cs n (i + 1)
theorem lookC_val (cs:List CE) (n:Int):lookC cs n = valC cs n:=lookI_val cs n 0
theorem valC_iff {cs:List CE} (hn:(cs.map (·.k)).Nodup) (n:Int) (L:List Int):valC cs n = some L ↔ ∃ c ∈ cs,c.k = n ∧ c.L = L:=by
 constructor
 ·intro h
  obtain ⟨c,hc,rfl⟩:=Option.map_eq_some_iff.1 h
  exact ⟨c,List.mem_of_find?_eq_some hc,by simpa using List.find?_some hc,rfl⟩
 ·rintro ⟨c,hc,rfl,rfl⟩
  induction cs with
  | nil=>cases hc
  | cons d cs ih=>
   simp only [valC,List.find?_cons]
   rw [List.map_cons,List.nodup_cons] at hn
   rcases List.mem_cons.1 hc with rfl | hc'
   ·simp
   ·have:(d.k == c.k) = false:=beq_eq_false_iff_ne.2 (fun e=>hn.1 (by rw [e]; exact List.mem_map.2 ⟨c,hc',rfl⟩))
    rw [this]
    exact ih hn.2 hc'
theorem valC_none {cs:List CE} (n:Int):valC cs n = none ↔ ∀ c ∈ cs,c.k ≠ n:=by
 simp [valC]
theorem nodup_filter {α β:Type} (f:α → β) (p:α → Bool) {l:List α} (h:(l.map f).Nodup):((l.filter p).map f).Nodup:=h.sublist (List.Sublist.map f List.filter_sublist)
theorem ovl_get (last:List (List Int)) (cs:List CE) (j:Nat):(ovl last cs)[j]? = last[j]?.map (fun L=>(valC cs (j:Int)).getD L):=by
 simp [ovl,List.getElem?_mapIdx]
theorem length_ovl (last:List (List Int)) (cs:List CE):(ovl last cs).length = last.length:=by simp [ovl]
theorem ovl_sec {last:List (List Int)} {cs:List CE} (h:∀ L ∈ last,SecOk L) (hc:∀ c ∈ cs,SecOk c.L):∀ L ∈ ovl last cs,SecOk L:=by
 intro L hL
 obtain ⟨j,hj⟩:=List.mem_iff_getElem?.1 hL
 rw [ovl_get] at hj
 obtain ⟨L0,h0,rfl⟩:=Option.map_eq_some_iff.1 hj
 cases hv:valC cs (j:Int) with
 | none=>exact h L0 (List.mem_of_getElem? h0)
 | some L1=>
  obtain ⟨c,hc1,rfl⟩:=Option.map_eq_some_iff.1 hv
  exact hc c (List.mem_of_find?_eq_some hc1)
theorem ovl_nil (last:List (List Int)):ovl last [] = last:=by
 apply List.ext_getElem?
 intro j
 rw [ovl_get]
 cases last[j]? <;> simp [valC]
theorem PlOk.lens {pb:Nat} {M:Pl} (h:PlOk pb M):∀ L ∈ M.last,L.length = 64:=fun L hL=>(h.sec L hL).1
theorem PlOk.read {pb:Nat} {M:Pl} (h:PlOk pb M) (k:Int):SecOk (readPl M k):=by
 unfold readPl
 cases hv:valC M.cs k with
 | some L=>
  obtain ⟨c,hc,rfl⟩:=Option.map_eq_some_iff.1 hv
  exact (h.csk c (List.mem_of_find?_eq_some hc)).2.2.1
 | none=>
  cases hl:M.last[k.toNat]? with
  | none=>exact secOk_zero
  | some L=>exact h.sec L (List.mem_of_getElem? hl)
theorem flat_len:∀ {last:List (List Int)},(∀ L ∈ last,L.length = 64) → last.flatten.length = last.length * 64
 | [],_=>rfl
 | L :: l,h=>by
  rw [List.flatten_cons,List.length_append,flat_len (fun x hx=>h x (by simp [hx])),h L (by simp),List.length_cons]
  omega
theorem flat_get:∀ {last:List (List Int)} (k j:Nat),(∀ L ∈ last,L.length = 64) → j < 64 → last.flatten[k * 64 + j]? = last[k]?.bind (·[j]?)
 | [],k,j,_,_=>by simp
 | L :: l,0,j,h,hj=>by
  rw [List.flatten_cons,Nat.zero_mul,Nat.zero_add,List.getElem?_append_left (by rw [h L (by simp)]; exact hj)]
  rfl
 | L :: l,k + 1,j,h,hj=>by
  have hL:=h L (by simp)
  rw [List.flatten_cons,List.getElem?_append_right (by omega),hL,show (k + 1) * 64 + j - 64 = k * 64 + j by omega]
  exact flat_get k j (fun x hx=>h x (by simp [hx])) hj
theorem flat_set:∀ {last:List (List Int)} (k:Nat) (L:List Int),(∀ L ∈ last,L.length = 64) → k < last.length → last.flatten.take (k * 64) ++ L ++ last.flatten.drop (k * 64 + 64) = (last.set k L).flatten
 | [],_,_,_,h=>by simp at h
 | X :: l,0,L,h,_=>by
  have hX:=h X (by simp)
  rw [List.flatten_cons,Nat.zero_mul,Nat.zero_add,List.take_zero,List.nil_append,← hX,List.drop_left,List.set_cons_zero,List.flatten_cons]
 | X :: l,k + 1,L,h,hk=>by
  have hX:=h X (by simp)
  have h1:=flat_set (last:=l) k L (fun x hx=>h x (by simp [hx])) (by simpa using hk)
  rw [List.flatten_cons,List.set_cons_succ,List.flatten_cons,← h1,show (k + 1) * 64 = X.length + k * 64 by omega,List.take_length_add_append,show X.length + k * 64 + 64 = X.length + (k * 64 + 64) by omega,List.drop_length_add_append]
  simp
theorem secsV_get {last:List (List Int)} {k:Nat} {L:List Int} (h:∀ L ∈ last,L.length = 64) (hk:last[k]? = some L):∀ j v,(intsV L)[j]? = some v → (secsV last)[0 + k * 64 + j]? = some v:=by
 intro j v hj
 simp only [intsV,List.getElem?_map,Option.map_eq_some_iff] at hj
 obtain ⟨x,hx,rfl⟩:=hj
 have hj:j < 64:=by rw [← h L (List.mem_of_getElem? hk)]; exact (List.getElem?_eq_some_iff.1 hx).1
 rw [Nat.zero_add]
 simp only [secsV,intsV,List.getElem?_map,flat_get k j h hj,hk,Option.bind_some,hx,Option.map_some]
theorem secsV_set {last:List (List Int)} {k:Nat} {L:List Int} (h:∀ L ∈ last,L.length = 64) (hk:k < last.length):(secsV last).take (0 + k * 64) ++ intsV L ++ (secsV last).drop (0 + k * 64 + 64) = secsV (last.set k L):=by
 rw [Nat.zero_add,secsV,secsV,← flat_set k L h hk]
 simp [intsV,List.map_take,List.map_drop]
theorem secsV_len {last:List (List Int)} (h:∀ L ∈ last,L.length = 64):(secsV last).length = last.length * 64:=by
 unfold secsV intsV
 rw [List.length_map,flat_len h]
theorem putC_keys {cs:List CE} {ck:Nat} {k:Int} {L:List Int}:((putC cs ck k L).1.map (·.k)) = if (valC cs k).isSome then cs.map (·.k) else cs.map (·.k) ++ [k]:=by
 unfold putC
 have h:=lookI_val cs k 0
 cases hl:lookI cs k 0 with
 | none=>
  rw [hl] at h
  simp [← h]
 | some p=>
  obtain ⟨i,L0⟩:=p
  rw [hl] at h
  simp only [← h,Option.map_some,Option.isSome_some,if_true]
  apply List.ext_getElem?
  intro j
  simp only [List.getElem?_map,List.getElem?_modify]
  by_cases hj:i = j
  ·simp [hj]
   cases cs[j]? <;> rfl
  ·simp [hj]
theorem putC_born {cs:List CE} {ck:Nat} {k:Int} {L:List Int}:((putC cs ck k L).1.map (·.born)) = if (valC cs k).isSome then cs.map (·.born) else cs.map (·.born) ++ [ck]:=by
 unfold putC
 have h:=lookI_val cs k 0
 cases hl:lookI cs k 0 with
 | none=>
  rw [hl] at h
  simp [← h]
 | some p=>
  obtain ⟨i,L0⟩:=p
  rw [hl] at h
  simp only [← h,Option.map_some,Option.isSome_some,if_true]
  apply List.ext_getElem?
  intro j
  simp only [List.getElem?_map,List.getElem?_modify]
  by_cases hj:i = j
  ·simp [hj]
   cases cs[j]? <;> rfl
  ·simp [hj]
theorem putC_mem {cs:List CE} {ck:Nat} {k:Int} {L:List Int} {c:CE} (h:c ∈ (putC cs ck k L).1):c ∈ cs ∨ (c.L = L ∧ c.k = k ∧ (c.born = ck ∧ (putC cs ck k L).2 = ck + 1 ∨ ∃ d ∈ cs,d.born = c.born ∧ d.k = c.k)):=by
 unfold putC at h ⊢
 cases hl:lookI cs k 0 with
 | none=>
  rw [hl] at h
  simp only [List.mem_append,List.mem_singleton] at h
  rcases h with h | rfl
  ·exact .inl h
  ·exact .inr ⟨rfl,rfl,.inl ⟨rfl,rfl⟩⟩
 | some p=>
  obtain ⟨i,L0⟩:=p
  rw [hl] at h
  obtain ⟨_,d,hd,hdk,_⟩:=lookI_at cs k 0 i L0 hl
  simp only [Nat.sub_zero] at hd
  obtain ⟨j,hj⟩:=List.mem_iff_getElem?.1 h
  rw [List.getElem?_modify] at hj
  by_cases hij:i = j
  ·subst hij
   rw [hd] at hj
   simp at hj
   subst hj
   exact .inr ⟨rfl,hdk,.inr ⟨d,List.mem_of_getElem? hd,rfl,rfl⟩⟩
  ·simp [hij] at hj
   exact .inl (List.mem_of_getElem? hj)
theorem putC_ck {cs:List CE} {ck:Nat} {k:Int} {L:List Int}:ck ≤ (putC cs ck k L).2:=by
 unfold putC
 cases lookI cs k 0 <;> simp
theorem putC_val {cs:List CE} {ck:Nat} {k:Int} {L:List Int} (hn:(cs.map (·.k)).Nodup) (j:Int):valC (putC cs ck k L).1 j = if j = k then some L else valC cs j:=by
 have hn':((putC cs ck k L).1.map (·.k)).Nodup:=by
  rw [putC_keys]
  split
  ·exact hn
  ·rename_i h
   rw [List.nodup_append]
   refine ⟨hn,by simp,?_⟩
   rintro a ha b hb rfl
   simp only [List.mem_singleton] at hb
   subst hb
   obtain ⟨c,hc,hck⟩:=List.mem_map.1 ha
   have h1:valC cs a = none:=by simpa using h
   exact (valC_none a).1 h1 c hc hck
 unfold putC at hn' ⊢
 have h2:=lookI_val cs k 0
 cases hl:lookI cs k 0 with
 | none=>
  rw [hl] at h2
  have h2:valC cs k = none:=h2.symm
  simp only [valC,List.find?_append,List.find?_cons,List.find?_nil]
  by_cases e:j = k
  ·rw [if_pos e]
   subst e
   have h3:cs.find? (fun c=>c.k == j) = none:=by simpa [valC] using h2
   simp [h3]
  ·rw [if_neg e,beq_eq_false_iff_ne.2 (fun x=>e x.symm)]
   simp
 | some p=>
  obtain ⟨i,L0⟩:=p
  rw [hl] at hn'
  dsimp only at hn' ⊢
  obtain ⟨_,d,hd,hdk,_⟩:=lookI_at cs k 0 i L0 hl
  simp only [Nat.sub_zero] at hd
  apply Option.ext
  intro X
  rw [valC_iff hn']
  have hmem:∀ c,c ∈ cs.modify i (fun c=>{ c with L:=L }) ↔ ∃ j,(if i = j then cs[j]?.map (fun c=>{ c with L:=L }) else cs[j]?) = some c:=fun c=>by
   rw [List.mem_iff_getElem?]
   constructor
   ·rintro ⟨j,hj⟩
    refine ⟨j,?_⟩
    rw [List.getElem?_modify] at hj
    by_cases e:i = j
    ·simp [e] at hj ⊢; exact hj
    ·simp [e] at hj ⊢; exact hj
   ·rintro ⟨j,hj⟩
    refine ⟨j,?_⟩
    rw [List.getElem?_modify]
    by_cases e:i = j
    ·simp [e] at hj ⊢; exact hj
    ·simp [e] at hj ⊢; exact hj
  have huniq:∀ q c,cs[q]? = some c → c.k = d.k → q = i:=fun q c hq hk=>by
   have h1:(cs.map (·.k))[q]? = some d.k:=by simp [hq,hk]
   have h2:(cs.map (·.k))[i]? = some d.k:=by simp [hd]
   have k1:=(List.getElem?_eq_some_iff.1 h1).1
   have k2:=(List.getElem?_eq_some_iff.1 h2).1
   have hq':=List.pairwise_iff_getElem.1 hn
   rcases Nat.lt_trichotomy q i with h | h | h
   ·exact absurd (by rw [(List.getElem?_eq_some_iff.1 h1).2,(List.getElem?_eq_some_iff.1 h2).2]) (hq' q i k1 k2 h)
   ·exact h
   ·exact absurd (by rw [(List.getElem?_eq_some_iff.1 h1).2,(List.getElem?_eq_some_iff.1 h2).2]) (hq' i q k2 k1 h)
  by_cases e:j = k
  ·rw [if_pos e]
   subst e
   constructor
   ·rintro ⟨c,hc,hck,rfl⟩
    obtain ⟨q,hq⟩:=(hmem c).1 hc
    split at hq
    ·obtain ⟨c0,_,rfl⟩:=Option.map_eq_some_iff.1 hq
     rfl
    ·rename_i hne
     exact absurd (huniq q c hq (by rw [hck,hdk])).symm hne
   ·intro h
    cases h
    exact ⟨{ d with L:=L },(hmem _).2 ⟨i,by simp [hd]⟩,hdk,rfl⟩
  ·rw [if_neg e,valC_iff hn]
   constructor
   ·rintro ⟨c,hc,hck,rfl⟩
    obtain ⟨q,hq⟩:=(hmem c).1 hc
    split at hq
    ·rename_i hiq
     subst hiq
     rw [hd] at hq
     simp at hq
     subst hq
     exact absurd (hck.symm.trans hdk) e
    ·exact ⟨c,List.mem_of_getElem? hq,hck,rfl⟩
   ·rintro ⟨c,hc,hck,rfl⟩
    obtain ⟨q,hq⟩:=List.mem_iff_getElem?.1 hc
    refine ⟨c,(hmem _).2 ⟨q,?_⟩,hck,rfl⟩
    rw [if_neg (fun x=>?_)]
    ·exact hq
    ·subst x
     rw [hd] at hq
     cases hq
     exact e (hck.symm.trans hdk)
theorem dn0 {c:Int} (h:0 ≤ c ∧ c < 4611686018427387904):0 ≤ dn c ∧ dn c < 4611686018427387904:=by unfold dn; split <;> omega
theorem PlOk.act {pb:Nat} {M:Pl} (h:PlOk pb M):PlOk pb (actPl M):=by
 unfold actPl
 split
 ·exact h
 ·exact { h with a0:=by have:=h.a0; show 0 ≤ M.acts + 1; omega,c0:=dn0 h.c0 }
theorem PlOk.put {pb:Nat} {M:Pl} (h:PlOk pb M) {k:Int} {L:List Int} (hk:0 ≤ k ∧ k < (M.n:Int)) (hL:SecOk L):PlOk pb { M with cs:=(putC M.cs M.ck k L).1,ck:=(putC M.cs M.ck k L).2 }:=by
 refine { h with csk:=fun c hc=>?_,nk:=?_,nb:=?_ }
 ·rcases putC_mem hc with h1 | ⟨h1,h2,h3⟩
  ·obtain ⟨a,b,c',d⟩:=h.csk c h1
   exact ⟨a,b,c',Nat.lt_of_lt_of_le d putC_ck⟩
  ·refine ⟨by rw [h2]; exact hk.1,by rw [h2]; exact hk.2,by rw [h1]; exact hL,?_⟩
   rcases h3 with ⟨h3,h4⟩ | ⟨d,hd,h3,_⟩
   ·show c.born < (putC M.cs M.ck k L).2
    omega
   ·rw [← h3]
    exact Nat.lt_of_lt_of_le (h.csk d hd).2.2.2 putC_ck
 ·show ((putC M.cs M.ck k L).1.map (·.k)).Nodup
  rw [putC_keys]
  split
  ·exact h.nk
  ·rename_i hv
   rw [List.nodup_append]
   refine ⟨h.nk,by simp,?_⟩
   rintro a ha b hb rfl
   simp only [List.mem_singleton] at hb
   subst hb
   obtain ⟨c,hc,hck⟩:=List.mem_map.1 ha
   have h1:valC M.cs a = none:=by simpa using hv
   exact (valC_none a).1 h1 c hc hck
 ·show ((putC M.cs M.ck k L).1.map (·.born)).Nodup
  rw [putC_born]
  split
  ·exact h.nb
  ·rw [List.nodup_append]
   refine ⟨h.nb,by simp,?_⟩
   rintro a ha b hb rfl
   simp only [List.mem_singleton] at hb
   subst hb
   obtain ⟨c,hc,hck⟩:=List.mem_map.1 ha
   have:=(h.csk c hc).2.2.2
   omega
theorem actPl_with (M:Pl):(actPl M).cs = M.cs ∧ (actPl M).ck = M.ck ∧ (actPl M).last = M.last ∧ (actPl M).n = M.n ∧ (actPl M).lb = M.lb ∧ (actPl M).mb = M.mb:=by
 unfold actPl
 split <;> simp
theorem PlOk.write {pb:Nat} {M:Pl} (h:PlOk pb M) {k:Int} {L:List Int} (hk:0 ≤ k ∧ k < (M.n:Int)) (hL:SecOk L):PlOk pb (writePl M k L):=by
 unfold writePl
 split
 ·obtain ⟨h1,h2,_,h4,_⟩:=actPl_with M
  have:=(h.act).put (k:=k) (L:=L) (by rw [h4]; exact hk) hL
  rw [h1,h2] at this
  exact this
 ·exact h.act
theorem PlOk.flush {pb:Nat} {M:Pl} (h:PlOk pb M):PlOk pb (flushPl M):=by
 unfold flushPl
 split
 ·have ha:=h.act
  obtain ⟨h1,h2,h3,h4,_⟩:=actPl_with M
  exact { ha with len:=(length_ovl _ _).trans (by rw [h4]; exact h.len),sec:=ovl_sec h.sec (fun c hc=>(h.csk c hc).2.2.1),csk:=fun c hc=>(by cases hc),nk:=List.nodup_nil,nb:=List.nodup_nil }
 ·exact h.act
def ItAt (w:World) (g mb since:Nat) (seen:Array Nat) (c0:Nat):Prop:=w.heap[g]? = some (.mapIter (some mb) since seen c0)
theorem ItAt.kept {w w':World} {g mb since c0:Nat} {seen:Array Nat} {T:Nat → Prop} (h:ItAt w g mb since seen c0) (hk:Kept T w w') (hT:¬ T g):ItAt w' g mb since seen c0:=(hk.block g (Array.getElem?_eq_some_iff.1 h).1 hT).trans h
theorem ItAt.lt {w:World} {g mb since c0:Nat} {seen:Array Nat} (h:ItAt w g mb since seen c0):g < w.heap.size:=(Array.getElem?_eq_some_iff.1 h).1
def seenC (cs:List CE) (seen:Array Nat):List CE:=cs.filter (fun c=>seen.contains c.born)
def leftC (cs:List CE) (seen:Array Nat):List CE:=cs.filter (fun c=>!seen.contains c.born)
theorem leftOf_ent (cs:List CE) (seen:Array Nat):leftOf (cs.map CE.ent).toArray seen = ((leftC cs seen).map CE.ent).toArray:=by
 apply Array.toList_inj.1
 simp [leftOf,leftC,List.filter_map]
 rfl
theorem leftC_push {cs:List CE} {seen:Array Nat} {c:CE} (h:c ∈ leftC cs seen):(leftC cs (seen.push c.born)).length < (leftC cs seen).length:=by
 refine filter_lt _ _ (fun x hx=>?_) c ?_ ?_ cs (List.mem_filter.1 h).1
 ·simp at hx ⊢
  exact hx.1
 ·exact (List.mem_filter.1 h).2
 ·simp
theorem seen_all {cs:List CE} {seen:Array Nat} (h:leftC cs seen = []):seenC cs seen = cs:=by
 unfold leftC at h
 rw [List.filter_eq_nil_iff] at h
 exact List.filter_eq_self.2 (fun x hx=>by simpa using h x hx)
theorem seen_none (cs:List CE):seenC cs #[] = []:=by simp [seenC]
theorem ovl_step {last:List (List Int)} {cs:List CE} {seen:Array Nat} {c:CE} (hn:(cs.map (·.k)).Nodup) (hb:(cs.map (·.born)).Nodup) (h:c ∈ leftC cs seen) (hk:0 ≤ c.k) :
  (ovl last (seenC cs seen)).set c.k.toNat c.L = ovl last (seenC cs (seen.push c.born)):=by
 have hc:=(List.mem_filter.1 h).1
 have hcs:=(List.mem_filter.1 h).2
 apply List.ext_getElem?
 intro j
 rw [List.getElem?_set,ovl_get,ovl_get,length_ovl]
 have hmem:∀ d,d ∈ seenC cs (seen.push c.born) ↔ d ∈ seenC cs seen ∨ d = c:=fun d=>by
  simp only [seenC,List.mem_filter,Array.contains_push,Bool.or_eq_true,beq_iff_eq]
  constructor
  ·rintro ⟨h1,h2 | h2⟩
   ·exact .inl ⟨h1,h2⟩
   ·right
    obtain ⟨a,ha⟩:=List.mem_iff_getElem?.1 h1
    obtain ⟨b,hb'⟩:=List.mem_iff_getElem?.1 hc
    have e1:(cs.map (·.born))[a]? = some d.born:=by simp [ha]
    have e2:(cs.map (·.born))[b]? = some d.born:=by simp [hb',h2]
    have k1:=(List.getElem?_eq_some_iff.1 e1).1
    have k2:=(List.getElem?_eq_some_iff.1 e2).1
    have hq':=List.pairwise_iff_getElem.1 hb
    have hab:a = b:=by
     rcases Nat.lt_trichotomy a b with h | h | h
     ·exact absurd (by rw [(List.getElem?_eq_some_iff.1 e1).2,(List.getElem?_eq_some_iff.1 e2).2]) (hq' a b k1 k2 h)
     ·exact h
     ·exact absurd (by rw [(List.getElem?_eq_some_iff.1 e1).2,(List.getElem?_eq_some_iff.1 e2).2]) (hq' b a k2 k1 h)
    subst hab
    rw [ha] at hb'
    exact Option.some.inj hb'
  ·rintro (⟨h1,h2⟩ | rfl)
   ·exact ⟨h1,.inl h2⟩
   ·exact ⟨hc,.inr rfl⟩
 have hn1:((seenC cs (seen.push c.born)).map (·.k)).Nodup:=nodup_filter _ _ hn
 have hn0:((seenC cs seen).map (·.k)).Nodup:=nodup_filter _ _ hn
 by_cases hj:c.k.toNat = j
 ·rw [if_pos hj]
  have h1:valC (seenC cs (seen.push c.born)) (j:Int) = some c.L:=(valC_iff hn1 _ _).2 ⟨c,(hmem c).2 (.inr rfl),by omega,rfl⟩
  rw [h1]
  subst hj
  by_cases hl:c.k.toNat < last.length
  ·simp [hl]
  ·simp [hl]
 ·rw [if_neg hj]
  have h1:valC (seenC cs (seen.push c.born)) (j:Int) = valC (seenC cs seen) (j:Int):=by
   apply Option.ext
   intro X
   rw [valC_iff hn1,valC_iff hn0]
   constructor
   ·rintro ⟨d,hd,hdk,rfl⟩
    rcases (hmem d).1 hd with h2 | rfl
    ·exact ⟨d,h2,hdk,rfl⟩
    ·omega
   ·rintro ⟨d,hd,hdk,rfl⟩
    exact ⟨d,(hmem d).2 (.inl hd),hdk,rfl⟩
  rw [h1]
section
variable {P:Program}
theorem run_rangeC (w:World) (t k e:TypeId) (mb:Nat) (cs:List CE) (ck:Nat) (ht:P.underlying t = some (.map k e)) (hm:MapAt w mb cs ck) :
  ∃ w',(Instr.range t (.map (some mb))).run P w = .ok (.pointer (some ⟨w.heap.size,0,none⟩)) w' ∧ ItAt w' w.heap.size mb ck #[] ck ∧ Kept (fun _=>False) w w':=by
 refine ⟨_,run_range_map w t k e mb _ ck ht hm,(heap_alloc w _).1,(Kept.refl _ w).alloc _⟩
def nextV:Option CE → Value
 | none=>.tuple #[.bool false]
 | some c=>.tuple #[.bool true,.int .i64 c.k,secV c.L]
theorem run_nextC (w:World) (ty:TypeId) (g mb ck c0:Nat) (seen:Array Nat) (cs:List CE) (hi:ItAt w g mb ck seen c0) (hm:MapAt w mb cs ck) (hb:∀ c ∈ cs,c.born < ck) (hc:ck ≤ c0) :
  ∃ y w',(Instr.next (.pointer (some ⟨g,0,none⟩)) false ty).run P w = .ok (nextV y) w' ∧ Kept (fun x=>x = g) w w' ∧ w'.heap.size = w.heap.size ∧
   ((y = none ∧ leftC cs seen = [] ∧ ItAt w' g mb ck seen c0) ∨ (∃ c,y = some c ∧ c ∈ leftC cs seen ∧ ItAt w' g mb ck (seen.push c.born) ck)):=by
 rcases run_next_at (P:=P) w ty g mb ck c0 seen _ ck hi hm (fun x hx=>by
  simp only [List.mem_map] at hx
  obtain ⟨c,hc,rfl⟩:=hx
  exact hb c hc) hc with ⟨h1,h2⟩ | ⟨e,he,w1,hw,h2⟩
 ·rw [leftOf_ent] at h1
  refine ⟨none,w,h2,Kept.refl _ _,rfl,.inl ⟨rfl,?_,hi⟩⟩
  simpa using h1
 ·rw [leftOf_ent] at he
  simp only [List.mem_map] at he
  obtain ⟨c,hcl,rfl⟩:=he
  have hk1:Kept (fun x=>x = g) w w1 ∧ w1.heap = w.heap:=by
   rcases hw with rfl | rfl
   ·exact ⟨Kept.refl _ _,rfl⟩
   ·exact ⟨(Kept.refl _ _).drew,rfl⟩
  have hi1:w1.heap[g]? = some (.mapIter (some mb) ck seen c0):=by rw [hk1.2]; exact hi
  refine ⟨some c,_,h2,?_,?_,.inr ⟨c,rfl,hcl,?_⟩⟩
  ·refine hk1.1.trans (b:=w1) ⟨rfl,rfl,rfl,by simp [setBlock],fun q _ hq=>?_⟩ (fun _ _ e=>e)
   show (w1.heap.setIfInBounds g _)[q]? = _
   rw [Array.getElem?_setIfInBounds,if_neg (fun e=>hq e.symm)]
  ·show (w1.heap.setIfInBounds g _).size = _
   rw [Array.size_setIfInBounds,hk1.2]
  ·show (w1.heap.setIfInBounds g _)[g]? = _
   rw [Array.getElem?_setIfInBounds,if_pos rfl,if_pos (Array.getElem?_eq_some_iff.1 hi1).1]
   rfl
theorem run_entryC (w:World) (g mb ck:Nat) (seen:Array Nat) (cs:List CE) (c:CE) (hi:ItAt w g mb ck (seen.push c.born) ck) (hm:MapAt w mb cs ck) (hc:c ∈ cs) (hn:(cs.map (·.born)).Nodup) :
  (Instr.entry (.pointer (some ⟨g,0,none⟩))).run P w = .ok (.tuple #[.int .i64 c.k,secV c.L]) w:=by
 refine run_entry_at (P:=P) w g mb ck seen _ ck c.ent hi hm (by simpa using List.mem_map.2 ⟨c,hc,rfl⟩) ?_
 show ((cs.map CE.ent).map (·.born)).Nodup
 rw [List.map_map]
 exact hn
theorem run_clearC (w:World) (t k e ty:TypeId) (mb:Nat) (cs:List CE) (ck:Nat) (ht:P.underlying t = some (.map k e)) (hm:MapAt w mb cs ck) :
  ∃ w',(Builtin.clear_ #[t] ty #[.map (some mb)]).run P w = .ok (.tuple #[]) w' ∧ MapAt w' mb [] ck ∧ Kept (fun x=>x = mb) w w' ∧ w'.heap.size = w.heap.size:=by
 have h1:(getObj mb).run P w = .ok (.map (cs.map CE.ent).toArray ck) w:=Go.MapKept.run_getObj_map hm
 have h4:=Go.MapKept.run_setObj_map (P:=P) (.map #[] ck) hm
 refine ⟨{ w with heap:=w.heap.setIfInBounds mb (.map #[] ck) },?_,(heap_set hm).1,⟨rfl,rfl,rfl,by simp,fun q _ hq=>(heap_set hm).2 q hq⟩,by simp⟩
 simp [Builtin.clear_,run_underlying ht,h1,h4,Result.andThen]
theorem MemOk.back2 {w W W1:World} {S:Nat → Prop} {bk bk':List Bk} {wn:List Wn} {sz:Nat} (h:MemOk w S bk [] W.heap.size W) (h1:MemOk W (Turned bk) bk' wn sz W1):MemOk w S bk' [] sz W1:=
 ⟨h1.size,h1.blk,fun b hb hr=>(h1.own b hb hr).elim (fun ⟨c,hc,h2,h3⟩=>by rw [← h3]; exact h.own c hc h2) (fun h2=>.inr (Nat.le_trans h.kept.size h2)),h1.nd,
  h.kept.trans h1.kept (fun k hk ⟨b,hb,hr,he⟩=>(h.own b hb hr).elim (fun h2=>he ▸ h2) (fun h2=>absurd hk (by omega))),fun x hx=>by cases hx⟩
theorem store_row {w0 wx:World} {S:Nat → Prop} {bk:List Bk} {wn:List Wn} {sz i g k:Nat} {t tt:TypeId} {last:List (List Int)} {L:List Int} (hm:MemOk w0 S bk wn sz wx) (hi:bk[i]? = some ⟨g,tt,true,secsV last⟩) (hsec:∀ L ∈ last,L.length = 64) (hk:k < last.length) (hL:L.length = 64) (hs:(P.info? t).map (·.size) = some 64) :
  ∃ w',(Instr.storeAt t (.pointer (some ⟨g,0 + k * 64,none⟩)) (secV L)).run P wx = .ok () w' ∧ Kept (fun x=>x = g) wx w' ∧ sz ≤ w'.heap.size ∧ MemOk w0 S (bk.set i ⟨g,tt,true,secsV (last.set k L)⟩) wn w'.heap.size w':=by
 have hB:Blk wx g tt (secsV last):=hm.at_ i hi
 have hc:(secV L).cells = (intsV L).toArray:=rfl
 have hl:(intsV L).length = 64:=by rw [← hL]; simp [intsV]
 have hlen:=secsV_len hsec
 have h1:=run_storeG (P:=P) wx t g (0 + k * 64) tt (secsV last) (secV L) (by rw [hc,hs]; simp [hl]) hB (by rw [hc]; simp [hl,hlen]; omega) (by
  rw [hc]
  intro u hu
  simp only [intsV,List.mem_map] at hu
  obtain ⟨x,_,rfl⟩:=hu
  rfl)
 rw [hc] at h1
 have e:((secsV last).take (0 + k * 64) ++ (intsV L).toArray.toList ++ (secsV last).drop (0 + k * 64 + (intsV L).toArray.size)) = secsV (last.set k L):=by
  rw [List.size_toArray,hl]
  exact secsV_set hsec hk
 rw [e] at h1
 have h2:=hm.set1 i hi rfl (setRow_kept wx g _) (setRow_blk hB (secsV (last.set k L)))
 exact ⟨_,h1,setRow_kept wx g _,h2⟩
theorem holds_opY {D:List Deferred} {n:Nat} {w0:World} {S:Nat → Prop} {Y:Type} {body:Code} {Q:Exit → Act → World → Prop} {p:List Nat} {i:Nat} {l:List Nat} {k:List KI} {st:St} {dst:Option Nat} {x:Sem Value} {w:World} {S':Nat → Prop} (v:Y → Value) (X:Y → World → Prop) (sl:Y → List (Nat × Value))
  (hd:dstAt (opsOf (getCode body p)) st.sl i = some dst) (hx:semAt (opsOf (getCode body p)) st.sl i = some (asV x)) (hp:∀ c,putS n st.sl dst (v c) = some (sl c))
  (hr:∀ wx,MemOk w0 S st.bk st.wn st.sz wx → ∃ c w',x.run P wx = .ok (v c) w' ∧ X c w' ∧ MemOk w S' st.bk [] w'.heap.size w')
  (hh:∀ c W,X c W → MemOk w S' st.bk [] W.heap.size W → Holds D P body n W (Turned st.bk) Q (.ops p l :: k) ⟨sl c,st.bk,[],W.heap.size⟩):Holds D P body n w0 S Q (.ops p (i :: l) :: k) st:=by
 intro a wx hf hm
 simp only [sem]
 rw [wpOps_cons]
 unfold dstAt at hd
 unfold semAt at hx
 split at hd
 ·rename_i o ho
  simp only [ho,Option.some.injEq] at hx
  split at hd
  ·rename_i hg
   split at hd
   ·rename_i hk
    simp only [Option.some.injEq] at hd
    have hw:Region.wanted o (yielded (opsOf (getCode body p)) a.tmps) = true:=by simp [Region.wanted,hg]
    simp only [wpOp,ho,if_pos hw]
    refine .inl ?_
    obtain ⟨c,w',h2,h3,h4⟩:=hr wx hm
    have h5:(execOp a.eval o).run P wx = .ok (.value (v c)) w':=by
     rw [hf.rho hk,hx]
     simp only [asV,Sem.run_bind,h2,Result.andThen_ok,Sem.run_pure]
    simp only [Oper.wp,h5,Oper.upon_value]
    rw [hd]
    exact hh c w' h3 h4 _ _ (hf.put (hp c)) h4.again
   ·cases hd
  ·cases hd
 ·cases hd
end
end Go.Proofs.Ytpilmccjjbgmiaa
