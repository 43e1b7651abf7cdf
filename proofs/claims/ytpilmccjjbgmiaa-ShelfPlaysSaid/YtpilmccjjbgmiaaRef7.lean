import Derived.Test.YtpilmccjjbgmiaaPlatH
import Derived.Test.YtpilmccjjbgmiaaOwnR
namespace Go.Proofs.Ytpilmccjjbgmiaa
open Go.RowKit
def boolsV (l:List Bool):List Value:=l.map .bool
def getO (l:List Bool) (k:Nat):Bool:=l[k]?.getD false
theorem getO_set {l:List Bool} {k j:Nat} {b:Bool} (hk:k < l.length):getO (l.set k b) j = if j = k then b else getO l j:=by
 unfold getO
 rw [List.getElem?_set]
 by_cases e:k = j
 ·rw [if_pos e,if_pos hk,if_pos e.symm]
  rfl
 ·rw [if_neg e,if_neg (fun h=>e h.symm)]
theorem getB_set {now:List ByteArray} {k j:Nat} {s:ByteArray} (hk:k < now.length):getB (now.set k s) j = if j = k then s else getB now j:=by
 unfold getB
 rw [List.getElem?_set]
 by_cases e:k = j
 ·rw [if_pos e,if_pos hk,if_pos e.symm]
  rfl
 ·rw [if_neg e,if_neg (fun h=>e h.symm)]
def strsR (l:List ByteArray) (r:List Value):List Value:=strsV l ++ r
section
variable {P:Program}
theorem store_strK {w0 wx:World} {S:Nat → Prop} {bk:List Bk} {wn:List Wn} {sz i g k:Nat} {t tt:TypeId} {now:List ByteArray} {s:ByteArray} (hm:MemOk w0 S bk wn sz wx) (hi:bk[i]? = some ⟨g,tt,true,strsV now⟩) (hk:k < now.length) (hs:(P.info? t).map (·.size) = some 1) :
  ∃ w',(Instr.storeAt t (.pointer (some ⟨g,0 + k * 1,none⟩)) (.string s)).run P wx = .ok () w' ∧ Kept (fun x=>x = g) wx w' ∧ sz ≤ w'.heap.size ∧ MemOk w0 S (bk.set i ⟨g,tt,true,strsV (now.set k s)⟩) wn w'.heap.size w':=by
 have hB:Blk wx g tt (strsV now):=hm.at_ i hi
 have h1:=run_storeG (P:=P) wx t g (0 + k * 1) tt (strsV now) (.string s) (by rw [hs]; rfl) hB (by simp [strsV,Value.cells]; omega) (fun u hu=>by
  simp only [Value.cells,List.mem_singleton] at hu
  subst hu
  rfl)
 have e:((strsV now).take (0 + k * 1) ++ (Value.string s).cells.toList ++ (strsV now).drop (0 + k * 1 + (Value.string s).cells.size)) = strsV (now.set k s):=by
  rw [Nat.zero_add,Nat.mul_one]
  show (strsV now).take k ++ [.string s] ++ (strsV now).drop (k + 1) = _
  unfold strsV
  rw [List.map_set,List.set_eq_take_append_cons_drop,if_pos (by simpa using hk)]
  simp
 rw [e] at h1
 exact ⟨_,h1,setRow_kept wx g _,hm.set1 i hi rfl (setRow_kept wx g _) (setRow_blk hB (strsV (now.set k s)))⟩
theorem store_strR {w0 wx:World} {S:Nat → Prop} {bk:List Bk} {wn:List Wn} {sz i g k:Nat} {t tt:TypeId} {now:List ByteArray} {r:List Value} {s:ByteArray} (hm:MemOk w0 S bk wn sz wx) (hi:bk[i]? = some ⟨g,tt,true,strsR now r⟩) (hk:k < now.length) (hs:(P.info? t).map (·.size) = some 1) :
  ∃ w',(Instr.storeAt t (.pointer (some ⟨g,0 + k * 1,none⟩)) (.string s)).run P wx = .ok () w' ∧ Kept (fun x=>x = g) wx w' ∧ sz ≤ w'.heap.size ∧ MemOk w0 S (bk.set i ⟨g,tt,true,strsR (now.set k s) r⟩) wn w'.heap.size w':=by
 have hB:Blk wx g tt (strsR now r):=hm.at_ i hi
 have h1:=run_storeG (P:=P) wx t g (0 + k * 1) tt (strsR now r) (.string s) (by rw [hs]; rfl) hB (by simp [strsR,strsV,Value.cells]; omega) (fun u hu=>by
  simp only [Value.cells,List.mem_singleton] at hu
  subst hu
  rfl)
 have e:((strsR now r).take (0 + k * 1) ++ (Value.string s).cells.toList ++ (strsR now r).drop (0 + k * 1 + (Value.string s).cells.size)) = strsR (now.set k s) r:=by
  rw [Nat.zero_add,Nat.mul_one]
  show (strsR now r).take k ++ [.string s] ++ (strsR now r).drop (k + 1) = _
  have hl:k < (strsV now).length:=by simpa [strsV] using hk
  unfold strsR
  rw [List.take_append_of_le_length (by omega),List.drop_append_of_le_length (by omega)]
  unfold strsV
  rw [List.map_set,List.set_eq_take_append_cons_drop,if_pos (by simpa using hk)]
  simp
 rw [e] at h1
 exact ⟨_,h1,setRow_kept wx g _,hm.set1 i hi rfl (setRow_kept wx g _) (setRow_blk hB (strsR (now.set k s) r))⟩
theorem load_strR {w0 wx:World} {S:Nat → Prop} {bk:List Bk} {wn:List Wn} {sz i g k:Nat} {t tt:TypeId} {b:Bool} {now:List ByteArray} {r:List Value} (hm:MemOk w0 S bk wn sz wx) (hi:bk[i]? = some ⟨g,tt,b,strsR now r⟩) (hk:k < now.length) (ha:oneB P t = true) :
  (Instr.loadAt t (.pointer (some ⟨g,0 + k * 1,none⟩))).run P wx = .ok (.string (getB now k)) wx:=by
 refine run_loadV wx t g (0 + k * 1) tt (strsR now r) _ ha (hm.at_ i hi) ?_
 rw [Nat.zero_add,Nat.mul_one]
 unfold strsR
 rw [List.getElem?_append_left (by simpa [strsV] using hk)]
 simp [strsV,getB,hk]
theorem store_boolK {w0 wx:World} {S:Nat → Prop} {bk:List Bk} {wn:List Wn} {sz i g k:Nat} {t tt:TypeId} {now:List Bool} {s:Bool} (hm:MemOk w0 S bk wn sz wx) (hi:bk[i]? = some ⟨g,tt,true,boolsV now⟩) (hk:k < now.length) (hs:(P.info? t).map (·.size) = some 1) :
  ∃ w',(Instr.storeAt t (.pointer (some ⟨g,0 + k * 1,none⟩)) (.bool s)).run P wx = .ok () w' ∧ Kept (fun x=>x = g) wx w' ∧ sz ≤ w'.heap.size ∧ MemOk w0 S (bk.set i ⟨g,tt,true,boolsV (now.set k s)⟩) wn w'.heap.size w':=by
 have hB:Blk wx g tt (boolsV now):=hm.at_ i hi
 have h1:=run_storeG (P:=P) wx t g (0 + k * 1) tt (boolsV now) (.bool s) (by rw [hs]; rfl) hB (by simp [boolsV,Value.cells]; omega) (fun u hu=>by
  simp only [Value.cells,List.mem_singleton] at hu
  subst hu
  rfl)
 have e:((boolsV now).take (0 + k * 1) ++ (Value.bool s).cells.toList ++ (boolsV now).drop (0 + k * 1 + (Value.bool s).cells.size)) = boolsV (now.set k s):=by
  rw [Nat.zero_add,Nat.mul_one]
  show (boolsV now).take k ++ [.bool s] ++ (boolsV now).drop (k + 1) = _
  unfold boolsV
  rw [List.map_set,List.set_eq_take_append_cons_drop,if_pos (by simpa using hk)]
  simp
 rw [e] at h1
 exact ⟨_,h1,setRow_kept wx g _,hm.set1 i hi rfl (setRow_kept wx g _) (setRow_blk hB (boolsV (now.set k s)))⟩
theorem store_bool {w0 wx:World} {S:Nat → Prop} {bk:List Bk} {wn:List Wn} {sz i g k:Nat} {t tt:TypeId} {now:List Bool} {s:Bool} (hm:MemOk w0 S bk wn sz wx) (hi:bk[i]? = some ⟨g,tt,true,boolsV now⟩) (hk:k < now.length) (hs:(P.info? t).map (·.size) = some 1) :
  ∃ w',(Instr.storeAt t (.pointer (some ⟨g,0 + k * 1,none⟩)) (.bool s)).run P wx = .ok () w' ∧ sz ≤ w'.heap.size ∧ MemOk w0 S (bk.set i ⟨g,tt,true,boolsV (now.set k s)⟩) wn w'.heap.size w':=by
 obtain ⟨w',h1,_,h2⟩:=store_boolK hm hi hk hs
 exact ⟨w',h1,h2⟩
theorem load_bool {w0 wx:World} {S:Nat → Prop} {bk:List Bk} {wn:List Wn} {sz i g k:Nat} {t tt:TypeId} {b:Bool} {now:List Bool} (hm:MemOk w0 S bk wn sz wx) (hi:bk[i]? = some ⟨g,tt,b,boolsV now⟩) (hk:k < now.length) (ha:oneB P t = true) :
  (Instr.loadAt t (.pointer (some ⟨g,0 + k * 1,none⟩))).run P wx = .ok (.bool (getO now k)) wx:=by
 refine run_loadV wx t g (0 + k * 1) tt (boolsV now) _ ha (hm.at_ i hi) ?_
 rw [Nat.zero_add,Nat.mul_one]
 simp [boolsV,getO,hk]
end
structure Rf where
 sure:List ByteArray
 last:List ByteArray
 has:List Bool
 acts:Int
 armed:Int
 off:Bool
structure G7 where
 qb:Nat
 sg:Nat
 lg:Nat
 hg:Nat
 sc:Nat
 n:Nat
 r:List Value
def G7.mine (g:G7) (x:Nat):Prop:=x = g.qb ∨ x = g.sg ∨ x = g.lg ∨ x = g.hg
structure G7.Ok (g:G7):Prop where
 n1:1 ≤ g.n ∧ g.n ≤ 64
 a:g.qb ≠ g.sg
 b:g.qb ≠ g.lg
 c:g.qb ≠ g.hg
 d:g.sg ≠ g.lg
 e:g.sg ≠ g.hg
 f:g.lg ≠ g.hg
def rfCells (g:G7) (R:Rf):List Value:=[.slice (some ⟨g.sg,0,none⟩) g.n g.sc,.slice (some ⟨g.lg,0,none⟩) g.n g.n,.slice (some ⟨g.hg,0,none⟩) g.n g.n,i6 R.acts,i6 R.armed,.bool R.off]
structure RfAt (tR tS tB:TypeId) (w:World) (g:G7) (R:Rf):Prop where
 p:Blk w g.qb tR (rfCells g R)
 s:Blk w g.sg tS (strsR R.sure g.r)
 l:Blk w g.lg tS (strsV R.last)
 h:Blk w g.hg tB (boolsV R.has)
 ls:g.n ≤ R.sure.length
 ll:R.last.length = g.n
 lh:R.has.length = g.n
theorem RfAt.kept {tR tS tB:TypeId} {w w':World} {g:G7} {R:Rf} {T:Nat → Prop} (h:RfAt tR tS tB w g R) (hk:Kept T w w') (hT:∀ x,g.mine x → ¬ T x):RfAt tR tS tB w' g R:=
 ⟨h.p.kept hk (hT _ (.inl rfl)),h.s.kept hk (hT _ (.inr (.inl rfl))),h.l.kept hk (hT _ (.inr (.inr (.inl rfl)))),h.h.kept hk (hT _ (.inr (.inr (.inr rfl)))),h.ls,h.ll,h.lh⟩
theorem RfAt.lt {tR tS tB:TypeId} {w:World} {g:G7} {R:Rf} (h:RfAt tR tS tB w g R):∀ x,g.mine x → x < w.heap.size:=by
 rintro x (rfl | rfl | rfl | rfl)
 ·exact h.p.lt
 ·exact h.s.lt
 ·exact h.l.lt
 ·exact h.h.lt
structure Sim7 (M:Pl) (n:Nat) (R:Rf):Prop where
 hn:M.n = n
 sure:∀ j:Nat,j < n → getB R.sure j = bytesI (M.last[j]?.getD zeroSec)
 has:∀ j:Nat,j < n → getO R.has j = (valC M.cs (j:Int)).isSome
 last:∀ (j:Nat) L,j < n → valC M.cs (j:Int) = some L → getB R.last j = bytesI L
 acts:R.acts = M.acts
 off:R.off = M.off
 arm:(M.armed = 0 ∧ R.armed ≤ M.acts) ∨ (0 < M.armed ∧ R.armed = M.acts + M.armed)
def Rf.hits (R:Rf):Bool:=R.acts + 1 == R.armed
def rfAct (R:Rf):Rf:=bif R.off then R else { R with acts:=R.acts + 1,off:=R.hits }
def rfE (R:Rf):Int:=bif R.off then 70 else bif R.hits then 70 else 0
section
variable {M:Pl} {n:Nat} {R:Rf} {pb:Nat}
theorem Sim7.hits (h:Sim7 M n R):R.hits = decide (M.armed = 1):=by
 unfold Rf.hits
 rw [Bool.eq_iff_iff,beq_iff_eq,decide_eq_true_iff,h.acts]
 rcases h.arm with ⟨h1,h2⟩ | ⟨h1,h2⟩
 ·omega
 ·omega
theorem Sim7.e (h:Sim7 M n R):rfE R = goesE M:=by
 unfold rfE goesE Pl.goes
 rw [h.off,h.hits]
 cases M.off <;> cases decide (M.armed = 1) <;> rfl
theorem Sim7.act (h:Sim7 M n R):Sim7 (actPl M) n (rfAct R):=by
 have h1:=h.hits
 have h2:=h.off
 have h3:=h.arm
 have h4:=h.acts
 unfold rfAct actPl
 cases ho:M.off with
 | true=>
  rw [ho] at h2
  rw [h2,if_pos rfl,cond_true]
  exact h
 | false=>
  rw [ho] at h2
  rw [h2,if_neg (by decide),cond_false]
  refine ⟨h.hn,h.sure,h.has,h.last,by show R.acts + 1 = M.acts + 1; omega,h1,?_⟩
  show (dn M.armed = 0 ∧ R.armed ≤ M.acts + 1) ∨ (0 < dn M.armed ∧ R.armed = M.acts + 1 + dn M.armed)
  unfold dn
  split <;> omega
theorem Sim7.write (h:Sim7 M n R) (hp:PlOk pb M) {k:Int} {L:List Int} {R':Rf} (hk:0 ≤ k ∧ k < (n:Int)) (hg:M.goes = true) (h1:R'.sure = R.sure) (h2:R'.last = R.last.set k.toNat (bytesI L)) (h3:R'.has = R.has.set k.toNat true) (hl:R.last.length = n) (hh:R.has.length = n)
  (h4:R'.acts = (rfAct R).acts) (h5:R'.armed = (rfAct R).armed) (h6:R'.off = (rfAct R).off):Sim7 (writePl M k L) n R':=by
 have ha:=h.act
 have hw:writePl M k L = { actPl M with cs:=(putC M.cs M.ck k L).1,ck:=(putC M.cs M.ck k L).2 }:=if_pos hg
 obtain ⟨e1,e2,e3,e4,e5,e6⟩:=actPl_with M
 rw [hw]
 have hval:∀ j:Int,valC (putC M.cs M.ck k L).1 j = if j = k then some L else valC M.cs j:=fun j=>putC_val hp.nk j
 refine ⟨ha.hn,fun j hj=>by rw [h1,h.sure j hj]; show _ = bytesI ((actPl M).last[j]?.getD zeroSec); rw [e3],fun j hj=>?_,fun j X hj hX=>?_,h4.trans ha.acts,h6.trans ha.off,by rw [h5]; exact ha.arm⟩
 ·show getO R'.has j = (valC (putC M.cs M.ck k L).1 (j:Int)).isSome
  rw [hval,h3,getO_set (by omega)]
  by_cases e:(j:Int) = k
  ·rw [if_pos e,if_pos (by omega)]
   rfl
  ·rw [if_neg e,if_neg (by omega)]
   exact h.has j hj
 ·have hX':valC (putC M.cs M.ck k L).1 (j:Int) = some X:=hX
  rw [hval] at hX'
  rw [h2,getB_set (by omega)]
  by_cases e:(j:Int) = k
  ·rw [if_pos e] at hX'
   rw [if_pos (by omega)]
   exact congrArg bytesI (Option.some.inj hX')
  ·rw [if_neg e] at hX'
   rw [if_neg (by omega)]
   exact h.last j X hj hX'
theorem ovl_look {last:List (List Int)} {cs:List CE} {j:Nat} (hj:j < last.length):(ovl last cs)[j]?.getD zeroSec = (valC cs (j:Int)).getD (last[j]?.getD zeroSec):=by
 rw [ovl_get,List.getElem?_eq_getElem hj]
 rfl
theorem Sim7.flush (h:Sim7 M n R) (hp:PlOk pb M) {R':Rf} (hg:M.goes = true) (h1:∀ j,j < n → getB R'.sure j = bif getO R.has j then getB R.last j else getB R.sure j) (h3:∀ j,j < n → getO R'.has j = false)
  (h4:R'.acts = (rfAct R).acts) (h5:R'.armed = (rfAct R).armed) (h6:R'.off = (rfAct R).off):Sim7 (flushPl M) n R':=by
 have ha:=h.act
 have hw:flushPl M = { actPl M with last:=ovl M.last M.cs,cs:=[] }:=if_pos hg
 rw [hw]
 refine ⟨ha.hn,fun j hj=>?_,fun j hj=>by rw [h3 j hj]; rfl,fun j X hj hX=>(by cases hX),h4.trans ha.acts,h6.trans ha.off,by rw [h5]; exact ha.arm⟩
 show getB R'.sure j = bytesI ((ovl M.last M.cs)[j]?.getD zeroSec)
 rw [h1 j hj,ovl_look (by rw [hp.len,h.hn]; exact hj),h.has j hj]
 cases hv:valC M.cs (j:Int) with
 | none=>exact h.sure j hj
 | some L=>exact h.last j L hj hv
theorem Sim7.arm_ (h:Sim7 M n R) (h0:0 ≤ M.acts) (d:Int) {R':Rf} (h1:R' = if 0 ≤ d ∧ d ≤ 1099511627776 then { R with armed:=if 0 < d then R.acts + d else 0 } else R):Sim7 (armPl M d) n R':=by
 subst h1
 unfold armPl
 by_cases hd:0 ≤ d ∧ d ≤ 1099511627776
 ·rw [if_pos hd,if_pos hd]
  refine ⟨h.hn,h.sure,h.has,h.last,h.acts,h.off,?_⟩
  have h4:=h.acts
  show (d = 0 ∧ (if 0 < d then R.acts + d else 0) ≤ M.acts) ∨ (0 < d ∧ (if 0 < d then R.acts + d else 0) = M.acts + d)
  split <;> omega
 ·rw [if_neg hd,if_neg hd]
  exact h
theorem Sim7.lose (h:Sim7 M n R) {R':Rf} (h1:∀ j,j < n → getB R'.sure j = bytesI zeroSec) (h3:∀ j,j < n → getO R'.has j = false) (h4:R'.acts = R.acts) (h5:R'.armed = 0) (h6:R'.off = false) (h0:0 ≤ M.acts):Sim7 (losePl M) n R':=by
 refine ⟨h.hn,fun j hj=>?_,fun j hj=>by rw [h3 j hj]; rfl,fun j X hj hX=>(by cases hX),h4.trans h.acts,h6,.inl ⟨rfl,by rw [h5]; exact h0⟩⟩
 rw [h1 j hj]
 show _ = bytesI ((List.replicate M.n zeroSec)[j]?.getD zeroSec)
 rw [List.getElem?_replicate,if_pos (by rw [h.hn]; exact hj)]
 rfl
theorem Sim7.read (h:Sim7 M n R) {k:Nat} (hk:k < n):bytesI (readPl M (k:Int)) = bif getO R.has k then getB R.last k else getB R.sure k:=by
 unfold readPl
 rw [h.has k hk]
 cases hv:valC M.cs (k:Int) with
 | none=>
  show bytesI (M.last[(k:Int).toNat]?.getD zeroSec) = getB R.sure k
  rw [h.sure k hk]
  rfl
 | some L=>exact (h.last k L hk hv).symm
end
def cachedR (n:Nat) (has:List Bool):List Nat:=(List.range n).filter (getO has)
theorem cached_keys {M:Pl} {n:Nat} {R:Rf} {pb:Nat} (h:Sim7 M n R) (hp:PlOk pb M):sortI (M.cs.map (·.k)) = (cachedR n R.has).map (fun k:Nat=>(k:Int)):=by
 have hmem:∀ j:Nat,j < n → (getO R.has j = true ↔ ∃ c ∈ M.cs,c.k = (j:Int)):=fun j hj=>by
  rw [h.has j hj]
  cases hv:valC M.cs (j:Int) with
  | none=>
   have:=(valC_none (j:Int)).1 hv
   simp only [Option.isSome_none,Bool.false_eq_true,false_iff,not_exists,not_and]
   exact this
  | some L=>
   obtain ⟨c,hc,h1,_⟩:=(valC_iff hp.nk (j:Int) L).1 hv
   simp only [Option.isSome_some,true_iff]
   exact ⟨c,hc,h1⟩
 have hperm:(M.cs.map (·.k)).Perm ((cachedR n R.has).map (fun k:Nat=>(k:Int))):=by
  refine (List.perm_ext_iff_of_nodup hp.nk ?_).2 (fun x=>?_)
  ·exact List.Pairwise.map _ (fun a b hab e=>hab (by omega)) (List.nodup_range.filter _)
  ·simp only [List.mem_map,cachedR,List.mem_filter,List.mem_range]
   constructor
   ·rintro ⟨c,hc,rfl⟩
    have hck:=hp.csk c hc
    have hn:=h.hn
    refine ⟨c.k.toNat,⟨by omega,(hmem _ (by omega)).2 ⟨c,hc,by omega⟩⟩,by omega⟩
   ·rintro ⟨j,⟨hj,hb⟩,rfl⟩
    obtain ⟨c,hc,h1⟩:=(hmem j hj).1 hb
    exact ⟨c,hc,h1⟩
 rw [sortI_eq hperm]
 have hs:((cachedR n R.has).map (fun k:Nat=>(k:Int))).Pairwise (fun a b=>a ≤ b):=by
  rw [List.pairwise_map]
  refine List.Pairwise.imp (fun {a b} (hab:a < b)=>by omega) ?_
  exact List.pairwise_lt_range.filter _
 exact List.mergeSort_of_pairwise (hs.imp (fun h=>by simpa using h))
theorem Sim7.restart {M:Pl} {n:Nat} {R R':Rf} {pb:Nat} (h:Sim7 M n R) (hp:PlOk pb M) (keep:Nat → Bool) (h1:∀ j,j < n → getB R'.sure j = bif getO R.has j && keep ((cachedR n R.has).idxOf j) then getB R.last j else getB R.sure j) (h3:∀ j,j < n → getO R'.has j = false)
  (h4:R'.acts = R.acts) (h5:R'.armed = 0) (h6:R'.off = false):Sim7 (restartPl M keep) n R':=by
 have h0:=hp.a0
 refine ⟨h.hn,fun j hj=>?_,fun j hj=>by rw [h3 j hj]; rfl,fun j X hj hX=>(by cases hX),h4.trans h.acts,h6,.inl ⟨rfl,by rw [h5]; exact h0⟩⟩
 show getB R'.sure j = bytesI ((ovl M.last (keptC M.cs keep M.cs.length))[j]?.getD zeroSec)
 rw [h1 j hj,ovl_look (by rw [hp.len,h.hn]; exact hj),h.has j hj]
 have hn0:((keptC M.cs keep M.cs.length).map (·.k)).Nodup:=nodup_filter _ _ hp.nk
 have hidx:∀ c ∈ M.cs,(sortI (M.cs.map (·.k))).idxOf c.k = (cachedR n R.has).idxOf c.k.toNat:=fun c hc=>by
  rw [cached_keys h hp]
  have hck:=hp.csk c hc
  have:∀ (l:List Nat) (x:Nat),(l.map (fun k:Nat=>(k:Int))).idxOf (x:Int) = l.idxOf x:=by
   intro l x
   induction l with
   | nil=>rfl
   | cons y l ih=>
    rw [List.map_cons,List.idxOf_cons,List.idxOf_cons,ih]
    by_cases e:y = x
    ·subst e
     simp
    ·rw [beq_eq_false_iff_ne.2 e,beq_eq_false_iff_ne.2 (fun e2=>e (by omega))]
  rw [show c.k = ((c.k.toNat:Nat):Int) by omega,this]
  rfl
 cases hv:valC M.cs (j:Int) with
 | none=>
  have hv2:valC (keptC M.cs keep M.cs.length) (j:Int) = none:=(valC_none _).2 (fun c hc=>(valC_none _).1 hv c (keptC_mem c hc))
  rw [hv2]
  exact h.sure j hj
 | some L=>
  obtain ⟨c,hc,hck,hcL⟩:=(valC_iff hp.nk (j:Int) L).1 hv
  have hi:=hidx c hc
  rw [show c.k.toNat = j by omega] at hi
  have hlt:(sortI (M.cs.map (·.k))).idxOf c.k < M.cs.length:=by
   have h7:=List.idxOf_lt_length_of_mem ((sortI_perm (M.cs.map (·.k))).mem_iff.2 (List.mem_map.2 ⟨c,hc,rfl⟩))
   rw [sortI_len,List.length_map] at h7
   exact h7
  cases hk:keep ((cachedR n R.has).idxOf j) with
  | true=>
   have hv2:valC (keptC M.cs keep M.cs.length) (j:Int) = some L:=(valC_iff hn0 _ _).2 ⟨c,by simp only [keptC,List.mem_filter,Bool.and_eq_true,decide_eq_true_eq]; exact ⟨hc,hlt,by rw [hi]; exact hk⟩,hck,hcL⟩
   rw [hv2]
   exact h.last j L hj hv
  | false=>
   have hv2:valC (keptC M.cs keep M.cs.length) (j:Int) = none:=by
    cases hx:valC (keptC M.cs keep M.cs.length) (j:Int) with
    | none=>rfl
    | some X=>
     obtain ⟨d,hd,hdk,_⟩:=(valC_iff hn0 _ _).1 hx
     simp only [keptC,List.mem_filter,Bool.and_eq_true,decide_eq_true_eq] at hd
     have:d = c:=born_inj hp.nk hd.1 hc (hdk.trans hck.symm)
     subst this
     have h8:=hd.2.2
     rw [hi,hk] at h8
     cases h8
   rw [hv2]
   exact h.sure j hj
def inP (M:Pl) (k:Int):Prop:=0 ≤ k ∧ k < (M.n:Int)
instance (M:Pl) (k:Int):Decidable (inP M k):=by unfold inP; infer_instance
def wrE (M:Pl) (k:Int):Int:=bif M.goes then (if inP M k then 0 else 1) else 70
def wrPl (M:Pl) (k:Int) (L:List Int):Pl:=if inP M k then writePl M k L else actPl M
theorem wr_off {M:Pl} (h:M.goes = false) (k:Int) (L:List Int):wrPl M k L = actPl M:=by
 unfold wrPl writePl
 rw [h]
 simp
theorem G7.Ok.nd {g:G7} (h:g.Ok):([g.qb,g.sg,g.lg,g.hg]:List Nat).Nodup:=by
 simp [h.a,h.b,h.c,h.d,h.e,h.f]
theorem edge_opN {D:List Deferred} {P:Program} {body:Code} {n:Nat} {w0:World} {S:Nat → Prop} {Q:Exit → Act → World → Prop} {p:List Nat} {f i:Nat} {k:List KI} {ls:Array Bool} {st:St} {dst:Option Nat} {ob:Prop} {x:Sem Value} (ls':Array Bool) (v:Value) (bk':List Bk) (sz':Nat) (ks:List Nat) {sl sl':List (Nat × Value)} (hl:ls.setIfInBounds i true = ls')
  (hd:dstAtG (opsOf (getCode body p)) st.sl i = some (dst,ob)) (ho:ob) (hx:semAt (opsOf (getCode body p)) st.sl i = some (asV x)) (hp:putS n st.sl dst v = some sl) (hk:keepS sl ks = sl')
  (hr:∀ w,MemOk w0 S st.bk st.wn st.sz w → ∃ w',x.run P w = .ok v w' ∧ MemOk w0 S bk' st.wn sz' w')
  (hh:Holds D P body n w0 S Q (.any p f ls' :: k) ⟨sl',bk',st.wn,sz'⟩):Edge D P body n w0 S Q p f k ls st i:=by
 subst hl hk
 intro a w hf hm
 obtain ⟨o,hoi,hkn,hdo,hw⟩:=dstAtG_wanted hd ho hf
 unfold semAt at hx
 simp only [hoi,Option.some.injEq] at hx
 simp only [wpOp,hoi,if_pos hw]
 refine .inl ?_
 obtain ⟨w',h4,hm'⟩:=hr w hm
 have h5:(execOp a.eval o).run P w = .ok (.value v) w':=by
  rw [hf.rho hkn,hx]
  simp only [asV,Sem.run_bind,h4,Result.andThen_ok,Sem.run_pure]
 simp only [Oper.wp,h5,Oper.upon_value]
 rw [hdo]
 have h6:=hf.put hp
 have h7:=hh _ _ ⟨h6.size,h6.df,fun i v hi=>h6.val i v (getS_keepS ks i v hi)⟩ hm'
 simpa only [sem] using h7
end Go.Proofs.Ytpilmccjjbgmiaa
