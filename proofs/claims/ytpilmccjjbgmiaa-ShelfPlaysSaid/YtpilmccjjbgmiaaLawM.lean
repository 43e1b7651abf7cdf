import Derived.Test.YtpilmccjjbgmiaaPlat2
import Derived.Test.YtpilmccjjbgmiaaEngS
import Derived.Test.YtpilmccjjbgmiaaPlatG
import Derived.Test.YtpilmccjjbgmiaaRaw8
namespace Go.Proofs.Ytpilmccjjbgmiaa
open Go.RowKit
theorem flush_pl (M:Pl) (pb:Nat) (ha:M.acts < 4611686018427387904) (w:World) (hP:PlatAt 90 94 w pb M) :
  Calls Try.prog 60 #[.pointer (some ⟨pb,0,none⟩)] w (fun e w'=>e = .returned (.int .i64 (goesE M)) ∧ PlatAt 90 94 w' pb (flushPl M) ∧ Kept (minePl pb M) w w'):=by
 have hok:=hP.ok.flush
 have ha2:=hP.ok.a0
 have hc2:=hP.ok.c0
 obtain ⟨h1,h2,h3,h4⟩:=hP
 obtain ⟨lb,mb,n,last,cs,ck,off,a,c⟩:=M
 cases off with
 | true=>exact (flush_off n lb mb pb a c w h1).mono fun e w' ⟨he,hk⟩=>⟨he,⟨h1.kept hk id,h2.kept hk id,h3.kept hk id,h4⟩,hk.mono (fun _ _ h=>h.elim)⟩
 | false=>
  cases hc1:decide (c = 1) with
  | true=>
   have e1:goesE ⟨lb,mb,n,last,cs,ck,false,a,c⟩ = 70:=by simp [goesE,Pl.goes,hc1]
   have e2:flushPl ⟨lb,mb,n,last,cs,ck,false,a,c⟩ = ⟨lb,mb,n,last,cs,ck,decide (c = 1),a + 1,dn c⟩:=by simp [flushPl,actPl,Pl.goes,hc1]
   rw [e1,e2]
   rw [e2] at hok
   refine (flush_cut n lb mb pb a c ⟨ha2,ha⟩ hc2 hc1 w h1).mono fun e w' ⟨he,hB,hk⟩=>⟨he,⟨hB,h2.kept hk (fun e=>h4.ne2 e.symm),h3.kept hk (fun e=>h4.ne1 e.symm),hok⟩,hk.mono (fun _ _ h=>.inl h)⟩
  | false=>
   have e1:goesE ⟨lb,mb,n,last,cs,ck,false,a,c⟩ = 0:=by simp [goesE,Pl.goes,hc1]
   have e2:flushPl ⟨lb,mb,n,last,cs,ck,false,a,c⟩ = ⟨lb,mb,n,ovl last cs,[],ck,decide (c = 1),a + 1,dn c⟩:=by simp [flushPl,actPl,Pl.goes,hc1]
   rw [e1,e2]
   rw [e2] at hok
   refine (flush_live n lb mb pb a c ⟨ha2,ha⟩ hc2 hc1 cs ck last h4.ne2 h4.ne1 h4.ne3 h4.len h4.sec (fun c hc=>(h4.csk c hc).2.2.1) (fun c hc=>⟨(h4.csk c hc).1,(h4.csk c hc).2.1⟩) (fun c hc=>(h4.csk c hc).2.2.2) h4.nk h4.nb w h1 h2 h3).mono fun e w' ⟨he,hB,hl,hmw,hk⟩=>⟨he,⟨hB,hl,hmw,hok⟩,hk⟩
def newPl (lb mb n:Nat):Pl:=⟨lb,mb,n,EMPTY n,[],0,false,0,0⟩
theorem secs_empty (n:Nat):secs n = secsV (EMPTY n):=by
 have hz:intsV zeroSec = List.replicate 64 (.int .u8 0):=by simp [intsV,zeroSec]
 have h1:secsV (EMPTY n) = List.replicate (n * 64) (.int .u8 0):=by
  unfold secsV EMPTY
  rw [show zeroSec = List.replicate 64 (0:Int) from rfl,List.flatten_replicate_replicate]
  simp [intsV]
 have h2:secs n = List.replicate (n * 64) (.int .u8 0):=by
  unfold secs
  rw [hz,List.eq_replicate_iff]
  refine ⟨by simp [madeCells],fun b hb=>?_⟩
  simp only [madeCells,Array.toList_map,List.mem_map] at hb
  obtain ⟨i,_,rfl⟩:=hb
  have hrep:∀ m j,j < m → (List.replicate m (Value.int .u8 0)).toArray[j]! = .int .u8 0:=fun m j h=>by simp [h]
  have hsz:(List.replicate 64 (Value.int .u8 0)).toArray.size = 64:=by simp
  rw [hsz]
  exact hrep 64 _ (Nat.mod_lt _ (by decide))
 rw [h1,h2]
theorem empty_ok {lb mb pb n:Nat} (h1:lb < mb) (h2:mb < pb) (hn:1 ≤ n ∧ n ≤ 64):PlOk pb (newPl lb mb n):=
 ⟨by show pb ≠ mb; omega,by show pb ≠ lb; omega,by show lb ≠ mb; omega,hn,by simp [newPl,EMPTY],fun L hL=>by simp [newPl,EMPTY] at hL; rw [hL.2]; exact secOk_zero,fun c hc=>(by cases hc),List.nodup_nil,List.nodup_nil,by show (0:Int) ≤ 0; omega,by show (0:Int) ≤ 0 ∧ (0:Int) < _; omega⟩
theorem new_pl (n:Nat) (hn:1 ≤ n ∧ n ≤ 64) (w:World) :
  Calls Try.prog 20 #[.int .i64 (n:Int)] w (fun e w'=>∃ lb mb pb,e = .returned (.tuple #[.pointer (some ⟨pb,0,none⟩),.int .i64 0]) ∧ w.heap.size ≤ lb ∧ lb < mb ∧ mb < pb ∧ PlatAt 90 94 w' pb (newPl lb mb n) ∧ Kept (fun _=>False) w w'):=by
 refine (new_any n hn w).mono fun e w' ⟨lb,mb,pb,he,h1,h2,h3,h4,h5,h6,h7⟩=>?_
 rw [secs_empty] at h5
 exact ⟨lb,mb,pb,he,h1,h2,h3,⟨h4,h5,h6,empty_ok h2 h3 hn⟩,h7⟩
theorem MemOk.off {w wx w':World} {S S' T:Nat → Prop} {bk:List Bk} {sz:Nat} (hm:MemOk w S bk [] sz wx) (hS:∀ x,S x → S' x) (hk:Kept T wx w') (hT:∀ x,T x → S' x ∨ w.heap.size ≤ x) (hb:∀ b ∈ bk,¬ T b.g):MemOk w S' bk [] w'.heap.size w':=
 ⟨rfl,fun b h=>(hm.blk b h).kept hk (hb b h),fun b h hr=>(hm.own b h hr).imp_left (hS _),hm.nd,(hm.kept.mono (fun k _ h=>hS k h)).trans hk (fun k hk' h=>(hT k h).resolve_right (by omega)),fun x hx=>by cases hx⟩
theorem mine_write (M:Pl) (pb:Nat) (k:Int) (L:List Int):minePl pb (writePl M k L) = minePl pb M:=by
 obtain ⟨_,_,_,_,h5,h6⟩:=actPl_with M
 unfold minePl writePl
 split <;> simp [h5,h6]
theorem mine_flush (M:Pl) (pb:Nat):minePl pb (flushPl M) = minePl pb M:=by
 obtain ⟨_,_,_,_,h5,h6⟩:=actPl_with M
 unfold minePl flushPl
 split <;> simp [h5,h6]
theorem acts_write (M:Pl) (k:Int) (L:List Int):(writePl M k L).acts ≤ M.acts + 1:=by
 unfold writePl actPl
 cases M.goes <;> cases M.off <;> simp <;> omega
end Go.Proofs.Ytpilmccjjbgmiaa
namespace Go.Proofs.Ytpilmccjjbgmiaa
open Go.RowKit
structure RecM where
 used:Bool
 (fence de ds:Int)
 block:ByteArray
 op:Bool
 (ie is mask:Int)
 staged:ByteArray
def RecM.cells (r:RecM):List Value:=[.bool r.used,.int .i64 r.fence,.int .i64 r.de,.int .i64 r.ds,.string r.block,.bool r.op,.int .i64 r.ie,.int .i64 r.is,.int .i64 r.mask,.string r.staged]
def noText:ByteArray:=⟨#[]⟩
def blankR (f:Int):RecM:=⟨false,f,0,0,noText,false,0,0,0,noText⟩
structure RecOk (r:RecM):Prop where
 fence:0 ≤ r.fence ∧ r.fence ≤ 16777215
 de:0 ≤ r.de ∧ r.de ≤ 16777215
 ds:0 ≤ r.ds ∧ r.ds ≤ 16777215
 ie:0 ≤ r.ie ∧ r.ie ≤ 16777215
 is:0 ≤ r.is ∧ r.is ≤ 16777215
 mask:0 ≤ r.mask ∧ r.mask ≤ 63
 block:r.used = true → r.block.size = 16
 none:r.used = false → r.block = noText ∧ r.op = false ∧ r.de = 0 ∧ r.ds = 0
 staged:r.op = true → r.staged.size = 16
 shut:r.op = false → r.staged = noText ∧ r.ie = 0 ∧ r.is = 0 ∧ r.mask = 0
end Go.Proofs.Ytpilmccjjbgmiaa
namespace Go.Proofs.Ytpilmccjjbgmiaa
open Go.RowKit Go.MapKept
def aggB (P:Program) (t:TypeId):Bool:=match P.underlying t with
 | some (.struct _)=>true
 | some (.array _ _)=>true
 | _=>false
def oneB (P:Program) (t:TypeId):Bool:=match P.underlying t with
 | some (.struct _)=>false
 | some (.array _ _)=>false
 | some _=>true
 | none=>false
section
variable {P:Program}
theorem run_isOne (w:World) (t:TypeId) (h:oneB P t = true):(isAgg t).run P w = .ok false w:=by
 unfold oneB at h
 split at h
 ·cases h
 ·cases h
 ·rename_i d h1 h2 hu
  simp only [isAgg,Sem.run_bind,run_underlying hu,Result.andThen_ok]
  rfl
 ·cases h
theorem run_loadV (w:World) (t:TypeId) (g o:Nat) (tt:TypeId) (cs:List Value) (v:Value) (ha:oneB P t = true) (hB:Blk w g tt cs) (hv:cs[o]? = some v) :
  (Instr.loadAt t (.pointer (some ⟨g,o,none⟩))).run P w = .ok v w:=by
 have h1:w.cell? ⟨g,o,none⟩ = some v:=(hB.cell o).trans hv
 simp [Instr.loadAt,Instr.sureAddr,loadVar,run_isOne w t ha,h1]
end
theorem rec_one (r:RecM):∀ u ∈ (Value.agg r.cells.toArray).cells.toList,u.oneCell' = true:=by
 intro u hu
 simp only [Value.cells,RecM.cells,List.mem_cons,List.not_mem_nil,or_false] at hu
 rcases hu with rfl | rfl | rfl | rfl | rfl | rfl | rfl | rfl | rfl | rfl <;> rfl
def froze:List Bool → List Bk → List Bk
 | f :: fs,b :: bs=>{ b with rw:=b.rw && f } :: froze fs bs
 | _,_=>[]
theorem froze_mem:∀ (fs:List Bool) (bs:List Bk) {b:Bk},b ∈ froze fs bs → ∃ c ∈ bs,c.g = b.g ∧ c.t = b.t ∧ c.cs = b.cs ∧ (b.rw = true → c.rw = true)
 | [],_,_,h=>by simp [froze] at h
 | _ :: _,[],_,h=>by simp [froze] at h
 | f :: fs,c :: bs,b,h=>by
  simp only [froze,List.mem_cons] at h
  rcases h with rfl | h
  ·exact ⟨c,by simp,rfl,rfl,rfl,fun h=>by simp at h; exact h.1⟩
  ·obtain ⟨d,hd,h1⟩:=froze_mem fs bs h
   exact ⟨d,by simp [hd],h1⟩
theorem froze_g:∀ (fs:List Bool) (bs:List Bk),((froze fs bs).map (·.g)).Sublist (bs.map (·.g))
 | [],_=>by simp [froze]
 | _ :: _,[]=>by simp [froze]
 | f :: fs,c :: bs=>by
  simp only [froze,List.map_cons]
  exact (froze_g fs bs).cons_cons _
theorem MemOk.froze {w0 w:World} {S:Nat → Prop} {bk:List Bk} {wn:List Wn} {sz:Nat} (fs:List Bool) (h:MemOk w0 S bk wn sz w):MemOk w0 S (froze fs bk) [] sz w:=
 ⟨h.size,fun b hb=>by
  obtain ⟨c,hc,h1,h2,h3,_⟩:=froze_mem fs bk hb
  have:=h.blk c hc
  rw [h1,h2,h3] at this
  exact this,fun b hb hr=>by
  obtain ⟨c,hc,h1,_,_,h4⟩:=froze_mem fs bk hb
  have:=h.own c hc (h4 hr)
  rw [h1] at this
  exact this,h.nd.sublist (froze_g fs bk),h.kept,fun x hx=>by cases hx⟩
theorem holds_ground {D:List Deferred} {P:Program} {n:Nat} {w0:World} {S:Nat → Prop} {body:Code} {Q:Exit → Act → World → Prop} {k:List KI} {st:St} {bk':List Bk} (fs:List Bool) (hb:froze fs st.bk = bk')
  (h:∀ W,MemOk w0 S st.bk st.wn st.sz W → MemOk w0 S bk' [] W.heap.size W → Holds D P body n W (Turned bk') Q k ⟨st.sl,bk',[],W.heap.size⟩):Holds D P body n w0 S Q k st:=fun a w hf hm=>by
 subst hb
 have h1:=hm.froze fs
 have h2:=hm.size
 rw [← h2] at h1
 exact h w hm h1 a w hf h1.again
structure Num1 where
 v:Int
structure Num1Ok (x:Num1):Prop where
 v:I64 x.v
def Num1.cells (x:Num1):List Value:=[.int .i64 x.v]
def NumsAt (w:World) (A:Option Addr) (n:Nat) (f:Nat → Num1):Prop:=
 ∀ k,k < n → Num1Ok (f k) ∧ ∃ b o,A = some ⟨b,o,none⟩ ∧ b < w.heap.size ∧ ∀ j,j < 1 → w.cell? ⟨b,o + k * 1 + j,none⟩ = (f k).cells[j]?
def strsV (now:List ByteArray):List Value:=now.map .string
def getB (now:List ByteArray) (k:Nat):ByteArray:=now[k]?.getD ⟨#[]⟩
theorem store_str {P:Program} {w0 wx:World} {S:Nat → Prop} {bk:List Bk} {wn:List Wn} {sz i g k:Nat} {t tt:TypeId} {now:List ByteArray} {s:ByteArray} (hm:MemOk w0 S bk wn sz wx) (hi:bk[i]? = some ⟨g,tt,true,strsV now⟩) (hk:k < now.length) (hs:(P.info? t).map (·.size) = some 1) :
  ∃ w',(Instr.storeAt t (.pointer (some ⟨g,0 + k * 1,none⟩)) (.string s)).run P wx = .ok () w' ∧ sz ≤ w'.heap.size ∧ MemOk w0 S (bk.set i ⟨g,tt,true,strsV (now.set k s)⟩) wn w'.heap.size w':=by
 have hB:Blk wx g tt (strsV now):=hm.at_ i hi
 have h1:=run_storeG (P:=P) wx t g (0 + k * 1) tt (strsV now) (.string s) (by rw [hs]; rfl) hB (by simp [strsV,Value.cells]; omega) (fun u hu=>by
  simp only [Value.cells,List.mem_singleton] at hu
  subst hu
  rfl)
 have e:((strsV now).take (0 + k * 1) ++ (Value.string s).cells.toList ++ (strsV now).drop (0 + k * 1 + (Value.string s).cells.size)) = strsV (now.set k s):=by
  rw [Nat.zero_add,Nat.mul_one]
  show (strsV now).take k ++ [.string s] ++ (strsV now).drop (k + 1) = _
  unfold strsV
  rw [List.map_set,List.set_eq_take_append_cons_drop,if_pos (by simpa using hk)]
  simp
 rw [e] at h1
 exact ⟨_,h1,hm.set1 i hi rfl (setRow_kept wx g _) (setRow_blk hB (strsV (now.set k s)))⟩
theorem load_str {P:Program} {w0 wx:World} {S:Nat → Prop} {bk:List Bk} {wn:List Wn} {sz i g k:Nat} {t tt:TypeId} {b:Bool} {now:List ByteArray} (hm:MemOk w0 S bk wn sz wx) (hi:bk[i]? = some ⟨g,tt,b,strsV now⟩) (hk:k < now.length) (ha:oneB P t = true) :
  (Instr.loadAt t (.pointer (some ⟨g,0 + k * 1,none⟩))).run P wx = .ok (.string (getB now k)) wx:=by
 refine run_loadV wx t g (0 + k * 1) tt (strsV now) _ ha (hm.at_ i hi) ?_
 rw [Nat.zero_add,Nat.mul_one]
 simp [strsV,getB,hk]
theorem win_kept {w W:World} {T:Nat → Prop} {b o z k:Nat} {cs:List Value} (hb:b < w.heap.size) (hc:∀ j,j < z → w.cell? ⟨b,o + k * z + j,none⟩ = cs[j]?) (hl:cs.length = z) (hk:Kept T w W) (hT:¬ T b) :
  b < W.heap.size ∧ ∀ j v,cs[j]? = some v → W.cell? ⟨b,o + k * z + j,none⟩ = some v:=
 ⟨Nat.lt_of_lt_of_le hb hk.size,fun j v hj=>by
  have h1:W.cell? ⟨b,o + k * z + j,none⟩ = w.cell? ⟨b,o + k * z + j,none⟩:=hk.cell (p:=⟨b,o + k * z + j,none⟩) hb hT
  rw [h1,hc j (by rw [← hl]; exact (List.getElem?_eq_some_iff.1 hj).1),hj]⟩
end Go.Proofs.Ytpilmccjjbgmiaa
