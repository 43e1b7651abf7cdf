import Derived.Test.YtfiheghjhgnblaaPlatG
import Derived.Test.YtfiheghjhgnblaaRaw8
import Derived.Test.YtfiheghjhgnblaaEngT
import Derived.Test.YtfiheghjhgnblaaPost
namespace Go.Proofs.Ytfiheghjhgnblaa
open Go.RowKit Go.MapKept
section
variable {P:Program}
end
theorem rec_one (r:RecM):∀ u ∈ (Value.agg r.cells.toArray).cells.toList,u.oneCell' = true:=by
 intro u hu
 simp only [Value.cells,RecM.cells,List.mem_cons,List.not_mem_nil,or_false] at hu
 rcases hu with rfl | rfl | rfl | rfl | rfl | rfl | rfl | rfl | rfl | rfl <;> rfl
def froze:List Bool → List Bk → List Bk
 | f :: fs,b :: bs=>{ b with rw:=b.rw && f } :: froze fs bs
 | _,_=>[]
theorem froze_mem:∀ (fs:List Bool) (bs:List Bk) {b:Bk},b ∈ froze fs bs → ∃ c ∈ bs,c.g = b.g ∧ c.t = b.t ∧ c.cs = b.cs ∧ (b.rw = true → c.rw = true)
 | [],_,_,h=>by simp [froze] at h
 | _ :: _,[],_,h=>by simp [froze] at h
 | f :: fs,c :: bs,b,h=>by
  simp only [froze,List.mem_cons] at h
  rcases h with rfl | h
  ·exact ⟨c,by simp,rfl,rfl,rfl,fun h=>by simp at h; exact h.1⟩
  ·obtain ⟨d,hd,h1⟩:=froze_mem fs bs h
   exact ⟨d,by simp [hd],h1⟩
theorem froze_g:∀ (fs:List Bool) (bs:List Bk),((froze fs bs).map (·.g)).Sublist (bs.map (·.g))
 | [],_=>by simp [froze]
 | _ :: _,[]=>by simp [froze]
 | f :: fs,c :: bs=>by
  simp only [froze,List.map_cons]
  exact (froze_g fs bs).cons_cons _
theorem MemOk.froze {w0 w:World} {S:Nat → Prop} {bk:List Bk} {wn:List Wn} {sz:Nat} (fs:List Bool) (h:MemOk w0 S bk wn sz w):MemOk w0 S (froze fs bk) [] sz w:=
 ⟨h.size,fun b hb=>by
  obtain ⟨c,hc,h1,h2,h3,_⟩:=froze_mem fs bk hb
  have:=h.blk c hc
  rw [h1,h2,h3] at this
  exact this,fun b hb hr=>by
  obtain ⟨c,hc,h1,_,_,h4⟩:=froze_mem fs bk hb
  have:=h.own c hc (h4 hr)
  rw [h1] at this
  exact this,h.nd.sublist (froze_g fs bk),h.kept,fun x hx=>by cases hx⟩
theorem holds_ground {D:List Deferred} {P:Program} {n:Nat} {w0:World} {S:Nat → Prop} {body:Code} {Q:Exit → Act → World → Prop} {k:List KI} {st:St} {bk':List Bk} (fs:List Bool) (hb:froze fs st.bk = bk')
  (h:∀ W,MemOk w0 S st.bk st.wn st.sz W → MemOk w0 S bk' [] W.heap.size W → Holds D P body n W (Turned bk') Q k ⟨st.sl,bk',[],W.heap.size⟩):Holds D P body n w0 S Q k st:=fun a w hf hm=>by
 subst hb
 have h1:=hm.froze fs
 have h2:=hm.size
 rw [← h2] at h1
 exact h w hm h1 a w hf h1.again
structure Num1 where
 v:Int
structure Num1Ok (x:Num1):Prop where
 v:I64 x.v
def Num1.cells (x:Num1):List Value:=[.int .i64 x.v]
def NumsAt (w:World) (A:Option Addr) (n:Nat) (f:Nat → Num1):Prop:=
 ∀ k,k < n → Num1Ok (f k) ∧ ∃ b o,A = some ⟨b,o,none⟩ ∧ b < w.heap.size ∧ ∀ j,j < 1 → w.cell? ⟨b,o + k * 1 + j,none⟩ = (f k).cells[j]?
theorem win_kept {w W:World} {T:Nat → Prop} {b o z k:Nat} {cs:List Value} (hb:b < w.heap.size) (hc:∀ j,j < z → w.cell? ⟨b,o + k * z + j,none⟩ = cs[j]?) (hl:cs.length = z) (hk:Kept T w W) (hT:¬ T b) :
  b < W.heap.size ∧ ∀ j v,cs[j]? = some v → W.cell? ⟨b,o + k * z + j,none⟩ = some v:=
 ⟨Nat.lt_of_lt_of_le hb hk.size,fun j v hj=>by
  have h1:W.cell? ⟨b,o + k * z + j,none⟩ = w.cell? ⟨b,o + k * z + j,none⟩:=hk.cell (p:=⟨b,o + k * z + j,none⟩) hb hT
  rw [h1,hc j (by rw [← hl]; exact (List.getElem?_eq_some_iff.1 hj).1),hj]⟩
end Go.Proofs.Ytfiheghjhgnblaa
namespace Go.Proofs.Ytfiheghjhgnblaa
open Go.RowKit
def pickZ (c n:Int):Int:=(if c < 0 then -(c+1) else c) % n
theorem pickZ_bd (c n:Int) (h:0 < n):0 ≤ pickZ c n ∧ pickZ c n < n:=⟨Int.emod_nonneg _ (by omega),Int.emod_lt_of_pos _ h⟩
end Go.Proofs.Ytfiheghjhgnblaa
