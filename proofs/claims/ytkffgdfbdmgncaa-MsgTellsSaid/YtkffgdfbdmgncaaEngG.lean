import Derived.Test.YtkffgdfbdmgncaaEngF
import Derived.Laws.CopyRow
import Derived.Laws.IdiomStrings
import Derived.Laws.Append
namespace Go.Proofs.Ytkffgdfbdmgncaa
open Go.RowKit
def dstAt (ops:Array Oper) (sl:List (Nat × Value)) (i:Nat):Option (Option Nat):=
 match ops[i]? with
 | some o=>match o.guard with
  | none=>match known sl o with
   | true=>some o.dst
   | false=>none
  | some _=>none
 | none=>none
def semAt (ops:Array Oper) (sl:List (Nat × Value)) (i:Nat):Option (Sem Next):=
 match ops[i]? with
 | some o=>some (execOp (rho sl) o)
 | none=>none
def asV (x:Sem Value):Sem Next:=x >>= fun v=>pure (.value v)
section
variable {D:List Deferred} {P:Program} {body:Code} {n:Nat} {w0:World} {S:Nat → Prop} {Q:Exit → Act → World → Prop}
theorem holds_opR {p:List Nat} {i:Nat} {l:List Nat} {k:List KI} {st:St} {dst:Option Nat} {x:Sem Value} (v:Value) {sl:List (Nat × Value)}
  (hd:dstAt (opsOf (getCode body p)) st.sl i = some dst) (hx:semAt (opsOf (getCode body p)) st.sl i = some (asV x)) (hp:putS n st.sl dst v = some sl)
  (hr:∀ w,MemOk w0 S st.bk st.wn st.sz w → x.run P w = .ok v w)
  (hh:Holds D P body n w0 S Q (.ops p l :: k) ⟨sl,st.bk,st.wn,st.sz⟩):Holds D P body n w0 S Q (.ops p (i :: l) :: k) st:=by
 intro a w hf hm
 simp only [sem]
 rw [wpOps_cons]
 unfold dstAt at hd
 unfold semAt at hx
 split at hd
 ·rename_i o ho
  simp only [ho,Option.some.injEq] at hx
  split at hd
  ·rename_i hg
   split at hd
   ·rename_i hk
    simp only [Option.some.injEq] at hd
    have hw:Region.wanted o (yielded (opsOf (getCode body p)) a.tmps) = true:=by simp [Region.wanted,hg]
    simp only [wpOp,ho,if_pos hw]
    refine .inl ?_
    have h5:(execOp a.eval o).run P w = .ok (.value v) w:=by
     rw [hf.rho hk,hx]
     simp only [asV,Sem.run_bind,hr w hm,Result.andThen_ok,Sem.run_pure]
    simp only [Oper.wp,h5,Oper.upon_value]
    rw [hd]
    exact hh _ _ (hf.put hp) hm
   ·cases hd
  ·cases hd
 ·cases hd
def bytesV (l:List UInt8):List Value:=l.map fun b=>.int .u8 (b.toNat:Int)
theorem bytesV_one (l:List UInt8):∀ v ∈ bytesV l,v.oneCell' = true:=by
 intro v hv
 obtain ⟨b,_,rfl⟩:=List.mem_map.1 hv
 rfl
theorem setRow_size (w:World) (g:Nat) (c:Array Value):(w.setRow g c).heap.size = w.heap.size:=by simp [World.setRow]
theorem setRow_far (w:World) (g:Nat) (c:Array Value) {j:Nat} (h:j ≠ g):(w.setRow g c).heap[j]? = w.heap[j]?:=by
 simp only [World.setRow]
 rw [Array.getElem?_modify,if_neg (Ne.symm h)]
theorem setRow_kept (w:World) (g:Nat) (c:Array Value):Kept (fun x=>x = g) w (w.setRow g c):=
 ⟨rfl,rfl,rfl,by rw [setRow_size]; exact Nat.le_refl _,fun k _ hn=>setRow_far w g c hn⟩
theorem setRow_blk {w:World} {g:Nat} {t:TypeId} {cs:List Value} (h:Blk w g t cs) (ds:List Value):Blk (w.setRow g ds.toArray) g t ds:=setRow_heap w g _ _ t _ h
end
end Go.Proofs.Ytkffgdfbdmgncaa
