import Derived.Test.YtfiheghjhgnblaaPlatM
namespace Go.Proofs.Ytfiheghjhgnblaa
open Go.RowKit
section
variable {D:List Deferred} {P:Program} {body:Code} {n:Nat} {w0:World} {S:Nat → Prop} {Q:Exit → Act → World → Prop}
end
end Go.Proofs.Ytfiheghjhgnblaa
namespace Go.Proofs.Ytfiheghjhgnblaa
open Go.RowKit
section
variable {D:List Deferred} {P:Program} {body:Code} {n:Nat} {w0:World} {S:Nat → Prop} {Q:Exit → Act → World → Prop}
theorem edge_callW {p:List Nat} {f0 i:Nat} {k:List KI} {ls ls':Array Bool} {st:St} {f:FuncId} {args:List Value} {dst:Option Nat} {ob:List Prop} {w:World} {S':Nat → Prop} (v:Value) (ks:List Nat) (X:World → Prop) {sl sl':List (Nat × Value)}
  (hl:ls.setIfInBounds i true = ls') (h:callAt P (opsOf (getCode body p)) st.sl i = some (f,args,dst,ob)) (ho:All ob) (hp:putS n st.sl dst v = some sl) (hk:keepS sl ks = sl')
  (hc:∀ wx,MemOk w0 S st.bk st.wn st.sz wx → Calls P f args.toArray wx (fun e w'=>e = .returned v ∧ X w' ∧ MemOk w S' st.bk [] w'.heap.size w'))
  (hh:∀ W,X W → MemOk w S' st.bk [] W.heap.size W → Holds D P body n W (Turned st.bk) Q (.any p f0 ls' :: k) ⟨sl',st.bk,[],W.heap.size⟩):Edge D P body n w0 S Q p f0 k ls st i:=by
 subst hl hk
 intro a w1 hf hm
 refine callAt_wpOp h ho hf ((hc w1 hm).mono fun e w' he=>?_)
 obtain ⟨h2,h3,h4⟩:=he
 refine ⟨v,h2,?_⟩
 have h6:=hf.put hp
 have h7:=hh w' h3 h4 _ _ ⟨h6.size,h6.df,fun i v hi=>h6.val i v (getS_keepS ks i v hi)⟩ h4.again
 simpa only [sem] using h7
end
end Go.Proofs.Ytfiheghjhgnblaa
