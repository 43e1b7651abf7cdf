import Derived.Test.YtkffgdfbdmgncaaTlvM
import Derived.Test.YtkffgdfbdmgncaaAsk12
namespace Go.Proofs.Ytkffgdfbdmgncaa
open Go.RowKit
structure LetM where
 fr:Int
 dst:Int
 id:Int
 ans:Bool
 ask:AskM
 say:SayR
def LetM.cells (l:LetM):List Value:=[.int .i64 l.fr,.int .i64 l.dst,.int .i64 l.id,.bool l.ans] ++ l.ask.cells ++ l.say.cells
def zeroQ:AskM:=⟨0,0,0,0,0,0,0,0,noText⟩
def zeroS:SayR:=⟨0,0,0,blankR 0⟩
def zeroL:LetM:=⟨0,0,0,false,zeroQ,zeroS⟩
def partyB (n:Int):Bool:=(decide (n ≥ 0) && decide (n < 6)) || ((decide (n ≥ 200) && decide (n < 202)) || ((n:Int) == 100))
def numFs (t:Int):List Int → List FldM
 | []=>[]
 | x :: l=>⟨t,numT x⟩ :: numFs (t + 1) l
theorem numFs_snoc:∀ (l:List Int) (t x:Int),numFs t (l ++ [x]) = numFs t l ++ [⟨t + (l.length:Int),numT x⟩]
 | [],t,x=>by simp [numFs]
 | a :: l,t,x=>by
  simp only [List.cons_append,numFs,numFs_snoc l (t + 1) x,List.length_cons]
  rw [show t + 1 + (l.length:Int) = t + ((l.length + 1:Nat):Int) by omega]
def askN (q:AskM):List Int:=[q.kind,q.stripe,q.epoch,q.seq,q.mask,q.node,q.oe,q.os]
def headN (l:LetM):List Int:=[l.fr,l.dst,l.id]
def sayN (s:SayR):List Int:=[s.st,s.ep,s.ou]
end Go.Proofs.Ytkffgdfbdmgncaa
