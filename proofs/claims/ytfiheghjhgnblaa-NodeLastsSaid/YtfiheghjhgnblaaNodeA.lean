import Derived.Test.YtfiheghjhgnblaaFit9
import Derived.Test.YtfiheghjhgnblaaEngT
import Derived.Test.YtfiheghjhgnblaaRuleL
import Derived.Test.YtfiheghjhgnblaaPick9
import Derived.Test.YtfiheghjhgnblaaPickZ
namespace Go.Proofs.Ytfiheghjhgnblaa
open Go.RowKit
def fitF (x:Raw9):AskM:=
 let S:=pickZ x.stripe 8
 let E:=pickZ x.epoch 6
 let Q:=pickZ x.seq 6
 if pickZ x.kind 10 = 7 then ⟨8,S,0,0,0,0,0,0,⟨#[]⟩⟩
 else if pickZ x.kind 10 = 3 then ⟨4,S,1 + E,1 + Q,1 + pickZ x.mask 63,0,0,0,strL 16 x.block⟩
 else if pickZ x.kind 10 = 4 then ⟨5,S,1 + E,1 + Q,0,0,0,0,⟨#[]⟩⟩
 else if pickZ x.kind 10 = 5 then ⟨6,S,1 + E,0,pickZ x.mask 2,0,pickZ x.oe (1 + E),pickZ x.os 7,⟨#[]⟩⟩
 else if pickZ x.kind 10 = 6 then ⟨7,S,1 + E,1 + Q,0,0,0,0,strL 16 x.block⟩
 else if pickZ x.kind 10 = 8 then ⟨9,S,1 + E,0,0,pickZ x.node 6,0,0,⟨#[]⟩⟩
 else ⟨1 + pickZ x.kind 10,S,1 + E,0,0,0,0,0,⟨#[]⟩⟩
theorem fitP (x:Raw9) (q:AskM) (hq:fitF x = q) (w:World) (hx:Raw9Ok x) :
  Calls Try.prog 11 #[.agg #[.int .i64 x.kind,.int .i64 x.stripe,.int .i64 x.epoch,.int .i64 x.seq,.int .i64 x.mask,.int .i64 x.node,.int .i64 x.oe,.int .i64 x.os,.string x.block]] w (RetK (.agg #[.int .i64 q.kind,.int .i64 q.stripe,.int .i64 q.epoch,.int .i64 q.seq,.int .i64 q.mask,.int .i64 q.node,.int .i64 q.oe,.int .i64 q.os,.string q.block]) w):=by
 subst hq
 have hb:=pickZ_bd x.kind 10 (by omega)
 have hK:pickZ x.kind 10 = 0 ∨ pickZ x.kind 10 = 1 ∨ pickZ x.kind 10 = 2 ∨ pickZ x.kind 10 = 3 ∨ pickZ x.kind 10 = 4 ∨ pickZ x.kind 10 = 5 ∨ pickZ x.kind 10 = 6 ∨ pickZ x.kind 10 = 7 ∨ pickZ x.kind 10 = 8 ∨ pickZ x.kind 10 = 9:=by omega
 rcases hK with hK | hK | hK | hK | hK | hK | hK | hK | hK | hK
 ·simpa [fitF,hK] using fit_1 x _ _ hx hK rfl rfl w
 ·simpa [fitF,hK] using fit_2 x _ _ hx hK rfl rfl w
 ·simpa [fitF,hK] using fit_3 x _ _ hx hK rfl rfl w
 ·simpa [fitF,hK] using fit_4 x _ _ _ _ hx hK rfl rfl rfl rfl w
 ·simpa [fitF,hK] using fit_5 x _ _ _ hx hK rfl rfl rfl w
 ·simpa [fitF,hK] using fit_6 x _ _ _ _ _ hx hK rfl rfl rfl rfl rfl w
 ·simpa [fitF,hK] using fit_7 x _ _ _ hx hK rfl rfl rfl w
 ·simpa [fitF,hK] using fit_8 x _ hx hK rfl w
 ·simpa [fitF,hK] using fit_9 x _ _ _ hx hK rfl rfl rfl w
 ·simpa [fitF,hK] using fit_10 x _ _ hx hK rfl rfl w
end Go.Proofs.Ytfiheghjhgnblaa
namespace Go.Proofs.Ytfiheghjhgnblaa
open Go.RowKit
theorem fitF_ok (x:Raw9):AskOk (fitF x):=by
 have hK:=pickZ_bd x.kind 10 (by omega)
 have hS:=pickZ_bd x.stripe 8 (by omega)
 have hE:=pickZ_bd x.epoch 6 (by omega)
 have hQ:=pickZ_bd x.seq 6 (by omega)
 have hM:=pickZ_bd x.mask 63 (by omega)
 have hM2:=pickZ_bd x.mask 2 (by omega)
 have hOE:=pickZ_bd x.oe (1 + pickZ x.epoch 6) (by omega)
 have hOS:=pickZ_bd x.os 7 (by omega)
 have hN:=pickZ_bd x.node 6 (by omega)
 unfold fitF
 dsimp only
 generalize pickZ x.oe (1 + pickZ x.epoch 6) = OE at *
 generalize pickZ x.kind 10 = K at *
 generalize pickZ x.stripe 8 = S at *
 generalize pickZ x.epoch 6 = E at *
 generalize pickZ x.seq 6 = Q at *
 generalize pickZ x.mask 63 = M at *
 generalize pickZ x.mask 2 = M2 at *
 generalize pickZ x.os 7 = OS at *
 generalize pickZ x.node 6 = N at *
 by_cases h7:K = 7
 ·rw [if_pos h7]
  constructor <;> dsimp only <;> intros <;> first | omega | rfl
 rw [if_neg h7]
 by_cases h3:K = 3
 ·rw [if_pos h3]
  constructor <;> dsimp only <;> intros <;> first | omega | exact size_strL 16 _
 rw [if_neg h3]
 by_cases h4:K = 4
 ·rw [if_pos h4]
  constructor <;> dsimp only <;> intros <;> first | omega | rfl
 rw [if_neg h4]
 by_cases h5:K = 5
 ·rw [if_pos h5]
  constructor <;> dsimp only <;> intros <;> first | omega | rfl
 rw [if_neg h5]
 by_cases h6:K = 6
 ·rw [if_pos h6]
  constructor <;> dsimp only <;> intros <;> first | omega | exact size_strL 16 _
 rw [if_neg h6]
 by_cases h8:K = 8
 ·rw [if_pos h8]
  constructor <;> dsimp only <;> intros <;> first | omega | rfl
 rw [if_neg h8]
 constructor <;> dsimp only <;> intros <;> first | omega | rfl
end Go.Proofs.Ytfiheghjhgnblaa
namespace Go.Proofs.Ytfiheghjhgnblaa
open Go.RowKit
structure Act10 where
 (what stripe n:Int)
 (ask:Raw9)
 (text:ByteArray)
 (ka:Option Addr)
 (kn kc:Nat)
structure Act10Ok (x:Act10):Prop where
 what:I64 x.what
 stripe:I64 x.stripe
 n:I64 x.n
 ask:Raw9Ok x.ask
def Act10.cells (x:Act10):List Value:=[.int .i64 x.what,.int .i64 x.stripe,.int .i64 x.n,.int .i64 x.ask.kind,.int .i64 x.ask.stripe,.int .i64 x.ask.epoch,.int .i64 x.ask.seq,.int .i64 x.ask.mask,.int .i64 x.ask.node,.int .i64 x.ask.oe,.int .i64 x.ask.os,.string x.ask.block,.string x.text,.slice x.ka x.kn x.kc]
def Acts10At (w:World) (A:Option Addr) (n:Nat) (f:Nat → Act10):Prop:=
 ∀ k,k < n → Act10Ok (f k) ∧ ∃ b o,A = some ⟨b,o,none⟩ ∧ b < w.heap.size ∧ ∀ j,j < 14 → w.cell? ⟨b,o + k * 14 + j,none⟩ = (f k).cells[j]?
def qs (q:AskM) (k:Int):AskM:=⟨q.kind,k,q.epoch,q.seq,q.mask,q.node,q.oe,q.os,q.block⟩
theorem qs_ok {q:AskM} (h:AskOk q) {k:Int} (hk:0 ≤ k ∧ k ≤ 7):AskOk (qs q k):=⟨h.kind,hk,h.epoch,h.epoch8,h.seq,h.seq0,h.mask4,h.mask6,h.mask0,h.block,h.block0,h.old,h.old0,h.node,h.node0⟩
end Go.Proofs.Ytfiheghjhgnblaa
