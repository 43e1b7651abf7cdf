import Derived.Test.YtkffgdfbdmgncaaRuleL
import Derived.Test.YtkffgdfbdmgncaaFitF9
namespace Go.Proofs.Ytkffgdfbdmgncaa
open Go.RowKit
theorem fitF_ok (x : Raw9) : AskOk (fitF x):=by
 have hK:=pickZ_bd x.kind 10 (by omega)
 have hS:=pickZ_bd x.stripe 8 (by omega)
 have hE:=pickZ_bd x.epoch 6 (by omega)
 have hQ:=pickZ_bd x.seq 6 (by omega)
 have hM:=pickZ_bd x.mask 63 (by omega)
 have hM2:=pickZ_bd x.mask 2 (by omega)
 have hOE:=pickZ_bd x.oe (1 + pickZ x.epoch 6) (by omega)
 have hOS:=pickZ_bd x.os 7 (by omega)
 have hN:=pickZ_bd x.node 6 (by omega)
 unfold fitF
 dsimp only
 generalize pickZ x.oe (1 + pickZ x.epoch 6) = OE at *
 generalize pickZ x.kind 10 = K at *
 generalize pickZ x.stripe 8 = S at *
 generalize pickZ x.epoch 6 = E at *
 generalize pickZ x.seq 6 = Q at *
 generalize pickZ x.mask 63 = M at *
 generalize pickZ x.mask 2 = M2 at *
 generalize pickZ x.os 7 = OS at *
 generalize pickZ x.node 6 = N at *
 by_cases h7 : K = 7
 ·rw [if_pos h7]
  constructor <;> dsimp only <;> intros <;> first | omega | rfl
 rw [if_neg h7]
 by_cases h3 : K = 3
 ·rw [if_pos h3]
  constructor <;> dsimp only <;> intros <;> first | omega | exact size_strL 16 _
 rw [if_neg h3]
 by_cases h4 : K = 4
 ·rw [if_pos h4]
  constructor <;> dsimp only <;> intros <;> first | omega | rfl
 rw [if_neg h4]
 by_cases h5 : K = 5
 ·rw [if_pos h5]
  constructor <;> dsimp only <;> intros <;> first | omega | rfl
 rw [if_neg h5]
 by_cases h6 : K = 6
 ·rw [if_pos h6]
  constructor <;> dsimp only <;> intros <;> first | omega | exact size_strL 16 _
 rw [if_neg h6]
 by_cases h8 : K = 8
 ·rw [if_pos h8]
  constructor <;> dsimp only <;> intros <;> first | omega | rfl
 rw [if_neg h8]
 constructor <;> dsimp only <;> intros <;> first | omega | rfl
end Go.Proofs.Ytkffgdfbdmgncaa
