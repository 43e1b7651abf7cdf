/- Fit of layer 9's law as one contract. -/
import Derived.Test.YtmeddeaphmpjcaaFit9
import Derived.Test.YtmeddeaphmpjcaaRuleM
namespace Go.Proofs.Ytmeddeaphmpjcaa
open Go.RowKit

def fitF (x : Raw9) : AskM :=
  let S := pickZ x.stripe 8
  let E := pickZ x.epoch 6
  let Q := pickZ x.seq 6
  if pickZ x.kind 10 = 7 then ⟨8, S, 0, 0, 0, 0, 0, 0, ⟨#[]⟩⟩
  else if pickZ x.kind 10 = 3 then ⟨4, S, 1 + E, 1 + Q, 1 + pickZ x.mask 63, 0, 0, 0, strL 16 x.block⟩
  else if pickZ x.kind 10 = 4 then ⟨5, S, 1 + E, 1 + Q, 0, 0, 0, 0, ⟨#[]⟩⟩
  else if pickZ x.kind 10 = 5 then ⟨6, S, 1 + E, 0, pickZ x.mask 2, 0, pickZ x.oe (1 + E), pickZ x.os 7, ⟨#[]⟩⟩
  else if pickZ x.kind 10 = 6 then ⟨7, S, 1 + E, 1 + Q, 0, 0, 0, 0, strL 16 x.block⟩
  else if pickZ x.kind 10 = 8 then ⟨9, S, 1 + E, 0, 0, pickZ x.node 6, 0, 0, ⟨#[]⟩⟩
  else ⟨1 + pickZ x.kind 10, S, 1 + E, 0, 0, 0, 0, 0, ⟨#[]⟩⟩
theorem fitP (x : Raw9) (q : AskM) (hq : fitF x = q) (w : World) (hx : Raw9Ok x) :
    Calls Try.prog 15 #[.agg #[.int .i64 x.kind, .int .i64 x.stripe, .int .i64 x.epoch, .int .i64 x.seq, .int .i64 x.mask, .int .i64 x.node, .int .i64 x.oe, .int .i64 x.os, .string x.block]] w (RetK (.agg #[.int .i64 q.kind, .int .i64 q.stripe, .int .i64 q.epoch, .int .i64 q.seq, .int .i64 q.mask, .int .i64 q.node, .int .i64 q.oe, .int .i64 q.os, .string q.block]) w) := by
  subst hq
  have hb := pickZ_bd x.kind 10 (by omega)
  have hK : pickZ x.kind 10 = 0 ∨ pickZ x.kind 10 = 1 ∨ pickZ x.kind 10 = 2 ∨ pickZ x.kind 10 = 3 ∨ pickZ x.kind 10 = 4 ∨ pickZ x.kind 10 = 5 ∨ pickZ x.kind 10 = 6 ∨ pickZ x.kind 10 = 7 ∨ pickZ x.kind 10 = 8 ∨ pickZ x.kind 10 = 9 := by omega
  rcases hK with hK | hK | hK | hK | hK | hK | hK | hK | hK | hK
  · simpa [fitF, hK] using fit_1 x _ _ hx hK rfl rfl w
  · simpa [fitF, hK] using fit_2 x _ _ hx hK rfl rfl w
  · simpa [fitF, hK] using fit_3 x _ _ hx hK rfl rfl w
  · simpa [fitF, hK] using fit_4 x _ _ _ _ hx hK rfl rfl rfl rfl w
  · simpa [fitF, hK] using fit_5 x _ _ _ hx hK rfl rfl rfl w
  · simpa [fitF, hK] using fit_6 x _ _ _ _ _ hx hK rfl rfl rfl rfl rfl w
  · simpa [fitF, hK] using fit_7 x _ _ _ hx hK rfl rfl rfl w
  · simpa [fitF, hK] using fit_8 x _ hx hK rfl w
  · simpa [fitF, hK] using fit_9 x _ _ _ hx hK rfl rfl rfl w
  · simpa [fitF, hK] using fit_10 x _ _ hx hK rfl rfl w
end Go.Proofs.Ytmeddeaphmpjcaa
