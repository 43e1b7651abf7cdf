/- Which of n things a raw number speaks of, in plain Lean. -/
import Derived.Test.YtmeddeaphmpjcaaMem
namespace Go.Proofs.Ytmeddeaphmpjcaa
open Go.RowKit
def pickZ (c n : Int) : Int := (if c < 0 then -(c+1) else c) % n
theorem pickZ_bd (c n : Int) (h : 0 < n) : 0 ≤ pickZ c n ∧ pickZ c n < n := ⟨Int.emod_nonneg _ (by omega), Int.emod_lt_of_pos _ h⟩
end Go.Proofs.Ytmeddeaphmpjcaa
