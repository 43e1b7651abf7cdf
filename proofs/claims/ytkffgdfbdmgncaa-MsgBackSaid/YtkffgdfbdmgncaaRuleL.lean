/- Layer 9 in plain Lean: what an ask does, case by case; what follows for records. No program. -/
import Derived.Test.YtkffgdfbdmgncaaRuleM
import Derived.Test.YtkffgdfbdmgncaaRaw8
import Derived.Test.YtkffgdfbdmgncaaPickZ
namespace Go.Proofs.Ytkffgdfbdmgncaa
open Go.RowKit

end Go.Proofs.Ytkffgdfbdmgncaa
