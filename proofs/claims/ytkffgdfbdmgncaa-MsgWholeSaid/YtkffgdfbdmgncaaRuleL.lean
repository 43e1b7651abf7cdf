import Derived.Test.YtkffgdfbdmgncaaRuleM
import Derived.Test.YtkffgdfbdmgncaaRaw8
import Derived.Test.YtkffgdfbdmgncaaPickZ
namespace Go.Proofs.Ytkffgdfbdmgncaa
open Go.RowKit
end Go.Proofs.Ytkffgdfbdmgncaa
