/- The document's fixed numbers and texts. -/
import Derived.Test.YtkjhepgohacmiaaWh
namespace Go.Lx
open Go.Proofs
set_option linter.unusedVariables false
set_option linter.unusedSimpArgs false
set_option maxRecDepth 20000
set_option maxHeartbeats 4000000



end Go.Lx
