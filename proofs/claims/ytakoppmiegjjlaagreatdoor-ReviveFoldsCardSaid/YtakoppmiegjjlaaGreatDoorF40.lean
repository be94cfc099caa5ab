import Derived.Test.YtakoppmiegjjlaaGreatDoorF32
import Derived.Test.YtakoppmiegjjlaaGreatDoorF4
set_option linter.unusedVariables false
set_option linter.unusedSimpArgs false
set_option maxRecDepth 20000
set_option maxHeartbeats 4000000
namespace Go.Lx
open Go.Proofs
end Go.Lx
namespace Go.Lx
open Go.Proofs
end Go.Lx
namespace Go.Lx
open Go.Proofs
end Go.Lx
