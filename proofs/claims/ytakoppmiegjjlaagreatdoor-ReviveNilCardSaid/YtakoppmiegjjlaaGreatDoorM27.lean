/- Texts Fa Fb Fc, merged: a claim has at most 60 files. -/
import Derived.Test.YtakoppmiegjjlaaGreatDoorM4
import Derived.Test.YtakoppmiegjjlaaGreatDoorM26
import Derived.Test.YtakoppmiegjjlaaGreatDoorM21
import Derived.Test.YtakoppmiegjjlaaGreatDoorM5
import Derived.Test.YtakoppmiegjjlaaGreatDoorM23
/- The document's map of sectors (lighterref07): its walks. -/
namespace Go.Lx
open Go.Proofs
set_option linter.unusedVariables false
set_option linter.unusedSimpArgs false
set_option maxRecDepth 20000
set_option maxHeartbeats 2000000

end Go.Lx

/- The document's map of sectors: puts, cuts, moves, what is found. -/
namespace Go.Lx
open Go.Proofs
set_option linter.unusedVariables false
set_option linter.unusedSimpArgs false
set_option maxRecDepth 20000
set_option maxHeartbeats 4000000

end Go.Lx

/- The document's map of sectors: what is found, holes, how many. -/
namespace Go.Lx
open Go.Proofs
set_option linter.unusedVariables false
set_option linter.unusedSimpArgs false
set_option maxRecDepth 20000
set_option maxHeartbeats 4000000

end Go.Lx
