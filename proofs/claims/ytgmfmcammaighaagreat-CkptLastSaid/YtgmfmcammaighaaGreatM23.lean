/- Texts Ek Fa Fb, merged: a claim has at most 60 files. -/
import Derived.Test.YtgmfmcammaighaaGreatM22
import Derived.Test.YtgmfmcammaighaaGreatM13
import Derived.Test.YtgmfmcammaighaaGreatM4
import Derived.Test.YtgmfmcammaighaaGreatM17
import Derived.Test.YtgmfmcammaighaaGreatM5
import Derived.Test.YtgmfmcammaighaaGreatM19
/- Package extmap's walks, part k: holes. -/
namespace Go.Lx
open Go.Proofs
set_option linter.unusedVariables false
set_option linter.unusedSimpArgs false
set_option maxRecDepth 20000
set_option maxHeartbeats 2000000

def spnE (x : Ext) : Sp := (x.a, x.n)
theorem inE.may {x : Ext} (h : inE x) : mayS (spnE x) := by unfold inE at h; unfold mayS spnE; dsimp only; omega
/-- What is nowhere. -/
structure IsHole (σ : Sig) (s : Sp) (O : List Sp) : Prop where
  set : SetOK O O.length
  at_ : ∀ t, inS O t ↔ s.1 ≤ t ∧ t < s.1 + s.2 ∧ σ t = none
end Go.Lx

/- The document's map of sectors (lighterref07): its walks. -/
namespace Go.Lx
open Go.Proofs
set_option linter.unusedVariables false
set_option linter.unusedSimpArgs false
set_option maxRecDepth 20000
set_option maxHeartbeats 2000000

end Go.Lx

/- The document's map of sectors: puts, cuts, moves, what is found. -/
namespace Go.Lx
open Go.Proofs
set_option linter.unusedVariables false
set_option linter.unusedSimpArgs false
set_option maxRecDepth 20000
set_option maxHeartbeats 4000000

end Go.Lx
