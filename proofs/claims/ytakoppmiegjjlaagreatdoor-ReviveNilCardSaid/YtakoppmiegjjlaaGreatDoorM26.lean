/- Texts Eh Ej Ek, merged: a claim has at most 60 files. -/
import Derived.Test.YtakoppmiegjjlaaGreatDoorM4
import Derived.Test.YtakoppmiegjjlaaGreatDoorM25
import Derived.Test.YtakoppmiegjjlaaGreatDoorM17
/- Package extmap's walks, part h: puts, cuts, moves. -/
namespace Go.Lx
open Go.Proofs
set_option linter.unusedVariables false
set_option linter.unusedSimpArgs false
set_option maxRecDepth 20000
set_option maxHeartbeats 2000000

end Go.Lx

/- Package extmap's walks, part j: a move. -/
namespace Go.Lx
open Go.Proofs
set_option linter.unusedVariables false
set_option linter.unusedSimpArgs false
set_option maxRecDepth 20000
set_option maxHeartbeats 2000000

end Go.Lx

/- Package extmap's walks, part k: holes. -/
namespace Go.Lx
open Go.Proofs
set_option linter.unusedVariables false
set_option linter.unusedSimpArgs false
set_option maxRecDepth 20000
set_option maxHeartbeats 2000000

def spnE (x : Ext) : Sp := (x.a, x.n)
theorem inE.may {x : Ext} (h : inE x) : mayS (spnE x) := by unfold inE at h; unfold mayS spnE; dsimp only; omega
/-- What is nowhere. -/
structure IsHole (σ : Sig) (s : Sp) (O : List Sp) : Prop where
  set : SetOK O O.length
  at_ : ∀ t, inS O t ↔ s.1 ≤ t ∧ t < s.1 + s.2 ∧ σ t = none
end Go.Lx
