/- Texts We Wf Wg, merged: a claim has at most 60 files. -/
import Derived.Test.YtakoppmiegjjlaaGreatDoorM4
import Derived.Test.YtakoppmiegjjlaaGreatDoorM10
/- Package wire's walks: numbers and texts that are read. -/
namespace Go.Lx
open Go.Proofs
set_option linter.unusedVariables false
set_option linter.unusedSimpArgs false
set_option maxRecDepth 20000
set_option maxHeartbeats 4000000

theorem TakeR.le {s : Bs} {p n : Nat} {e : Int} {x : Bs} {p' : Nat} {e' : Int} (h : TakeR s p e n x p' e') (hp : p ≤ s.length) : p' ≤ s.length := by
  rcases h with ⟨_, _, _, rfl, _⟩ | ⟨_, _, _, rfl, _⟩ | ⟨_, _, rfl, _⟩ <;> omega
end Go.Lx

/- Package wire's walks: bounded numbers and texts that are read. -/
namespace Go.Lx
open Go.Proofs
set_option linter.unusedVariables false
set_option linter.unusedSimpArgs false
set_option maxRecDepth 20000
set_option maxHeartbeats 4000000

theorem RdR.zero {α : Type} {f : Bs → Option (α × Nat)} {d : α} {s : Bs} {p : Nat} {e : Int} {x : α} {p' : Nat} {e' : Int} (h : RdR f d s p e x p' e') (he : ¬ e' = 0) : x = d := by
  rcases h.2 with ⟨_, _, _, h, _⟩ | ⟨_, h, _⟩
  · exact absurd h he
  · exact h
end Go.Lx

/- The document's numbers and texts that are read. -/
namespace Go.Lx
open Go.Proofs
set_option linter.unusedVariables false
set_option linter.unusedSimpArgs false
set_option maxRecDepth 20000
set_option maxHeartbeats 4000000

end Go.Lx
