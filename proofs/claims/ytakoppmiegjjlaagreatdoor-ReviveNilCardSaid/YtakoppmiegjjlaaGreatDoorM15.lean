/- Texts Sb Sc Xs, merged: a claim has at most 60 files. -/
import Derived.Test.YtakoppmiegjjlaaGreatDoorM4
import Derived.Test.YtakoppmiegjjlaaGreatDoorM14
import Derived.Test.YtakoppmiegjjlaaGreatDoorM1
import Derived.Shelf.SlSortCmp.WholeK
import Derived.Shelf.SlicesG.Cmp
/- Package span's walks, part b: the predicates. -/
namespace Go.Lx
open Go.Proofs
set_option linter.unusedVariables false
set_option linter.unusedSimpArgs false

theorem Conf.bare {C : Cx} {A : List Assn} {w : World} (h : Conf C A w) (hH : C.H = fun _ => False) : Conf ⟨C.P, 0, C.w0, fun _ => False⟩ [] w := by
  have := (h.sub (List.nil_sublist A)).any (n := 0)
  rw [hH] at this
  exact this

end Go.Lx

/- Package span's walks, part c: a set without another one. -/
namespace Go.Lx
open Go.Proofs
set_option linter.unusedVariables false
set_option linter.unusedSimpArgs false
set_option maxRecDepth 20000

end Go.Lx

/- Own layer, part s: the library's slices.SortFunc, at a slice that owns its row, out of the shelf's contract. -/
namespace Go.Lx
open Go.Proofs Go.Shelf Go.Sort
set_option linter.unusedVariables false
set_option linter.unusedSimpArgs false

end Go.Lx
