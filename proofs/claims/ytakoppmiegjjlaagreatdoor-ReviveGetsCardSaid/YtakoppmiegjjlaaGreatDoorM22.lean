import Derived.Test.YtakoppmiegjjlaaGreatDoorM21
set_option linter.unusedVariables false
set_option linter.unusedSimpArgs false
namespace Go.Lx
end Go.Lx
namespace Go.Lx
theorem Rise.endTop : ∀ {l : List Ext} {lo : Int}, Rise lo l → lo ≤ 65536 → endE lo l ≤ 65536
  | [], lo, _, h => h
  | x :: l, lo, ⟨h1, h2, h3⟩, _ => by
    unfold inE at h2
    exact Rise.endTop (l := l) h3 (by omega)
theorem Rise.take : ∀ {l : List Ext} {lo : Int} (i : Nat), Rise lo l → Rise lo (l.take i)
  | [], _, _, _ => by simp [Rise]
  | x :: l, lo, 0, _ => trivial
  | x :: l, lo, i + 1, ⟨h1, h2, h3⟩ => ⟨h1, h2, Rise.take i h3⟩
end Go.Lx
namespace Go.Lx
end Go.Lx
