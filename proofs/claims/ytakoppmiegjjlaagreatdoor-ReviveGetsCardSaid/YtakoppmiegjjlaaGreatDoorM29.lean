import Derived.Test.YtakoppmiegjjlaaGreatDoorM4
import Derived.Test.YtakoppmiegjjlaaGreatDoorM28
import Derived.Test.YtakoppmiegjjlaaGreatDoorM22
set_option linter.unusedVariables false
set_option linter.unusedSimpArgs false
set_option maxRecDepth 20000
set_option maxHeartbeats 4000000
namespace Go.Lx
open Go.Proofs
end Go.Lx
namespace Go.Lx
open Go.Proofs
end Go.Lx
namespace Go.Lx
def ExtOK (l : List Ext) (n : Nat) : Prop := ∀ k x, k < n → l[k]? = some x → mayE x ∧ ∀ y, 0 < k → l[k - 1]? = some y → y.a + y.n ≤ x.a
theorem ExtOK.step {l : List Ext} {k : Nat} {x : Ext} (h : ExtOK l k) (hx : l[k]? = some x) (hm : mayE x) (hy : ∀ y, 0 < k → l[k - 1]? = some y → y.a + y.n ≤ x.a) : ExtOK l (k + 1) := by
  intro j z hj hz
  rcases Nat.lt_or_ge j k with h1 | h1
  · exact h j z h1 hz
  · obtain rfl : j = k := by omega
    rw [hx] at hz; cases hz
    exact ⟨hm, hy⟩
theorem ExtOK.tail {x : Ext} {l : List Ext} (h : ExtOK (x :: l) (l.length + 1)) : ExtOK l l.length := fun k y hk hy => by
  have h1 := h (k + 1) y (by omega) (by simpa using hy)
  refine ⟨h1.1, fun z hz0 hz => h1.2 z (by omega) ?_⟩
  rw [show k + 1 - 1 = (k - 1) + 1 by omega]
  simpa using hz
theorem ExtOK.rise : ∀ {l : List Ext} {lo : Int}, ExtOK l l.length → (∀ x, l[0]? = some x → lo ≤ x.a) → Rise lo l
  | [], _, _, _ => trivial
  | x :: l, lo, h, h0 => by
    have hx := h 0 x (by simp) rfl
    refine ⟨h0 x rfl, hx.1.inE, ExtOK.rise (ExtOK.tail h) (fun y hy => ?_)⟩
    exact (h 1 y (by have := lt_of_get hy; simp; omega) (by simpa using hy)).2 x (by omega) rfl
theorem ExtOK.rise0 {l : List Ext} (h : ExtOK l l.length) : Rise 0 l := h.rise (fun x hx => by
  have := (h 0 x (lt_of_get hx) hx).1
  unfold mayE mayS at this
  exact this.1.1)
end Go.Lx
