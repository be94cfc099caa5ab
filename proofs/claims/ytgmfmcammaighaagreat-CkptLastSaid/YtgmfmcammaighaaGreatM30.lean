/- Texts Kh Ki Km, merged: a claim has at most 60 files. -/
import Derived.Test.YtgmfmcammaighaaGreatM4
import Derived.Test.YtgmfmcammaighaaGreatM27
import Derived.Test.YtgmfmcammaighaaGreatM23
import Derived.Test.YtgmfmcammaighaaGreatM28
import Derived.Test.YtgmfmcammaighaaGreatM29
/- The document's answer for states: Check, Bytes. -/
namespace Go.Lx
open Go.Proofs
set_option linter.unusedVariables false
set_option linter.unusedSimpArgs false
set_option maxRecDepth 20000
set_option maxHeartbeats 4000000
theorem Rd.kA {w : World} {a : Option Addr} {n c m : Nat} {xs : List Kr} {x : Kr} (h : Rd w 3 a n c (encK xs)) (hx : xs[m]? = some x) : w.cell? (el a (m * 3)) = some (.int .i64 x.1) ∧ w.cell? (el a (m * 3 + 1)) = some (.int .i64 x.2.1) ∧ w.cell? (el a (m * 3 + 2)) = some (.int .i64 x.2.2) :=
  ⟨by have := h.kr hx 0 _ rfl; rwa [el_add] at this, by have := h.kr hx 1 _ rfl; rwa [el_add] at this, by have := h.kr hx 2 _ rfl; rwa [el_add] at this⟩
/-- Extents that may be, rise, and are as few as can be: told one by one. -/
def mapN (c : Ck) (n : Nat) : Prop := ∀ k x, k < n → c.m[k]? = some x → mayE x ∧ x.a + x.n ≤ c.sz ∧ inK c.r x.q ∧ ∀ y, 0 < k → c.m[k - 1]? = some y → y.a + y.n ≤ x.a ∧ ¬ Fol y x
theorem mapN.step {c : Ck} {n : Nat} {x : Ext} (h : mapN c n) (hx : c.m[n]? = some x) (hm : mayE x) (h1 : x.a + x.n ≤ c.sz) (h2 : inK c.r x.q) (h3 : ∀ y, 0 < n → c.m[n - 1]? = some y → y.a + y.n ≤ x.a ∧ ¬ Fol y x) : mapN c (n + 1) := fun k y hk hy => by
  rcases Nat.lt_or_ge k n with g | g
  · exact h k y g hy
  · obtain rfl : k = n := by omega
    rw [hx] at hy; cases hy
    exact ⟨hm, h1, h2, h3⟩
end Go.Lx

/- The document's answer for states: Bytes, Check; the law's helpers. -/
namespace Go.Lx
open Go.Proofs
set_option linter.unusedVariables false
set_option linter.unusedSimpArgs false
set_option maxRecDepth 20000
set_option maxHeartbeats 4000000
end Go.Lx

/- Package ckpt's walks: Decode; and the document's. -/
namespace Go.Lx
open Go.Proofs
set_option linter.unusedVariables false
set_option linter.unusedSimpArgs false
set_option maxRecDepth 20000
set_option maxHeartbeats 4000000
end Go.Lx
