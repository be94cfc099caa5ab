/- Texts Dd De Df, merged: a claim has at most 60 files. -/
import Derived.Test.YthgnlbibdiileaaGreatM4
import Derived.Test.YthgnlbibdiileaaGreatM19
import Derived.Test.YthgnlbibdiileaaGreatM2
import Derived.Test.YthgnlbibdiileaaGreatM15
import Derived.Test.YthgnlbibdiileaaGreatM9
/- Package dobj's walks: what is read. -/
namespace Go.Lx
open Go.Proofs
set_option linter.unusedVariables false
set_option linter.unusedSimpArgs false
set_option maxRecDepth 20000
set_option maxHeartbeats 4000000
structure TJ where
  p : Nat
  e : Int
  a : Option Addr
  c : Nat
  l : List Ext
structure TK where
  p : Nat
  e : Int
  a : Option Addr
  c : Nat
  l : List Sp
end Go.Lx

/- Package dobj's walks: Decode. -/
namespace Go.Lx
open Go.Proofs
set_option linter.unusedVariables false
set_option linter.unusedSimpArgs false
set_option maxRecDepth 20000
set_option maxHeartbeats 4000000
end Go.Lx

/- The document's answer for objects: walks. -/
namespace Go.Lx
open Go.Proofs
set_option linter.unusedVariables false
set_option linter.unusedSimpArgs false
set_option maxRecDepth 20000
set_option maxHeartbeats 4000000
theorem Rd.dA {w : World} {a : Option Addr} {n c m : Nat} {xs : List Ext} {x : Ext} (h : Rd w 4 a n c (encE xs)) (hx : xs[m]? = some x) : w.cell? (el a (m * 4)) = some (.int .i64 x.a) ∧ w.cell? (el a (m * 4 + 1)) = some (.int .i64 x.n) ∧ w.cell? (el a (m * 4 + 2)) = some (.int .i64 x.q) ∧ w.cell? (el a (m * 4 + 3)) = some (.int .i64 x.p) := by
  have h0 := Rd.ext h hx 0 _ rfl
  have h1 := Rd.ext h hx 1 _ rfl
  have h2 := Rd.ext h hx 2 _ rfl
  have h3 := Rd.ext h hx 3 _ rfl
  rw [el_add] at h0 h1 h2 h3
  exact ⟨h0, h1, h2, h3⟩
end Go.Lx
