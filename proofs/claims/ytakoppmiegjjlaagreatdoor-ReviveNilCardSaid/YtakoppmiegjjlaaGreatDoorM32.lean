/- Texts Kl Kh Kg, merged: a claim has at most 60 files. -/
import Derived.Test.YtakoppmiegjjlaaGreatDoorM4
import Derived.Test.YtakoppmiegjjlaaGreatDoorM31
import Derived.Test.YtakoppmiegjjlaaGreatDoorM30
import Derived.Test.YtakoppmiegjjlaaGreatDoorM27
import Derived.Test.YtakoppmiegjjlaaGreatDoorM24
/- Package ckpt's walks: what is read. -/
namespace Go.Lx
open Go.Proofs
set_option linter.unusedVariables false
set_option linter.unusedSimpArgs false
set_option maxRecDepth 20000
set_option maxHeartbeats 4000000
def c4 (L : List Nat) : List Value := L.map (fun x => Value.int .i64 ((x : Nat) : Int)) ++ List.replicate (4 - L.length) (.int .i64 0)
structure TQ where
  p : Nat
  e : Int
  L : List Nat
structure TM where
  p : Nat
  e : Int
  a : Option Addr
  c : Nat
  l : List Ext
structure TN where
  p : Nat
  e : Int
  a : Option Addr
  c : Nat
  l : List Kr
end Go.Lx

/- The document's answer for states: Check, Bytes. -/
namespace Go.Lx
open Go.Proofs
set_option linter.unusedVariables false
set_option linter.unusedSimpArgs false
set_option maxRecDepth 20000
set_option maxHeartbeats 4000000
theorem Rd.kA {w : World} {a : Option Addr} {n c m : Nat} {xs : List Kr} {x : Kr} (h : Rd w 3 a n c (encK xs)) (hx : xs[m]? = some x) : w.cell? (el a (m * 3)) = some (.int .i64 x.1) ∧ w.cell? (el a (m * 3 + 1)) = some (.int .i64 x.2.1) ∧ w.cell? (el a (m * 3 + 2)) = some (.int .i64 x.2.2) :=
  ⟨by have := h.kr hx 0 _ rfl; rwa [el_add] at this, by have := h.kr hx 1 _ rfl; rwa [el_add] at this, by have := h.kr hx 2 _ rfl; rwa [el_add] at this⟩
/-- Extents that may be, rise, and are as few as can be: told one by one. -/
def mapN (c : Ck) (n : Nat) : Prop := ∀ k x, k < n → c.m[k]? = some x → mayE x ∧ x.a + x.n ≤ c.sz ∧ inK c.r x.q ∧ ∀ y, 0 < k → c.m[k - 1]? = some y → y.a + y.n ≤ x.a ∧ ¬ Fol y x
theorem mapN.step {c : Ck} {n : Nat} {x : Ext} (h : mapN c n) (hx : c.m[n]? = some x) (hm : mayE x) (h1 : x.a + x.n ≤ c.sz) (h2 : inK c.r x.q) (h3 : ∀ y, 0 < n → c.m[n - 1]? = some y → y.a + y.n ≤ x.a ∧ ¬ Fol y x) : mapN c (n + 1) := fun k y hk hy => by
  rcases Nat.lt_or_ge k n with g | g
  · exact h k y g hy
  · obtain rfl : k = n := by omega
    rw [hx] at hy; cases hy
    exact ⟨hm, h1, h2, h3⟩
end Go.Lx

/- Package ckpt's statements: the chapter's example. -/
namespace Go.Lx
open Go.Proofs
set_option linter.unusedVariables false
set_option linter.unusedSimpArgs false
set_option maxRecDepth 20000
set_option maxHeartbeats 40000000
def cN (k : Nat) (sz : Int) : Ck := ⟨k, 1, 0, 0, sz, [], [], []⟩
theorem chk_new {k : Nat} {sz : Int} (h : 1 ≤ sz ∧ sz ≤ 65536) : chkK (cN k sz) = 0 := by
  refine chkK_of ⟨(by decide : (1 : Int) ≤ 1 ∧ (1 : Int) < 1099511627776), (by decide : (0 : Int) ≤ 0 ∧ (0 : Int) < 1099511627776), (by decide : (0 : Int) ≤ 0 ∧ (0 : Int) < 1099511627776), h⟩ ⟨fun i x hi => absurd hi (Nat.not_lt_zero _), trivial, fun x hx => (List.not_mem_nil hx).elim⟩ ⟨fun i x hi => absurd hi (Nat.not_lt_zero _), fun x hx => (List.not_mem_nil hx).elim⟩ (Nat.zero_le _) ?_
  have h1 := bodK_len (cN k sz)
  have h2 := stK_len (cN k sz)
  have e1 : (cN k sz).m.length = 0 := rfl
  have e2 : (cN k sz).r.length = 0 := rfl
  have e3 : (cN k sz).nt.length = 0 := rfl
  omega
end Go.Lx
