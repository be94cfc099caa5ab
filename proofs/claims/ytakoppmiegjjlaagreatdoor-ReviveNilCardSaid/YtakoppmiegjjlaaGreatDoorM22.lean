/- Texts Dd De Pc, merged: a claim has at most 60 files. -/
import Derived.Test.YtakoppmiegjjlaaGreatDoorM4
import Derived.Test.YtakoppmiegjjlaaGreatDoorM21
import Derived.Test.YtakoppmiegjjlaaGreatDoorM2
import Derived.Test.YtakoppmiegjjlaaGreatDoorM16
import Derived.Test.YtakoppmiegjjlaaGreatDoorM3
/- Package dobj's walks: what is read. -/
namespace Go.Lx
open Go.Proofs
set_option linter.unusedVariables false
set_option linter.unusedSimpArgs false
set_option maxRecDepth 20000
set_option maxHeartbeats 4000000
structure TJ where
  p : Nat
  e : Int
  a : Option Addr
  c : Nat
  l : List Ext
structure TK where
  p : Nat
  e : Int
  a : Option Addr
  c : Nat
  l : List Sp
end Go.Lx

/- Package dobj's walks: Decode. -/
namespace Go.Lx
open Go.Proofs
set_option linter.unusedVariables false
set_option linter.unusedSimpArgs false
set_option maxRecDepth 20000
set_option maxHeartbeats 4000000
end Go.Lx

/- Plain laws on lists of spans, part c: sets out of sectors; a set is told by its sectors. -/
namespace Go.Lx
set_option linter.unusedVariables false
set_option linter.unusedSimpArgs false

/-- A set out of sectors, so far. -/
structure StI (bs : List Bool) (i : Nat) (o : List Sp) : Prop where
  hi : i ≤ bs.length
  len : o.length ≤ i
  set : SetOK o o.length
  mem : ∀ t, inS o t ↔ ∃ k : Nat, k < i ∧ t = k ∧ bs[k]? = some true
  le : ∀ y ∈ o, y.1 + y.2 ≤ i
  last : 0 < i → bs[i - 1]? = some true → ∃ y, o[o.length - 1]? = some y ∧ y.1 + y.2 = i
  ends : (0 < i → bs[i - 1]? ≠ some true) → ∀ y ∈ o, y.1 + y.2 < i

variable {bs : List Bool} {o : List Sp} {i : Nat}
theorem StI.start : StI bs 0 [] := ⟨Nat.zero_le _, Nat.le_refl _, SetOK.nil _, fun t => ⟨fun h => absurd h (inS_nil t), fun ⟨k, hk, _⟩ => absurd hk (Nat.not_lt_zero k)⟩, fun _ h => (by cases h), fun h => absurd h (Nat.lt_irrefl 0), fun _ _ h => (by cases h)⟩
theorem StI.skip (h : StI bs i o) (hb : bs[i]? = some false) : StI bs (i + 1) o := by
  refine ⟨lt_of_get hb, by have := h.len; omega, h.set, fun t => ?_, fun y hy => by have := h.le y hy; omega, fun _ h1 => ?_, fun _ y hy => by have := h.le y hy; omega⟩
  · rw [h.mem t]
    constructor
    · rintro ⟨k, hk, h1, h2⟩; exact ⟨k, by omega, h1, h2⟩
    · rintro ⟨k, hk, h1, h2⟩
      by_cases e : k = i
      · subst e; rw [hb] at h2; cases h2
      · exact ⟨k, by omega, h1, h2⟩
  · rw [Nat.add_sub_cancel, hb] at h1; cases h1
theorem StI.push (h : StI bs i o) (hb : bs[i]? = some true) (hp : 0 < i → bs[i - 1]? ≠ some true) (hbd : bs.length ≤ 60000) : StI bs (i + 1) (o ++ [((i : Int), 1)]) := by
  have hil := lt_of_get hb
  refine ⟨hil, by have := h.len; simp; omega, h.set.snoc (h.ends hp) (by unfold mayS; dsimp only; omega), fun t => ?_, fun y hy => ?_, fun _ _ => ⟨((i : Int), 1), by simp, by dsimp only; omega⟩, fun h1 => absurd (by rw [Nat.add_sub_cancel]; exact hb) (h1 (by omega))⟩
  · rw [inS_append, h.mem t, inS_one]
    dsimp only
    constructor
    · rintro (⟨k, hk, h1, h2⟩ | h1)
      · exact ⟨k, by omega, h1, h2⟩
      · exact ⟨i, by omega, by omega, hb⟩
    · rintro ⟨k, hk, h1, h2⟩
      by_cases e : k = i
      · right; omega
      · exact .inl ⟨k, by omega, h1, h2⟩
  · rcases List.mem_append.1 hy with hy | hy
    · have := h.le y hy; omega
    · simp at hy; subst hy; dsimp only; omega
/-! ### a set is told by its sectors -/
theorem SetOK.tail {x : Sp} {l : List Sp} (h : SetOK (x :: l) (x :: l).length) : SetOK l l.length ∧ ∀ y ∈ l, x.1 + x.2 < y.1 := by
  refine ⟨fun k y hk hy => ?_, fun y hy => ?_⟩
  · obtain ⟨h1, h2⟩ := h (k + 1) y (by simp; omega) (by simpa using hy)
    refine ⟨h1, fun z h0 hz => h2 z (by omega) ?_⟩
    have : k + 1 - 1 = (k - 1) + 1 := by omega
    rw [this]
    simpa using hz
  · obtain ⟨j, hj⟩ := List.mem_iff_getElem?.1 hy
    have hjl := lt_of_get hj
    exact h.lt (j + 1) 0 x y (by omega) (by simp; omega) (by simp) (by simpa using hj)
end Go.Lx
