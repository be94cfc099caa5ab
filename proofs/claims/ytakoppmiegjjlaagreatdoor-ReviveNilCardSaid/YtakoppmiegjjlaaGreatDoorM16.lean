/- Texts So Pb Sd, merged: a claim has at most 60 files. -/
import Derived.Test.YtakoppmiegjjlaaGreatDoorM15
import Derived.Test.YtakoppmiegjjlaaGreatDoorProg
import Derived.Test.YtakoppmiegjjlaaGreatDoorM13
import Derived.Test.YtakoppmiegjjlaaGreatDoorM4
import Derived.Test.YtakoppmiegjjlaaGreatDoorM1
import Derived.Shelf.SlicesG.Cmp
import Derived.Shelf.SlSortCmp.SmallK
/- The shelf's contracts, laid at this seat's program. -/
namespace Go.Proofs
open Go.Shelf
end Go.Proofs

/- Plain laws on lists of spans, part b: what joining sorted spans makes. -/
namespace Go.Lx
set_option linter.unusedVariables false
set_option linter.unusedSimpArgs false

theorem snoc_of {α : Type} (o : List α) (h : 0 < o.length) : ∃ o' y, o = o' ++ [y] := by
  rcases List.eq_nil_or_concat o with h1 | ⟨o', y, h1⟩
  · subst h1; simp at h
  · exact ⟨o', y, by simpa using h1⟩

structure JoI (l : List Sp) (i : Nat) (o : List Sp) : Prop where
  hi : i ≤ l.length
  len : o.length ≤ i
  set : SetOK o o.length
  mem : ∀ t, inS o t ↔ inTo l i t
  lo : ∀ x ∈ o, ∀ j y, i ≤ j → l[j]? = some y → x.1 ≤ y.1

variable {l o : List Sp} {i : Nat} {s y : Sp}
theorem JoI.start : JoI l 0 [] := ⟨Nat.zero_le _, Nat.le_refl _, SetOK.nil _, fun t => ⟨fun h => absurd h (inS_nil t), fun ⟨j, _, hj, _⟩ => absurd hj (Nat.not_lt_zero j)⟩, fun _ h => (by cases h)⟩
theorem SetOK.lastEnds {o : List Sp} {y : Sp} {b : Int} (h : SetOK o o.length) (hy : o[o.length - 1]? = some y) (hb : y.1 + y.2 < b) : ∀ x ∈ o, x.1 + x.2 < b := by
  intro x hx
  obtain ⟨j, hj⟩ := List.mem_iff_getElem?.1 hx
  have hjl := lt_of_get hj
  by_cases e : j = o.length - 1
  · subst e; rw [hj] at hy; cases hy; exact hb
  · have h1 := h.lt (o.length - 1) j x y (by omega) (by omega) hj hy
    have h2 := h.may (by omega : o.length - 1 < o.length) hy
    unfold mayS at h2
    omega
theorem JoI.push (h : JoI l i o) (hsort : ∀ (i j : Nat) (x y : Sp), i < j → l[i]? = some x → l[j]? = some y → ¬ y.1 < x.1) (hm : ∀ x ∈ l, mayS x) (hs : l[i]? = some s) (hend : ∀ y, o[o.length - 1]? = some y → y.1 + y.2 < s.1) : JoI l (i + 1) (o ++ [s]) := by
  refine ⟨lt_of_get hs, by have := h.len; simp; omega, h.set.snoc ?_ (hm s (List.mem_of_getElem? hs)), fun t => ?_, fun x hx j y hj hy => ?_⟩
  · intro x hx
    have hl : 0 < o.length := List.length_pos_of_mem hx
    obtain ⟨z, hz⟩ := get_lt (l := o) (k := o.length - 1) (by omega)
    exact h.set.lastEnds hz (hend z hz) x hx
  · rw [inS_append, h.mem t, inS_one, inTo_succ hs]
  · rcases List.mem_append.1 hx with hx | hx
    · exact h.lo x hx j y (by omega) hy
    · simp at hx
      subst hx
      have := hsort i j x y (by omega) hs hy
      omega
theorem JoI.merge (h : JoI l i o) (hsort : ∀ (i j : Nat) (x y : Sp), i < j → l[i]? = some x → l[j]? = some y → ¬ y.1 < x.1) (hm : ∀ x ∈ l, mayS x) (hs : l[i]? = some s) (hy : o[o.length - 1]? = some y) (hend : s.1 ≤ y.1 + y.2) : JoI l (i + 1) (o.set (o.length - 1) (y.1, max (y.1 + y.2) (s.1 + s.2) - y.1)) := by
  have hl := lt_of_get hy
  obtain ⟨o', z, rfl⟩ := snoc_of o (by omega)
  have e1 : (o' ++ [z]).length - 1 = o'.length := by simp
  rw [e1] at hy ⊢
  simp at hy
  subst hy
  have e2 : (o' ++ [z]).set o'.length (z.1, max (z.1 + z.2) (s.1 + s.2) - z.1) = o' ++ [(z.1, max (z.1 + z.2) (s.1 + s.2) - z.1)] := by simp
  rw [e2]
  have hsm := hm s (List.mem_of_getElem? hs)
  have hzm := h.set.may (k := o'.length) (by simp) (x := z) (by simp)
  have hzs := h.lo z (by simp) i s (Nat.le_refl _) hs
  have hset : SetOK o' o'.length := by
    intro k x hk hx
    obtain ⟨h1, h2⟩ := h.set k x (by simp; omega) (by rw [List.getElem?_append_left hk]; exact hx)
    exact ⟨h1, fun y h0 hy => h2 y h0 (by rw [List.getElem?_append_left (by omega)]; exact hy)⟩
  refine ⟨lt_of_get hs, ?_, hset.snoc ?_ ?_, fun t => ?_, fun x hx j y hj hy => ?_⟩
  · have := h.len
    simp at this ⊢
    omega
  · intro x hx
    obtain ⟨j, hj⟩ := List.mem_iff_getElem?.1 hx
    have hjl := lt_of_get hj
    exact h.set.lt o'.length j x z hjl (by simp) (by rw [List.getElem?_append_left hjl]; exact hj) (by simp)
  · unfold mayS at *
    dsimp only
    omega
  · rw [inTo_succ hs, ← h.mem t, inS_append, inS_append, inS_one, inS_one]
    dsimp only
    unfold mayS at *
    constructor
    · rintro (h1 | h1)
      · exact .inl (.inl h1)
      · by_cases q : t < z.1 + z.2
        · exact .inl (.inr (by omega))
        · exact .inr (by omega)
    · rintro ((h1 | h1) | h1)
      · exact .inl h1
      · exact .inr (by omega)
      · exact .inr (by omega)
  · rcases List.mem_append.1 hx with hx | hx
    · exact h.lo x (by simp [hx]) j y (by omega) hy
    · simp at hx
      subst hx
      exact h.lo z (by simp) j y (by omega) hy
end Go.Lx

/- Package span's walks, part d: joining. -/
namespace Go.Lx
open Go.Proofs
set_option linter.unusedVariables false
set_option linter.unusedSimpArgs false
set_option maxRecDepth 20000

end Go.Lx
