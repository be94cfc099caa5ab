/- Texts Pc Sf Df, merged: a claim has at most 60 files. -/
import Derived.Test.YtgmfmcammaighaaGreatM12
import Derived.Test.YtgmfmcammaighaaGreatM3
import Derived.Test.YtgmfmcammaighaaGreatM4
import Derived.Test.YtgmfmcammaighaaGreatM13
import Derived.Test.YtgmfmcammaighaaGreatM18
import Derived.Test.YtgmfmcammaighaaGreatM5
/- Plain laws on lists of spans, part c: sets out of sectors; a set is told by its sectors. -/
namespace Go.Lx
set_option linter.unusedVariables false
set_option linter.unusedSimpArgs false

/-- A set out of sectors, so far. -/
structure StI (bs : List Bool) (i : Nat) (o : List Sp) : Prop where
  hi : i ≤ bs.length
  len : o.length ≤ i
  set : SetOK o o.length
  mem : ∀ t, inS o t ↔ ∃ k : Nat, k < i ∧ t = k ∧ bs[k]? = some true
  le : ∀ y ∈ o, y.1 + y.2 ≤ i
  last : 0 < i → bs[i - 1]? = some true → ∃ y, o[o.length - 1]? = some y ∧ y.1 + y.2 = i
  ends : (0 < i → bs[i - 1]? ≠ some true) → ∀ y ∈ o, y.1 + y.2 < i

variable {bs : List Bool} {o : List Sp} {i : Nat}
theorem StI.start : StI bs 0 [] := ⟨Nat.zero_le _, Nat.le_refl _, SetOK.nil _, fun t => ⟨fun h => absurd h (inS_nil t), fun ⟨k, hk, _⟩ => absurd hk (Nat.not_lt_zero k)⟩, fun _ h => (by cases h), fun h => absurd h (Nat.lt_irrefl 0), fun _ _ h => (by cases h)⟩
theorem StI.skip (h : StI bs i o) (hb : bs[i]? = some false) : StI bs (i + 1) o := by
  refine ⟨lt_of_get hb, by have := h.len; omega, h.set, fun t => ?_, fun y hy => by have := h.le y hy; omega, fun _ h1 => ?_, fun _ y hy => by have := h.le y hy; omega⟩
  · rw [h.mem t]
    constructor
    · rintro ⟨k, hk, h1, h2⟩; exact ⟨k, by omega, h1, h2⟩
    · rintro ⟨k, hk, h1, h2⟩
      by_cases e : k = i
      · subst e; rw [hb] at h2; cases h2
      · exact ⟨k, by omega, h1, h2⟩
  · rw [Nat.add_sub_cancel, hb] at h1; cases h1
theorem StI.push (h : StI bs i o) (hb : bs[i]? = some true) (hp : 0 < i → bs[i - 1]? ≠ some true) (hbd : bs.length ≤ 60000) : StI bs (i + 1) (o ++ [((i : Int), 1)]) := by
  have hil := lt_of_get hb
  refine ⟨hil, by have := h.len; simp; omega, h.set.snoc (h.ends hp) (by unfold mayS; dsimp only; omega), fun t => ?_, fun y hy => ?_, fun _ _ => ⟨((i : Int), 1), by simp, by dsimp only; omega⟩, fun h1 => absurd (by rw [Nat.add_sub_cancel]; exact hb) (h1 (by omega))⟩
  · rw [inS_append, h.mem t, inS_one]
    dsimp only
    constructor
    · rintro (⟨k, hk, h1, h2⟩ | h1)
      · exact ⟨k, by omega, h1, h2⟩
      · exact ⟨i, by omega, by omega, hb⟩
    · rintro ⟨k, hk, h1, h2⟩
      by_cases e : k = i
      · right; omega
      · exact .inl ⟨k, by omega, h1, h2⟩
  · rcases List.mem_append.1 hy with hy | hy
    · have := h.le y hy; omega
    · simp at hy; subst hy; dsimp only; omega
theorem StI.grow {y : Sp} (h : StI bs i o) (hb : bs[i]? = some true) (hi0 : 0 < i) (hp : bs[i - 1]? = some true) (hy : o[o.length - 1]? = some y) (hbd : bs.length ≤ 60000) : StI bs (i + 1) (o.set (o.length - 1) (y.1, y.2 + 1)) ∧ y.1 + y.2 = i := by
  have hil := lt_of_get hb
  have hl := lt_of_get hy
  obtain ⟨o', z, rfl⟩ := snoc_of o (by omega)
  have e1 : (o' ++ [z]).length - 1 = o'.length := by simp
  rw [e1] at hy ⊢
  simp at hy
  subst hy
  obtain ⟨y', hy', hye⟩ := h.last hi0 hp
  rw [e1] at hy'
  simp at hy'
  subst hy'
  have e2 : (o' ++ [z]).set o'.length (z.1, z.2 + 1) = o' ++ [(z.1, z.2 + 1)] := by simp
  rw [e2]
  have hzm := h.set.may (k := o'.length) (by simp) (x := z) (by simp)
  have hset : SetOK o' o'.length := by
    intro k x hk hx
    obtain ⟨h1, h2⟩ := h.set k x (by simp; omega) (by rw [List.getElem?_append_left hk]; exact hx)
    exact ⟨h1, fun y h0 hy => h2 y h0 (by rw [List.getElem?_append_left (by omega)]; exact hy)⟩
  unfold mayS at hzm
  refine ⟨⟨hil, ?_, hset.snoc ?_ ?_, fun t => ?_, fun y hy => ?_, fun _ _ => ⟨(z.1, z.2 + 1), by simp, by dsimp only; omega⟩, fun h1 => absurd (by rw [Nat.add_sub_cancel]; exact hb) (h1 (by omega))⟩, hye⟩
  · have := h.len
    simp at this ⊢
    omega
  · intro x hx
    obtain ⟨j, hj⟩ := List.mem_iff_getElem?.1 hx
    have hjl := lt_of_get hj
    exact h.set.lt o'.length j x z hjl (by simp) (by rw [List.getElem?_append_left hjl]; exact hj) (by simp)
  · unfold mayS
    dsimp only
    omega
  · have hm := h.mem t
    rw [inS_append, inS_one] at hm
    rw [inS_append, inS_one]
    dsimp only
    constructor
    · intro h1
      by_cases q : t = i
      · exact ⟨i, by omega, q, hb⟩
      · obtain ⟨k, hk, h2, h3⟩ := hm.1 (h1.imp id (fun h => by omega))
        exact ⟨k, by omega, h2, h3⟩
    · rintro ⟨k, hk, h1, h2⟩
      by_cases e : k = i
      · right; omega
      · exact (hm.2 ⟨k, by omega, h1, h2⟩).imp id (fun h => by omega)
  · rcases List.mem_append.1 hy with hy | hy
    · have := h.le y (by simp [hy]); omega
    · simp at hy; subst hy; dsimp only; omega

/-! ### a set is told by its sectors -/
theorem SetOK.tail {x : Sp} {l : List Sp} (h : SetOK (x :: l) (x :: l).length) : SetOK l l.length ∧ ∀ y ∈ l, x.1 + x.2 < y.1 := by
  refine ⟨fun k y hk hy => ?_, fun y hy => ?_⟩
  · obtain ⟨h1, h2⟩ := h (k + 1) y (by simp; omega) (by simpa using hy)
    refine ⟨h1, fun z h0 hz => h2 z (by omega) ?_⟩
    have : k + 1 - 1 = (k - 1) + 1 := by omega
    rw [this]
    simpa using hz
  · obtain ⟨j, hj⟩ := List.mem_iff_getElem?.1 hy
    have hjl := lt_of_get hj
    exact h.lt (j + 1) 0 x y (by omega) (by simp; omega) (by simp) (by simpa using hj)
theorem inS_ge {x : Sp} {l : List Sp} {t : Int} (h : SetOK (x :: l) (x :: l).length) (ht : inS l t) : x.1 + x.2 < t := by
  obtain ⟨y, hy, h1, h2⟩ := ht
  have := h.tail.2 y hy
  omega
theorem set_unique : ∀ (a b : List Sp), SetOK a a.length → SetOK b b.length → (∀ t, inS a t ↔ inS b t) → a = b
  | [], [], _, _, _ => rfl
  | [], y :: b, _, hb, h => by
    have hm := hb.may (k := 0) (by simp) (x := y) (by simp)
    unfold mayS at hm
    exact absurd ((h y.1).2 ⟨y, by simp, by omega, by omega⟩) (inS_nil _)
  | x :: a, [], ha, _, h => by
    have hm := ha.may (k := 0) (by simp) (x := x) (by simp)
    unfold mayS at hm
    exact absurd ((h x.1).1 ⟨x, by simp, by omega, by omega⟩) (inS_nil _)
  | x :: a, y :: b, ha, hb, h => by
    have hx := ha.may (k := 0) (by simp) (x := x) (by simp)
    have hy := hb.may (k := 0) (by simp) (x := y) (by simp)
    unfold mayS at hx hy
    have e1 : x.1 = y.1 := by
      have h1 := (h x.1).1 (inS_cons.2 (.inl (by omega)))
      have h2 := (h y.1).2 (inS_cons.2 (.inl (by omega)))
      rcases inS_cons.1 h1 with h1 | h1 <;> rcases inS_cons.1 h2 with h2 | h2
      · omega
      · have := inS_ge ha h2; omega
      · have := inS_ge hb h1; omega
      · have := inS_ge ha h2; have := inS_ge hb h1; omega
    have e2 : x.2 = y.2 := by
      rcases Int.lt_trichotomy x.2 y.2 with q | q | q
      · have h1 := (h (x.1 + x.2)).2 (inS_cons.2 (.inl (by omega)))
        rcases inS_cons.1 h1 with h1 | h1
        · omega
        · have := inS_ge ha h1; omega
      · exact q
      · have h1 := (h (y.1 + y.2)).1 (inS_cons.2 (.inl (by omega)))
        rcases inS_cons.1 h1 with h1 | h1
        · omega
        · have := inS_ge hb h1; omega
    have exy : x = y := Prod.ext e1 e2
    subst exy
    rw [set_unique a b ha.tail.1 hb.tail.1 fun t => ?_]
    constructor
    · intro ht
      have h1 := (h t).1 (inS_cons.2 (.inr ht))
      rcases inS_cons.1 h1 with h1 | h1
      · have := inS_ge ha ht; omega
      · exact h1
    · intro ht
      have h1 := (h t).2 (inS_cons.2 (.inr ht))
      rcases inS_cons.1 h1 with h1 | h1
      · have := inS_ge hb ht; omega
      · exact h1
end Go.Lx

/- Package lighterref01's walks, and the statements' helpers. -/
namespace Go.Lx
open Go.Proofs
set_option linter.unusedVariables false
set_option linter.unusedSimpArgs false
set_option maxRecDepth 20000

end Go.Lx

/- The document's answer for objects: walks. -/
namespace Go.Lx
open Go.Proofs
set_option linter.unusedVariables false
set_option linter.unusedSimpArgs false
set_option maxRecDepth 20000
set_option maxHeartbeats 4000000
theorem Rd.dA {w : World} {a : Option Addr} {n c m : Nat} {xs : List Ext} {x : Ext} (h : Rd w 4 a n c (encE xs)) (hx : xs[m]? = some x) : w.cell? (el a (m * 4)) = some (.int .i64 x.a) ∧ w.cell? (el a (m * 4 + 1)) = some (.int .i64 x.n) ∧ w.cell? (el a (m * 4 + 2)) = some (.int .i64 x.q) ∧ w.cell? (el a (m * 4 + 3)) = some (.int .i64 x.p) := by
  have h0 := Rd.ext h hx 0 _ rfl
  have h1 := Rd.ext h hx 1 _ rfl
  have h2 := Rd.ext h hx 2 _ rfl
  have h3 := Rd.ext h hx 3 _ rfl
  rw [el_add] at h0 h1 h2 h3
  exact ⟨h0, h1, h2, h3⟩
theorem Rd.dS {w : World} {a : Option Addr} {n c m : Nat} {xs : List Sp} {x : Sp} (h : Rd w 2 a n c (encS xs)) (hx : xs[m]? = some x) : w.cell? (el a (m * 2)) = some (.int .i64 x.1) ∧ w.cell? (el a (m * 2 + 1)) = some (.int .i64 x.2) := by
  have h0 := Rd.sp h hx 0 _ rfl
  have h1 := Rd.sp h hx 1 _ rfl
  rw [el_add] at h0 h1
  exact ⟨h0, h1⟩
end Go.Lx
