/- Plain laws for the statements on maps: what was put last is found; moves there and back; put again. -/
import Derived.Test.YtnljlpmeeeajmaaQe
namespace Go.Lx
set_option linter.unusedVariables false
set_option linter.unusedSimpArgs false

theorem IsFind.congr {σ τ : Sig} {s : Sp} {I : List Ext} (h : IsFind σ s I) (k : ∀ t, s.1 ≤ t → t < s.1 + s.2 → σ t = τ t) : IsFind τ s I := ⟨h.rise, h.nf, fun t p => by
  rw [h.at_]
  constructor
  · rintro ⟨h1, h2, h3⟩; rw [← k t h2 h3]; exact ⟨h1, h2, h3⟩
  · rintro ⟨h1, h2, h3⟩; rw [k t h2 h3]; exact ⟨h1, h2, h3⟩⟩
theorem find_cut (σ : Sig) (s : Sp) : IsFind (cutE σ s) s [] := ⟨trivial, trivial, fun t p => by
  simp only [atE_nil, false_iff]
  rintro ⟨h1, h2, h3⟩
  unfold cutE at h1
  rw [if_pos ⟨h2, h3⟩] at h1
  cases h1⟩
theorem find_put (σ : Sig) {x : Ext} (hx : mayE x) : IsFind (updE σ x) (x.a, x.n) [x] := ⟨⟨Int.le_refl _, hx.inE, trivial⟩, trivial, fun t p => by
  rw [atE_one]
  unfold updE
  dsimp only
  constructor
  · rintro ⟨h1, h2, rfl⟩
    exact ⟨by rw [if_pos ⟨h1, h2⟩], h1, h2⟩
  · rintro ⟨h1, h2, h3⟩
    rw [if_pos ⟨h2, h3⟩] at h1
    cases h1
    exact ⟨h2, h3, rfl⟩⟩
theorem upd_off {σ : Sig} {x : Ext} {i : Int} (h : ¬ (x.a ≤ i ∧ i < x.a + x.n)) : ∀ t, i ≤ t → t < i + 1 → σ t = updE σ x t := fun t h1 h2 => by
  obtain rfl : t = i := by omega
  unfold updE
  rw [if_neg h]
theorem cut_off {σ : Sig} {s : Sp} {i : Int} (h : ¬ (s.1 ≤ i ∧ i < s.1 + s.2)) : ∀ t, i ≤ t → t < i + 1 → σ t = cutE σ s t := fun t h1 h2 => by
  obtain rfl : t = i := by omega
  unfold cutE
  rw [if_neg h]

/-! ### there and back -/
def noQ (σ : Sig) (q : Int) : Prop := ∀ t s, σ t = some s → s.1 ≠ q
theorem IsMap.noQ {l : List Ext} {σ : Sig} {q : Int} (h : IsMap l σ) (hq : ∀ y ∈ l, y.q ≠ q) : noQ σ q := fun t s hs => by
  obtain ⟨y, hy, _, _, rfl⟩ := (h.at_ t s).2 hs
  exact hq y hy
theorem mov_back {σ : Sig} {x : Ext} {q p : Int} (h : noQ σ q) : movS (movS σ x q p) ⟨x.a, x.n, q, p⟩ x.q x.p = σ := by
  funext t
  unfold movS
  dsimp only
  by_cases hc : x.a ≤ t ∧ t < x.a + x.n ∧ σ t = some (x.q, x.p + (t - x.a))
  · rw [if_pos hc, if_pos ⟨hc.1, hc.2.1, rfl⟩, hc.2.2]
  · rw [if_neg hc, if_neg]
    rintro ⟨h1, h2, h3⟩
    exact h t _ h3 rfl
theorem mov_same {σ : Sig} {x : Ext} {q p : Int} (h : noQ σ q) : ∀ t, x.a ≤ t → t < x.a + x.n → isMov (movS σ x q p) ⟨x.a, x.n, q, p⟩ t = isMov σ x t := fun t h1 h2 => by
  unfold isMov movS
  dsimp only
  by_cases hc : σ t = some (x.q, x.p + (t - x.a))
  · rw [if_pos ⟨h1, h2, hc⟩, decide_eq_true rfl, decide_eq_true hc]
  · rw [if_neg (fun h => hc h.2.2), decide_eq_false hc, decide_eq_false]
    intro h3
    exact h t _ h3 rfl
theorem sumC_le (c : Ext → Bool) : ∀ {l : List Ext} {lo : Int}, Rise lo l → 0 ≤ sumC c l ∧ sumC c l ≤ sumE l
  | [], lo, _ => ⟨Int.le_refl _, Int.le_refl _⟩
  | y :: l, lo, ⟨h1, h2, h3⟩ => by
    have ih := sumC_le c h3
    unfold inE at h2
    simp only [sumE, sumC]
    split <;> omega
theorem sumC_take (c : Ext → Bool) : ∀ (l : List Ext) (i : Nat) (y : Ext), l[i]? = some y → sumC c (l.take (i + 1)) = sumC c (l.take i) + (if c y then y.n else 0)
  | z :: l, 0, y, h => by
    simp at h
    subst h
    simp [sumC]
  | z :: l, i + 1, y, h => by
    have := sumC_take c l i y (by simpa using h)
    simp only [List.take_succ_cons, sumC]
    omega
theorem mov_there {σ : Sig} {x : Ext} {q p : Int} {l : List Ext} {n : Nat} (h : noQ σ q) (hM : IsMap l (movS σ x q p)) (hx : mayE x) (hn : x.n = n) : sumC (fun y => decide (y.q = q)) l = cntI (isMov σ x) x.a n := by
  have hx' := hx
  unfold mayE mayS at hx'
  dsimp only at hx'
  obtain ⟨f, hf⟩ : ∃ f : Int → Bool, f = fun t => (movS σ x q p t).any fun s => decide (s.1 = q) := ⟨_, rfl⟩
  have hf1 : ∀ t, f t = true ↔ x.a ≤ t ∧ t < x.a + x.n ∧ σ t = some (x.q, x.p + (t - x.a)) := fun t => by
    rw [hf]
    dsimp only
    unfold movS
    by_cases hc : x.a ≤ t ∧ t < x.a + x.n ∧ σ t = some (x.q, x.p + (t - x.a))
    · rw [if_pos hc]; simp [hc]
    · rw [if_neg hc]
      simp only [hc, iff_false]
      cases hσ : σ t with
      | none => simp
      | some s => simp [h t s hσ]
  have e1 : sumC (fun y => decide (y.q = q)) l = cntI f 0 65536 := by
    refine sumC_cnt _ _ l 0 65536 hM.rise (by have := hM.rise.endTop (by omega); omega) (fun t _ _ => ?_)
    rw [hf]
    dsimp only
    constructor
    · intro h1
      cases hσ : movS σ x q p t with
      | none => rw [hσ] at h1; cases h1
      | some s =>
        rw [hσ] at h1
        obtain ⟨y, hy, h3, h4, rfl⟩ := (hM.at_ t s).2 hσ
        exact ⟨y, hy, h3, h4, by simpa using h1⟩
    · rintro ⟨y, hy, h3, h4, h5⟩
      rw [(hM.at_ t _).1 ⟨y, hy, h3, h4, rfl⟩]
      simpa using h5
  obtain ⟨m1, hm1⟩ : ∃ m : Nat, x.a = m := ⟨x.a.toNat, by omega⟩
  obtain ⟨m2, hm2⟩ : ∃ m : Nat, 65536 = m1 + (n + m) := ⟨65536 - m1 - n, by omega⟩
  rw [e1, hm2, cntI_add, cntI_add, cntI_none (a := 0) (n := m1), cntI_none (n := m2)]
  · rw [Int.zero_add, Int.add_zero, Int.zero_add, ← hm1]
    refine cntI_congr (fun t h1 h2 => ?_)
    have := hf1 t
    unfold isMov
    by_cases hc : σ t = some (x.q, x.p + (t - x.a))
    · rw [decide_eq_true hc]; exact this.2 ⟨h1, by omega, hc⟩
    · rw [decide_eq_false hc]
      cases hft : f t with
      | false => rfl
      | true => exact absurd (this.1 hft).2.2 hc
  · intro t h1 h2
    cases hft : f t with
    | false => rfl
    | true => have := (hf1 t).1 hft; omega
  · intro t h1 h2
    cases hft : f t with
    | false => rfl
    | true => have := (hf1 t).1 hft; omega

/-! ### again, and in two parts -/
theorem upd_twice (σ : Sig) (x : Ext) : updE (updE σ x) x = updE σ x := by
  funext t
  unfold updE
  split
  · rfl
  · rfl
theorem upd_parts (σ : Sig) (x : Ext) {k : Int} (h1 : 1 ≤ k) (h2 : k < x.n) : updE (updE σ ⟨x.a + k, x.n - k, x.q, x.p + k⟩) ⟨x.a, k, x.q, x.p⟩ = updE σ x := by
  funext t
  unfold updE
  dsimp only
  by_cases c1 : x.a ≤ t ∧ t < x.a + k
  · rw [if_pos c1, if_pos (by omega)]
  · rw [if_neg c1]
    by_cases c2 : x.a + k ≤ t ∧ t < x.a + k + (x.n - k)
    · rw [if_pos c2, if_pos (by omega)]
      congr 2
      omega
    · rw [if_neg c2, if_neg (by omega)]
theorem may_parts {x : Ext} {k : Int} (hx : mayE x) (h1 : 1 ≤ k) (h2 : k < x.n) (h3 : x.p + x.n < 1099511627776) : mayE ⟨x.a + k, x.n - k, x.q, x.p + k⟩ ∧ mayE ⟨x.a, k, x.q, x.p⟩ := by
  unfold mayE mayS plS at hx ⊢
  dsimp only at hx ⊢
  omega
end Go.Lx
