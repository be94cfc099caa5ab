/- Plain laws for the statements on maps: extents that rise and may be; the chapter's example. -/
import Derived.Test.YtnljlpmeeeajmaaQd
namespace Go.Lx
set_option linter.unusedVariables false
set_option linter.unusedSimpArgs false

def ExtOK (l : List Ext) (n : Nat) : Prop := ∀ k x, k < n → l[k]? = some x → mayE x ∧ ∀ y, 0 < k → l[k - 1]? = some y → y.a + y.n ≤ x.a
theorem ExtOK.step {l : List Ext} {k : Nat} {x : Ext} (h : ExtOK l k) (hx : l[k]? = some x) (hm : mayE x) (hy : ∀ y, 0 < k → l[k - 1]? = some y → y.a + y.n ≤ x.a) : ExtOK l (k + 1) := by
  intro j z hj hz
  rcases Nat.lt_or_ge j k with h1 | h1
  · exact h j z h1 hz
  · obtain rfl : j = k := by omega
    rw [hx] at hz; cases hz
    exact ⟨hm, hy⟩
theorem ExtOK.le {l : List Ext} {n m : Nat} (h : ExtOK l n) (hm : m ≤ n) : ExtOK l m := fun k x hk => h k x (by omega)
theorem ExtOK.tail {x : Ext} {l : List Ext} (h : ExtOK (x :: l) (l.length + 1)) : ExtOK l l.length := fun k y hk hy => by
  have h1 := h (k + 1) y (by omega) (by simpa using hy)
  refine ⟨h1.1, fun z hz0 hz => h1.2 z (by omega) ?_⟩
  rw [show k + 1 - 1 = (k - 1) + 1 by omega]
  simpa using hz
theorem ExtOK.rise : ∀ {l : List Ext} {lo : Int}, ExtOK l l.length → (∀ x, l[0]? = some x → lo ≤ x.a) → Rise lo l
  | [], _, _, _ => trivial
  | x :: l, lo, h, h0 => by
    have hx := h 0 x (by simp) rfl
    refine ⟨h0 x rfl, hx.1.inE, ExtOK.rise (ExtOK.tail h) (fun y hy => ?_)⟩
    exact (h 1 y (by have := lt_of_get hy; simp; omega) (by simpa using hy)).2 x (by omega) rfl
theorem ExtOK.rise0 {l : List Ext} (h : ExtOK l l.length) : Rise 0 l := h.rise (fun x hx => by
  have := (h 0 x (lt_of_get hx) hx).1
  unfold mayE mayS at this
  exact this.1.1)
theorem ExtOK.may {l : List Ext} (h : ExtOK l l.length) : ∀ x ∈ l, mayE x := fun x hx => by
  obtain ⟨k, hk⟩ := List.mem_iff_getElem?.1 hx
  exact (h k x (lt_of_get hk) hk).1
theorem fold_upd : ∀ (l : List Ext) (lo : Int) (σ : Sig) (t : Int) (p : Int × Int), Rise lo l → ((l.foldl updE σ) t = some p ↔ atE l t p ∨ (σ t = some p ∧ ∀ q, ¬ atE l t q))
  | [], _, σ, t, p, _ => by simp [atE_nil]
  | x :: l, lo, σ, t, p, ⟨h1, h2, h3⟩ => by
    rw [List.foldl_cons, fold_upd l _ _ t p h3, atE_cons]
    unfold updE
    by_cases ht : x.a ≤ t ∧ t < x.a + x.n
    · have hn : ∀ q, ¬ atE l t q := fun q hq => by have := h3.at_ge hq; omega
      rw [if_pos ht]
      constructor
      · rintro (h | ⟨h, _⟩)
        · exact absurd h (hn p)
        · cases h; exact .inl (.inl ⟨ht.1, ht.2, rfl⟩)
      · rintro ((⟨_, _, h⟩ | h) | ⟨_, h⟩)
        · exact .inr ⟨by rw [h], hn⟩
        · exact absurd h (hn p)
        · exact absurd (atE_cons.2 (.inl ⟨ht.1, ht.2, rfl⟩)) (h _)
    · rw [if_neg ht]
      constructor
      · rintro (h | ⟨h, hn⟩)
        · exact .inl (.inr h)
        · exact .inr ⟨h, fun q hq => by rcases atE_cons.1 hq with ⟨a, b, _⟩ | hq; exact ht ⟨a, b⟩; exact hn q hq⟩
      · rintro ((⟨a, b, _⟩ | h) | ⟨h, hn⟩)
        · exact absurd ⟨a, b⟩ ht
        · exact .inl h
        · exact .inr ⟨h, fun q hq => hn q (atE_cons.2 (.inr hq))⟩
theorem few_find {l o : List Ext} (h : ExtOK l l.length) (hJ : JnI 0 l l.length o) (hf : ∀ x ∈ l, x.a + x.n ≤ 300) : IsFind (l.foldl updE noneS) (0, 300) o := by
  refine ⟨hJ.rise, hJ.nf, fun t p => ?_⟩
  rw [hJ.at_, List.take_length, fold_upd l 0 noneS t p h.rise0]
  constructor
  · intro ha
    refine ⟨.inl ha, h.rise0.at_ge ha, ?_⟩
    obtain ⟨x, hx, h1, h2, _⟩ := ha
    have := hf x hx
    dsimp only
    omega
  · rintro ⟨ha | ⟨ha, _⟩, _⟩
    · exact ha
    · cases ha
theorem fold_oks : ∀ (l : List Ext) (σ : Sig), OkS σ → (∀ x ∈ l, mayE x) → OkS (l.foldl updE σ)
  | [], _, h, _ => h
  | x :: l, σ, h, hm => fold_oks l _ (fun t s hs => by
    have hx := hm x (List.mem_cons_self ..)
    unfold mayE mayS plS at hx
    unfold updE at hs
    split at hs
    · cases hs; dsimp only at hx ⊢; omega
    · exact h t s hs) (fun y hy => hm y (List.mem_cons_of_mem _ hy))
theorem noneS_ok : OkS noneS := fun t s h => by cases h

/-! ### the chapter's example -/
def eA : Ext := ⟨0, 4, 5, 0⟩
def eB : Ext := ⟨1, 2, 7, 9⟩
theorem ex_map1 : IsFind (updE noneS eA) (1, 2) [⟨1, 2, 5, 1⟩] := by
  refine ⟨⟨Int.le_refl _, by unfold inE; dsimp only; omega, trivial⟩, trivial, fun t p => ?_⟩
  rw [atE_one]
  unfold updE noneS eA
  dsimp only
  constructor
  · rintro ⟨h1, h2, rfl⟩
    refine ⟨?_, by omega, by omega⟩
    rw [if_pos (by omega)]
    congr 2
    omega
  · rintro ⟨h1, h2, h3⟩
    rw [if_pos (by omega)] at h1
    cases h1
    exact ⟨by omega, by omega, Prod.ext rfl (by dsimp only; omega)⟩
theorem ex_map2 : IsMap [⟨0, 1, 5, 0⟩, ⟨1, 2, 7, 9⟩, ⟨3, 1, 5, 3⟩] (updE (updE noneS eA) eB) := by
  refine ⟨⟨Int.le_refl _, by unfold inE; dsimp only; omega, by dsimp only; omega, by unfold inE; dsimp only; omega, by dsimp only; omega, by unfold inE; dsimp only; omega, trivial⟩, ⟨by unfold Fol; dsimp only; omega, by unfold Fol; dsimp only; omega, trivial⟩, fun t p => ?_⟩
  rw [atE_cons, atE_cons, atE_one]
  unfold updE noneS eA eB
  dsimp only
  by_cases h1 : 1 ≤ t ∧ t < 3
  · rw [if_pos (by omega)]
    constructor
    · rintro (⟨a, b, rfl⟩ | ⟨a, b, rfl⟩ | ⟨a, b, rfl⟩)
      · omega
      · rfl
      · omega
    · intro h; cases h; exact .inr (.inl ⟨by omega, by omega, rfl⟩)
  · rw [if_neg (by omega)]
    by_cases h2 : 0 ≤ t ∧ t < 4
    · rw [if_pos (by omega)]
      constructor
      · rintro (⟨a, b, rfl⟩ | ⟨a, b, rfl⟩ | ⟨a, b, rfl⟩)
        · rfl
        · omega
        · congr 2; omega
      · intro h
        cases h
        rcases (by omega : t = 0 ∨ t = 3) with rfl | rfl
        · exact .inl ⟨by omega, by omega, rfl⟩
        · exact .inr (.inr ⟨by omega, by omega, rfl⟩)
    · rw [if_neg (by omega)]
      constructor
      · rintro (⟨a, b, rfl⟩ | ⟨a, b, rfl⟩ | ⟨a, b, rfl⟩) <;> omega
      · intro h; cases h
theorem ex_may : mayE eA ∧ mayE eB := by unfold mayE mayS plS eA eB; dsimp only; omega
end Go.Lx
