/- Plain laws on the document's map of sectors: puts, cuts, moves, what is found; how many. -/
import Derived.Test.YtnljlpmeeeajmaaQc
namespace Go.Lx
set_option linter.unusedVariables false
set_option linter.unusedSimpArgs false

/-- What the document's map tells. -/
structure IsRef (is : List Bool) (sp : List Sp) (σ : Sig) : Prop where
  l1 : is.length = 300
  l2 : sp.length = 300
  at_ : ∀ k : Nat, k < 300 → σ k = if is[k]? = some true then sp[k]? else none
  out : ∀ t : Int, t < 0 ∨ 300 ≤ t → σ t = none

theorem IsRef.empty : IsRef (List.replicate 300 false) (List.replicate 300 (0, 0)) noneS := by
  refine ⟨List.length_replicate, List.length_replicate, fun k hk => ?_, fun _ _ => rfl⟩
  rw [if_neg]
  · rfl
  · rw [List.getElem?_replicate, if_pos hk]; simp

theorem updE_zero (σ : Sig) (x : Ext) : updE σ ⟨x.a, 0, x.q, x.p⟩ = σ := by
  funext t
  unfold updE
  rw [if_neg (by dsimp only; omega)]
theorem cutE_zero (σ : Sig) (a : Int) : cutE σ (a, 0) = σ := by
  funext t
  unfold cutE
  rw [if_neg (by dsimp only; omega)]
theorem movS_zero (σ : Sig) (x : Ext) (q p : Int) : movS σ ⟨x.a, 0, x.q, x.p⟩ q p = σ := by
  funext t
  unfold movS
  rw [if_neg (by dsimp only; omega)]
theorem IsRef.put {is : List Bool} {sp : List Sp} {σ : Sig} {x : Ext} {i k : Nat} (h : IsRef is sp (updE σ ⟨x.a, i, x.q, x.p⟩)) (hk : x.a + i = k) (h3 : k < 300) : IsRef (is.set k true) (sp.set k (x.q, x.p + i)) (updE σ ⟨x.a, (i : Int) + 1, x.q, x.p⟩) := by
  have l1 := h.l1
  have l2 := h.l2
  refine ⟨by simp [l1], by simp [l2], fun j hj => ?_, fun t ht => ?_⟩
  · by_cases e : j = k
    · subst e
      rw [List.getElem?_set_self (by omega), List.getElem?_set_self (by omega), if_pos rfl]
      unfold updE
      rw [if_pos (by dsimp only; omega)]
      dsimp only
      congr 2
      omega
    · rw [List.getElem?_set_ne (Ne.symm e), List.getElem?_set_ne (Ne.symm e), ← h.at_ j hj]
      unfold updE
      have : (x.a ≤ (j : Int) ∧ (j : Int) < x.a + (i + 1)) ↔ (x.a ≤ (j : Int) ∧ (j : Int) < x.a + i) := by omega
      simp only [this]
  · have := h.out t ht
    unfold updE at this ⊢
    dsimp only at this ⊢
    split at this
    · cases this
    · rw [if_neg (by omega), this]
theorem IsRef.cut {is : List Bool} {sp : List Sp} {σ : Sig} {a : Int} {i k : Nat} (h : IsRef is sp (cutE σ (a, i))) (hk : a + i = k) (h3 : k < 300) : IsRef (is.set k false) sp (cutE σ (a, (i : Int) + 1)) := by
  have l1 := h.l1
  refine ⟨by simp [l1], h.l2, fun j hj => ?_, fun t ht => ?_⟩
  · by_cases e : j = k
    · subst e
      rw [List.getElem?_set_self (by omega), if_neg (by simp)]
      unfold cutE
      rw [if_pos (by dsimp only; omega)]
    · rw [List.getElem?_set_ne (Ne.symm e), ← h.at_ j hj]
      unfold cutE
      have : (a ≤ (j : Int) ∧ (j : Int) < a + (i + 1)) ↔ (a ≤ (j : Int) ∧ (j : Int) < a + i) := by omega
      simp only [this]
  · have := h.out t ht
    unfold cutE at this ⊢
    dsimp only at this ⊢
    split
    · rfl
    · split at this
      · omega
      · exact this
theorem IsRef.here {is : List Bool} {sp : List Sp} {σ : Sig} {k : Nat} (h : IsRef is sp σ) (h3 : k < 300) : ∃ (b : Bool) (s : Sp), is[k]? = some b ∧ sp[k]? = some s ∧ σ k = if b then some s else none := by
  have l1 := h.l1
  have l2 := h.l2
  obtain ⟨b, hb⟩ := get_lt (l := is) (k := k) (by omega)
  obtain ⟨s, hs⟩ := get_lt (l := sp) (k := k) (by omega)
  refine ⟨b, s, hb, hs, ?_⟩
  rw [h.at_ k h3, hb, hs]
  cases b <;> rfl
theorem movS_same {σ : Sig} {x : Ext} {q p : Int} {i : Nat} (hn : σ (x.a + i) ≠ some (x.q, x.p + i)) : movS σ ⟨x.a, (i : Int) + 1, x.q, x.p⟩ q p = movS σ ⟨x.a, i, x.q, x.p⟩ q p := by
  funext t
  unfold movS
  by_cases e : t = x.a + i
  · subst e
    rw [if_neg, if_neg]
    · dsimp only; omega
    · rintro ⟨_, _, h⟩
      dsimp only at h
      rw [show x.p + (x.a + (i : Int) - x.a) = x.p + i by omega] at h
      exact hn h
  · have : (x.a ≤ t ∧ t < x.a + ((i : Int) + 1)) ↔ (x.a ≤ t ∧ t < x.a + i) := by omega
    simp only [← and_assoc, this]
theorem movS_at {σ : Sig} {x : Ext} {q p : Int} {i : Nat} : movS σ ⟨x.a, i, x.q, x.p⟩ q p (x.a + i) = σ (x.a + i) := by
  unfold movS
  rw [if_neg (by dsimp only; omega)]
theorem IsRef.mov {is : List Bool} {sp : List Sp} {σ : Sig} {x : Ext} {q p : Int} {i k : Nat} (h : IsRef is sp (movS σ ⟨x.a, i, x.q, x.p⟩ q p)) (hk : x.a + i = k) (h3 : k < 300) (hs : σ k = some (x.q, x.p + i)) : IsRef is (sp.set k (q, p + i)) (movS σ ⟨x.a, (i : Int) + 1, x.q, x.p⟩ q p) := by
  have l1 := h.l1
  have l2 := h.l2
  refine ⟨l1, by simp [l2], fun j hj => ?_, fun t ht => ?_⟩
  · by_cases e : j = k
    · subst e
      have hb : is[j]? = some true := by
        have h1 := h.at_ j h3
        rw [← hk, movS_at, hk, hs] at h1
        split at h1
        · assumption
        · cases h1
      rw [hb, List.getElem?_set_self (by omega), if_pos rfl]
      unfold movS
      rw [if_pos ⟨by dsimp only; omega, by dsimp only; omega, by rw [hs]; dsimp only; congr 2; omega⟩]
      congr 2
      dsimp only
      omega
    · rw [List.getElem?_set_ne (Ne.symm e), ← h.at_ j hj]
      unfold movS
      have : (x.a ≤ (j : Int) ∧ (j : Int) < x.a + (i + 1)) ↔ (x.a ≤ (j : Int) ∧ (j : Int) < x.a + i) := by omega
      simp only [← and_assoc, this]
  · have := h.out t ht
    unfold movS at this ⊢
    dsimp only at this ⊢
    split at this
    · cases this
    · rw [if_neg, this]
      rintro ⟨h1, h2, h4⟩
      rw [this] at h4
      cases h4

/-! ### what is found, sector by sector -/
def OkS (σ : Sig) : Prop := ∀ t s, σ t = some s → 0 ≤ t ∧ t < 65536 ∧ 0 ≤ s.1 ∧ s.1 < 1099511627776 ∧ 0 ≤ s.2 ∧ s.2 < 1099511693312
theorem IsMap.ok {l : List Ext} {σ : Sig} (h : IsMap l σ) : OkS σ := fun t s hs => by
  obtain ⟨x, hx, h1, h2, rfl⟩ := (h.at_ t s).2 hs
  have := (h.rise.mem hx).1
  unfold inE at this
  dsimp only
  omega
theorem IsFind.zero (σ : Sig) (a : Int) : IsFind σ (a, 0) [] := ⟨trivial, trivial, fun t p => by simp only [atE_nil, false_iff]; omega⟩
theorem IsFind.skip {σ : Sig} {a n : Int} {o : List Ext} (h : IsFind σ (a, n) o) (hs : σ (a + n) = none) : IsFind σ (a, n + 1) o := ⟨h.rise, h.nf, fun t p => by
  rw [h.at_]
  dsimp only
  refine and_congr_right (fun h1 => and_congr_right (fun h2 => ?_))
  constructor
  · omega
  · intro h3
    by_cases e : t = a + n
    · subst e; rw [hs] at h1; cases h1
    · omega⟩
theorem IsFind.ends {σ : Sig} {a n : Int} {o : List Ext} (h : IsFind σ (a, n) o) (hn : 0 ≤ n) : endE a o ≤ a + n := by
  refine endE_le o a (by omega) (fun x hx => ?_)
  have h1 := (h.rise.mem hx).1
  unfold inE at h1
  have h2 := ((h.at_ (x.a + x.n - 1) (x.q, x.p + (x.a + x.n - 1 - x.a))).1 ⟨x, hx, by omega, by omega, rfl⟩).2
  dsimp only at h2
  omega
theorem IsFind.push {σ : Sig} {a n : Int} {o : List Ext} {s : Int × Int} (h : IsFind σ (a, n) o) (hn : 0 ≤ n) (ha : 0 ≤ a) (hσ : OkS σ) (hs : σ (a + n) = some s) (hl : ∀ y, o[o.length - 1]? = some y → ¬ Fol y ⟨a + n, 1, s.1, s.2⟩) : IsFind σ (a, n + 1) (o ++ [⟨a + n, 1, s.1, s.2⟩]) := by
  have hb := hσ _ _ hs
  have he := h.ends hn
  refine ⟨rise_append.2 ⟨h.rise, by dsimp only; exact he, by unfold inE; dsimp only; omega, trivial⟩, ?_, fun t p => ?_⟩
  · rcases List.eq_nil_or_concat o with rfl | ⟨o', y, rfl⟩
    · trivial
    · have h2 := h.nf
      rw [List.concat_eq_append] at h2 hl ⊢
      rw [List.append_assoc]
      exact nf_snoc2.2 ⟨h2, hl y (by simp)⟩
  · rw [atE_append, h.at_, atE_one]
    dsimp only
    constructor
    · rintro (⟨h1, h2, h3⟩ | ⟨h1, h2, h3⟩)
      · exact ⟨h1, h2, by omega⟩
      · obtain rfl : t = a + n := by omega
        exact ⟨by rw [hs, h3]; congr 2; simp, by omega, by omega⟩
    · rintro ⟨h1, h2, h3⟩
      by_cases e : t = a + n
      · subst e
        rw [hs] at h1
        cases h1
        exact .inr ⟨by omega, by omega, by simp⟩
      · exact .inl ⟨h1, h2, by omega⟩
theorem IsFind.grow {σ : Sig} {a n : Int} {o : List Ext} {y : Ext} {s : Int × Int} (h : IsFind σ (a, n) o) (hn : 0 ≤ n) (ha : 0 ≤ a) (hσ : OkS σ) (hs : σ (a + n) = some s) (hy : o[o.length - 1]? = some y) (hf : Fol y ⟨a + n, 1, s.1, s.2⟩) : IsFind σ (a, n + 1) (o.set (o.length - 1) ⟨y.a, y.n + 1, y.q, y.p⟩) := by
  have hb := hσ _ _ hs
  have he := h.ends hn
  rcases List.eq_nil_or_concat o with rfl | ⟨o', z, rfl⟩
  · cases hy
  rw [List.concat_eq_append] at *
  have e1 : (o' ++ [z]).length - 1 = o'.length := by simp
  rw [e1] at hy ⊢
  simp at hy
  subst hy
  have e2 : (o' ++ [z]).set o'.length ⟨z.a, z.n + 1, z.q, z.p⟩ = o' ++ [⟨z.a, z.n + 1, z.q, z.p⟩] := by simp
  rw [e2]
  have hr := rise_append.1 h.rise
  have hz := hr.2.2.1
  obtain ⟨f1, f2, f3⟩ := hf
  dsimp only at f1 f2 f3
  have hnew : inE ⟨z.a, z.n + 1, z.q, z.p⟩ := by unfold inE at hz ⊢; dsimp only; omega
  refine ⟨rise_append.2 ⟨hr.1, hr.2.1, hnew, trivial⟩, ?_, fun t p => ?_⟩
  · rcases List.eq_nil_or_concat o' with rfl | ⟨o'', w, rfl⟩
    · trivial
    · have h1 := h.nf
      rw [List.concat_eq_append] at h1 ⊢
      rw [List.append_assoc] at h1 ⊢
      have h2 := nf_snoc2.1 h1
      exact nf_snoc2.2 ⟨h2.1, fun q => h2.2 ⟨q.1, q.2.1, q.2.2⟩⟩
  · have hat := h.at_ t p
    rw [atE_append, atE_one] at hat ⊢
    unfold inE at hz
    dsimp only at hat ⊢
    by_cases e : t = a + n
    · subst e
      constructor
      · rintro (h1 | ⟨h1, h2, h3⟩)
        · have := (hat.1 (.inl h1)).2.2; omega
        · refine ⟨?_, by omega, by omega⟩
          rw [hs, h3]
          congr 1
          refine Prod.ext ?_ ?_ <;> dsimp only <;> omega
      · rintro ⟨h1, _, _⟩
        rw [hs] at h1
        cases h1
        refine .inr ⟨by omega, by omega, ?_⟩
        refine Prod.ext ?_ ?_ <;> dsimp only <;> omega
    · constructor
      · rintro (h1 | ⟨h1, h2, h3⟩)
        · have := hat.1 (.inl h1); exact ⟨this.1, this.2.1, by omega⟩
        · have := hat.1 (.inr ⟨h1, by omega, h3⟩); exact ⟨this.1, this.2.1, by omega⟩
      · rintro ⟨h1, h2, h3⟩
        rcases hat.2 ⟨h1, h2, by omega⟩ with h4 | ⟨h4, h5, h6⟩
        · exact .inl h4
        · exact .inr ⟨h4, by omega, h6⟩

/-! ### how many -/
def cntI (f : Int → Bool) (a : Int) : Nat → Int
  | 0 => 0
  | n + 1 => cntI f a n + if f (a + n) then 1 else 0
theorem cntI_congr {f g : Int → Bool} {a : Int} : ∀ {n : Nat}, (∀ t, a ≤ t → t < a + n → f t = g t) → cntI f a n = cntI g a n
  | 0, _ => rfl
  | n + 1, h => by simp only [cntI]; rw [cntI_congr (fun t h1 h2 => h t h1 (by omega)), h (a + n) (by omega) (by omega)]
theorem cntI_add (f : Int → Bool) (a : Int) (m : Nat) : ∀ n : Nat, cntI f a (m + n) = cntI f a m + cntI f (a + m) n
  | 0 => by simp [cntI]
  | n + 1 => by
    rw [← Nat.add_assoc]
    simp only [cntI, cntI_add f a m n]
    rw [show a + ((m + n : Nat) : Int) = a + m + n by omega]
    omega
theorem cntI_none {f : Int → Bool} {a : Int} : ∀ {n : Nat}, (∀ t, a ≤ t → t < a + n → f t = false) → cntI f a n = 0
  | 0, _ => rfl
  | n + 1, h => by simp only [cntI]; rw [cntI_none (fun t h1 h2 => h t h1 (by omega)), h (a + n) (by omega) (by omega)]; rfl
theorem cntI_all {f : Int → Bool} {a : Int} : ∀ {n : Nat}, (∀ t, a ≤ t → t < a + n → f t = true) → cntI f a n = n
  | 0, _ => rfl
  | n + 1, h => by simp only [cntI]; rw [cntI_all (fun t h1 h2 => h t h1 (by omega)), h (a + n) (by omega) (by omega)]; simp
theorem cntI_bd (f : Int → Bool) (a : Int) : ∀ n : Nat, 0 ≤ cntI f a n ∧ cntI f a n ≤ n
  | 0 => by simp [cntI]
  | n + 1 => by
    have := cntI_bd f a n
    simp only [cntI]
    split <;> omega
/-- Those of some extents that are wanted, by their sectors. -/
def sumC (c : Ext → Bool) : List Ext → Int
  | [] => 0
  | y :: l => (if c y then y.n else 0) + sumC c l
theorem sumC_cnt (c : Ext → Bool) (f : Int → Bool) : ∀ (l : List Ext) (lo : Int) (n : Nat), Rise lo l → endE lo l ≤ lo + n → (∀ t, lo ≤ t → t < lo + n → (f t = true ↔ ∃ y ∈ l, y.a ≤ t ∧ t < y.a + y.n ∧ c y = true)) → sumC c l = cntI f lo n
  | [], lo, n, _, _, h => by
    rw [cntI_none]
    · rfl
    · intro t h1 h2
      have := h t h1 h2
      cases hf : f t with
      | false => rfl
      | true => obtain ⟨y, hy, _⟩ := this.1 hf; cases hy
  | x :: l, lo, n, ⟨r1, r2, r3⟩, he, h => by
    have r2' := r2
    unfold inE at r2'
    have hle := r3.le_end
    simp only [endE] at he
    obtain ⟨m1, hm1⟩ : ∃ m : Nat, x.a - lo = m := ⟨(x.a - lo).toNat, by omega⟩
    obtain ⟨m2, hm2⟩ : ∃ m : Nat, x.n = m := ⟨x.n.toNat, by omega⟩
    obtain ⟨m3, hm3⟩ : ∃ m : Nat, n = m1 + (m2 + m) := ⟨n - m1 - m2, by omega⟩
    subst hm3
    have ih := sumC_cnt c f l (x.a + x.n) m3 r3 (by omega) (fun t h1 h2 => by
      rw [h t (by omega) (by omega)]
      constructor
      · rintro ⟨y, hy, h3, h4, h5⟩
        rcases List.mem_cons.1 hy with rfl | hy
        · omega
        · exact ⟨y, hy, h3, h4, h5⟩
      · rintro ⟨y, hy, h3⟩
        exact ⟨y, List.mem_cons_of_mem _ hy, h3⟩)
    rw [cntI_add, cntI_add]
    have e0 : cntI f lo m1 = 0 := cntI_none (fun t h1 h2 => by
      cases hf : f t with
      | false => rfl
      | true =>
        obtain ⟨y, hy, h3, h4, _⟩ := (h t h1 (by omega)).1 hf
        rcases List.mem_cons.1 hy with rfl | hy
        · omega
        · have := (r3.mem hy).2; omega)
    have e1 : ∀ t, x.a ≤ t → t < x.a + x.n → (f t = true ↔ c x = true) := fun t h1 h2 => by
      rw [h t (by omega) (by omega)]
      constructor
      · rintro ⟨y, hy, h3, h4, h5⟩
        rcases List.mem_cons.1 hy with rfl | hy
        · exact h5
        · have := (r3.mem hy).2; omega
      · intro h5
        exact ⟨x, List.mem_cons_self .., h1, h2, h5⟩
    simp only [sumC, ih, e0]
    rw [show lo + (m1 : Int) = x.a by omega, show x.a + (m2 : Int) = x.a + x.n by omega]
    cases hc : c x with
    | true =>
      rw [cntI_all (a := x.a) (n := m2) (fun t h1 h2 => (e1 t h1 (by omega)).2 hc), if_pos rfl]
      omega
    | false =>
      rw [cntI_none (a := x.a) (n := m2) (fun t h1 h2 => by cases hf : f t with | false => rfl | true => rw [(e1 t h1 (by omega)).1 hf] at hc; cases hc)]
      simp
theorem sumE_sumC : ∀ l : List Ext, sumE l = sumC (fun _ => true) l
  | [] => rfl
  | x :: l => by simp [sumE, sumC, sumE_sumC l]
theorem movN_sumC (x : Ext) : ∀ l : List Ext, movN x l = sumC (fun y => decide (y.q = x.q ∧ y.p = x.p + y.a - x.a)) l
  | [] => rfl
  | y :: l => by simp [movN, sumC, movN_sumC x l]
def hasS (σ : Sig) (t : Int) : Bool := (σ t).isSome
theorem IsMap.sectors {l : List Ext} {σ : Sig} (h : IsMap l σ) : sumE l = cntI (hasS σ) 0 65536 := by
  rw [sumE_sumC]
  refine sumC_cnt _ _ l 0 65536 h.rise (by have := h.rise.endTop (by omega); omega) (fun t _ _ => ?_)
  unfold hasS
  rw [Option.isSome_iff_exists]
  constructor
  · rintro ⟨p, hp⟩
    obtain ⟨y, hy, h1, h2, _⟩ := (h.at_ t p).2 hp
    exact ⟨y, hy, h1, h2, rfl⟩
  · rintro ⟨y, hy, h1, h2, _⟩
    exact ⟨_, (h.at_ t _).1 ⟨y, hy, h1, h2, rfl⟩⟩
theorem IsFind.sectors {I : List Ext} {σ : Sig} {a : Int} {n : Nat} (h : IsFind σ (a, n) I) : sumE I = cntI (hasS σ) a n := by
  rw [sumE_sumC]
  refine sumC_cnt _ _ I a n h.rise (h.ends (by omega)) (fun t h1 h2 => ?_)
  unfold hasS
  rw [Option.isSome_iff_exists]
  constructor
  · rintro ⟨p, hp⟩
    obtain ⟨y, hy, h1, h2, _⟩ := (h.at_ t p).2 ⟨hp, h1, h2⟩
    exact ⟨y, hy, h1, h2, rfl⟩
  · rintro ⟨y, hy, h1, h2, _⟩
    exact ⟨_, ((h.at_ t _).1 ⟨y, hy, h1, h2, rfl⟩).1⟩
def isMov (σ : Sig) (x : Ext) (t : Int) : Bool := decide (σ t = some (x.q, x.p + (t - x.a)))
theorem IsFind.moved {I : List Ext} {σ : Sig} {x : Ext} {n : Nat} (h : IsFind σ (x.a, n) I) : movN x I = cntI (isMov σ x) x.a n := by
  rw [movN_sumC]
  refine sumC_cnt _ _ I x.a n h.rise (h.ends (by omega)) (fun t h1 h2 => ?_)
  unfold isMov
  rw [decide_eq_true_iff]
  constructor
  · intro hp
    obtain ⟨y, hy, h3, h4, h5⟩ := (h.at_ t _).2 ⟨hp, h1, h2⟩
    simp only [Prod.mk.injEq] at h5
    exact ⟨y, hy, h3, h4, by simp only [decide_eq_true_eq]; omega⟩
  · rintro ⟨y, hy, h3, h4, h5⟩
    simp only [decide_eq_true_eq] at h5
    have := ((h.at_ t _).1 ⟨y, hy, h3, h4, rfl⟩).1
    rw [this]
    congr 1
    refine Prod.ext ?_ ?_ <;> dsimp only <;> omega
theorem IsRef.sectors {is : List Bool} {sp : List Sp} {σ : Sig} (h : IsRef is sp σ) : cntI (hasS σ) 0 65536 = cntI (hasS σ) 0 300 := by
  rw [show (65536 : Nat) = 300 + 65236 by rfl, cntI_add, cntI_none (n := 65236), Int.add_zero]
  intro t h1 h2
  unfold hasS
  rw [h.out t (by omega)]
  rfl
end Go.Lx
