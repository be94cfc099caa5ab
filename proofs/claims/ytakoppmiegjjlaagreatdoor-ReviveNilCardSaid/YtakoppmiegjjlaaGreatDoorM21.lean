/- Texts Qd Dl Dc, merged: a claim has at most 60 files. -/
import Derived.Test.YtakoppmiegjjlaaGreatDoorM20
import Derived.Test.YtakoppmiegjjlaaGreatDoorM18
import Derived.Test.YtakoppmiegjjlaaGreatDoorM4
/- Plain laws on the document's map of sectors: puts, cuts, moves, what is found; how many. -/
namespace Go.Lx
set_option linter.unusedVariables false
set_option linter.unusedSimpArgs false

/-- What the document's map tells. -/
structure IsRef (is : List Bool) (sp : List Sp) (σ : Sig) : Prop where
  l1 : is.length = 300
  l2 : sp.length = 300
  at_ : ∀ k : Nat, k < 300 → σ k = if is[k]? = some true then sp[k]? else none
  out : ∀ t : Int, t < 0 ∨ 300 ≤ t → σ t = none

theorem IsRef.empty : IsRef (List.replicate 300 false) (List.replicate 300 (0, 0)) noneS := by
  refine ⟨List.length_replicate, List.length_replicate, fun k hk => ?_, fun _ _ => rfl⟩
  rw [if_neg]
  · rfl
  · rw [List.getElem?_replicate, if_pos hk]; simp

theorem IsRef.put {is : List Bool} {sp : List Sp} {σ : Sig} {x : Ext} {i k : Nat} (h : IsRef is sp (updE σ ⟨x.a, i, x.q, x.p⟩)) (hk : x.a + i = k) (h3 : k < 300) : IsRef (is.set k true) (sp.set k (x.q, x.p + i)) (updE σ ⟨x.a, (i : Int) + 1, x.q, x.p⟩) := by
  have l1 := h.l1
  have l2 := h.l2
  refine ⟨by simp [l1], by simp [l2], fun j hj => ?_, fun t ht => ?_⟩
  · by_cases e : j = k
    · subst e
      rw [List.getElem?_set_self (by omega), List.getElem?_set_self (by omega), if_pos rfl]
      unfold updE
      rw [if_pos (by dsimp only; omega)]
      dsimp only
      congr 2
      omega
    · rw [List.getElem?_set_ne (Ne.symm e), List.getElem?_set_ne (Ne.symm e), ← h.at_ j hj]
      unfold updE
      have : (x.a ≤ (j : Int) ∧ (j : Int) < x.a + (i + 1)) ↔ (x.a ≤ (j : Int) ∧ (j : Int) < x.a + i) := by omega
      simp only [this]
  · have := h.out t ht
    unfold updE at this ⊢
    dsimp only at this ⊢
    split at this
    · cases this
    · rw [if_neg (by omega), this]
theorem IsRef.cut {is : List Bool} {sp : List Sp} {σ : Sig} {a : Int} {i k : Nat} (h : IsRef is sp (cutE σ (a, i))) (hk : a + i = k) (h3 : k < 300) : IsRef (is.set k false) sp (cutE σ (a, (i : Int) + 1)) := by
  have l1 := h.l1
  refine ⟨by simp [l1], h.l2, fun j hj => ?_, fun t ht => ?_⟩
  · by_cases e : j = k
    · subst e
      rw [List.getElem?_set_self (by omega), if_neg (by simp)]
      unfold cutE
      rw [if_pos (by dsimp only; omega)]
    · rw [List.getElem?_set_ne (Ne.symm e), ← h.at_ j hj]
      unfold cutE
      have : (a ≤ (j : Int) ∧ (j : Int) < a + (i + 1)) ↔ (a ≤ (j : Int) ∧ (j : Int) < a + i) := by omega
      simp only [this]
  · have := h.out t ht
    unfold cutE at this ⊢
    dsimp only at this ⊢
    split
    · rfl
    · split at this
      · omega
      · exact this
theorem IsRef.here {is : List Bool} {sp : List Sp} {σ : Sig} {k : Nat} (h : IsRef is sp σ) (h3 : k < 300) : ∃ (b : Bool) (s : Sp), is[k]? = some b ∧ sp[k]? = some s ∧ σ k = if b then some s else none := by
  have l1 := h.l1
  have l2 := h.l2
  obtain ⟨b, hb⟩ := get_lt (l := is) (k := k) (by omega)
  obtain ⟨s, hs⟩ := get_lt (l := sp) (k := k) (by omega)
  refine ⟨b, s, hb, hs, ?_⟩
  rw [h.at_ k h3, hb, hs]
  cases b <;> rfl
/-! ### what is found, sector by sector -/
def OkS (σ : Sig) : Prop := ∀ t s, σ t = some s → 0 ≤ t ∧ t < 65536 ∧ 0 ≤ s.1 ∧ s.1 < 1099511627776 ∧ 0 ≤ s.2 ∧ s.2 < 1099511693312
theorem IsMap.ok {l : List Ext} {σ : Sig} (h : IsMap l σ) : OkS σ := fun t s hs => by
  obtain ⟨x, hx, h1, h2, rfl⟩ := (h.at_ t s).2 hs
  have := (h.rise.mem hx).1
  unfold inE at this
  dsimp only
  omega
theorem IsFind.zero (σ : Sig) (a : Int) : IsFind σ (a, 0) [] := ⟨trivial, trivial, fun t p => by simp only [atE_nil, false_iff]; omega⟩
theorem IsFind.skip {σ : Sig} {a n : Int} {o : List Ext} (h : IsFind σ (a, n) o) (hs : σ (a + n) = none) : IsFind σ (a, n + 1) o := ⟨h.rise, h.nf, fun t p => by
  rw [h.at_]
  dsimp only
  refine and_congr_right (fun h1 => and_congr_right (fun h2 => ?_))
  constructor
  · omega
  · intro h3
    by_cases e : t = a + n
    · subst e; rw [hs] at h1; cases h1
    · omega⟩
theorem IsFind.ends {σ : Sig} {a n : Int} {o : List Ext} (h : IsFind σ (a, n) o) (hn : 0 ≤ n) : endE a o ≤ a + n := by
  refine endE_le o a (by omega) (fun x hx => ?_)
  have h1 := (h.rise.mem hx).1
  unfold inE at h1
  have h2 := ((h.at_ (x.a + x.n - 1) (x.q, x.p + (x.a + x.n - 1 - x.a))).1 ⟨x, hx, by omega, by omega, rfl⟩).2
  dsimp only at h2
  omega
theorem IsFind.push {σ : Sig} {a n : Int} {o : List Ext} {s : Int × Int} (h : IsFind σ (a, n) o) (hn : 0 ≤ n) (ha : 0 ≤ a) (hσ : OkS σ) (hs : σ (a + n) = some s) (hl : ∀ y, o[o.length - 1]? = some y → ¬ Fol y ⟨a + n, 1, s.1, s.2⟩) : IsFind σ (a, n + 1) (o ++ [⟨a + n, 1, s.1, s.2⟩]) := by
  have hb := hσ _ _ hs
  have he := h.ends hn
  refine ⟨rise_append.2 ⟨h.rise, by dsimp only; exact he, by unfold inE; dsimp only; omega, trivial⟩, ?_, fun t p => ?_⟩
  · rcases List.eq_nil_or_concat o with rfl | ⟨o', y, rfl⟩
    · trivial
    · have h2 := h.nf
      rw [List.concat_eq_append] at h2 hl ⊢
      rw [List.append_assoc]
      exact nf_snoc2.2 ⟨h2, hl y (by simp)⟩
  · rw [atE_append, h.at_, atE_one]
    dsimp only
    constructor
    · rintro (⟨h1, h2, h3⟩ | ⟨h1, h2, h3⟩)
      · exact ⟨h1, h2, by omega⟩
      · obtain rfl : t = a + n := by omega
        exact ⟨by rw [hs, h3]; congr 2; simp, by omega, by omega⟩
    · rintro ⟨h1, h2, h3⟩
      by_cases e : t = a + n
      · subst e
        rw [hs] at h1
        cases h1
        exact .inr ⟨by omega, by omega, by simp⟩
      · exact .inl ⟨h1, h2, by omega⟩
/-! ### how many -/
def cntI (f : Int → Bool) (a : Int) : Nat → Int
  | 0 => 0
  | n + 1 => cntI f a n + if f (a + n) then 1 else 0
theorem cntI_add (f : Int → Bool) (a : Int) (m : Nat) : ∀ n : Nat, cntI f a (m + n) = cntI f a m + cntI f (a + m) n
  | 0 => by simp [cntI]
  | n + 1 => by
    rw [← Nat.add_assoc]
    simp only [cntI, cntI_add f a m n]
    rw [show a + ((m + n : Nat) : Int) = a + m + n by omega]
    omega
theorem cntI_none {f : Int → Bool} {a : Int} : ∀ {n : Nat}, (∀ t, a ≤ t → t < a + n → f t = false) → cntI f a n = 0
  | 0, _ => rfl
  | n + 1, h => by simp only [cntI]; rw [cntI_none (fun t h1 h2 => h t h1 (by omega)), h (a + n) (by omega) (by omega)]; rfl
theorem cntI_all {f : Int → Bool} {a : Int} : ∀ {n : Nat}, (∀ t, a ≤ t → t < a + n → f t = true) → cntI f a n = n
  | 0, _ => rfl
  | n + 1, h => by simp only [cntI]; rw [cntI_all (fun t h1 h2 => h t h1 (by omega)), h (a + n) (by omega) (by omega)]; simp
/-- Those of some extents that are wanted, by their sectors. -/
def sumC (c : Ext → Bool) : List Ext → Int
  | [] => 0
  | y :: l => (if c y then y.n else 0) + sumC c l
theorem sumC_cnt (c : Ext → Bool) (f : Int → Bool) : ∀ (l : List Ext) (lo : Int) (n : Nat), Rise lo l → endE lo l ≤ lo + n → (∀ t, lo ≤ t → t < lo + n → (f t = true ↔ ∃ y ∈ l, y.a ≤ t ∧ t < y.a + y.n ∧ c y = true)) → sumC c l = cntI f lo n
  | [], lo, n, _, _, h => by
    rw [cntI_none]
    · rfl
    · intro t h1 h2
      have := h t h1 h2
      cases hf : f t with
      | false => rfl
      | true => obtain ⟨y, hy, _⟩ := this.1 hf; cases hy
  | x :: l, lo, n, ⟨r1, r2, r3⟩, he, h => by
    have r2' := r2
    unfold inE at r2'
    have hle := r3.le_end
    simp only [endE] at he
    obtain ⟨m1, hm1⟩ : ∃ m : Nat, x.a - lo = m := ⟨(x.a - lo).toNat, by omega⟩
    obtain ⟨m2, hm2⟩ : ∃ m : Nat, x.n = m := ⟨x.n.toNat, by omega⟩
    obtain ⟨m3, hm3⟩ : ∃ m : Nat, n = m1 + (m2 + m) := ⟨n - m1 - m2, by omega⟩
    subst hm3
    have ih := sumC_cnt c f l (x.a + x.n) m3 r3 (by omega) (fun t h1 h2 => by
      rw [h t (by omega) (by omega)]
      constructor
      · rintro ⟨y, hy, h3, h4, h5⟩
        rcases List.mem_cons.1 hy with rfl | hy
        · omega
        · exact ⟨y, hy, h3, h4, h5⟩
      · rintro ⟨y, hy, h3⟩
        exact ⟨y, List.mem_cons_of_mem _ hy, h3⟩)
    rw [cntI_add, cntI_add]
    have e0 : cntI f lo m1 = 0 := cntI_none (fun t h1 h2 => by
      cases hf : f t with
      | false => rfl
      | true =>
        obtain ⟨y, hy, h3, h4, _⟩ := (h t h1 (by omega)).1 hf
        rcases List.mem_cons.1 hy with rfl | hy
        · omega
        · have := (r3.mem hy).2; omega)
    have e1 : ∀ t, x.a ≤ t → t < x.a + x.n → (f t = true ↔ c x = true) := fun t h1 h2 => by
      rw [h t (by omega) (by omega)]
      constructor
      · rintro ⟨y, hy, h3, h4, h5⟩
        rcases List.mem_cons.1 hy with rfl | hy
        · exact h5
        · have := (r3.mem hy).2; omega
      · intro h5
        exact ⟨x, List.mem_cons_self .., h1, h2, h5⟩
    simp only [sumC, ih, e0]
    rw [show lo + (m1 : Int) = x.a by omega, show x.a + (m2 : Int) = x.a + x.n by omega]
    cases hc : c x with
    | true =>
      rw [cntI_all (a := x.a) (n := m2) (fun t h1 h2 => (e1 t h1 (by omega)).2 hc), if_pos rfl]
      omega
    | false =>
      rw [cntI_none (a := x.a) (n := m2) (fun t h1 h2 => by cases hf : f t with | false => rfl | true => rw [(e1 t h1 (by omega)).1 hf] at hc; cases hc)]
      simp
theorem sumE_sumC : ∀ l : List Ext, sumE l = sumC (fun _ => true) l
  | [] => rfl
  | x :: l => by simp [sumE, sumC, sumE_sumC l]
theorem movN_sumC (x : Ext) : ∀ l : List Ext, movN x l = sumC (fun y => decide (y.q = x.q ∧ y.p = x.p + y.a - x.a)) l
  | [] => rfl
  | y :: l => by simp [movN, sumC, movN_sumC x l]
def hasS (σ : Sig) (t : Int) : Bool := (σ t).isSome
theorem IsMap.sectors {l : List Ext} {σ : Sig} (h : IsMap l σ) : sumE l = cntI (hasS σ) 0 65536 := by
  rw [sumE_sumC]
  refine sumC_cnt _ _ l 0 65536 h.rise (by have := h.rise.endTop (by omega); omega) (fun t _ _ => ?_)
  unfold hasS
  rw [Option.isSome_iff_exists]
  constructor
  · rintro ⟨p, hp⟩
    obtain ⟨y, hy, h1, h2, _⟩ := (h.at_ t p).2 hp
    exact ⟨y, hy, h1, h2, rfl⟩
  · rintro ⟨y, hy, h1, h2, _⟩
    exact ⟨_, (h.at_ t _).1 ⟨y, hy, h1, h2, rfl⟩⟩
theorem IsFind.sectors {I : List Ext} {σ : Sig} {a : Int} {n : Nat} (h : IsFind σ (a, n) I) : sumE I = cntI (hasS σ) a n := by
  rw [sumE_sumC]
  refine sumC_cnt _ _ I a n h.rise (h.ends (by omega)) (fun t h1 h2 => ?_)
  unfold hasS
  rw [Option.isSome_iff_exists]
  constructor
  · rintro ⟨p, hp⟩
    obtain ⟨y, hy, h1, h2, _⟩ := (h.at_ t p).2 ⟨hp, h1, h2⟩
    exact ⟨y, hy, h1, h2, rfl⟩
  · rintro ⟨y, hy, h1, h2, _⟩
    exact ⟨_, ((h.at_ t _).1 ⟨y, hy, h1, h2, rfl⟩).1⟩
def isMov (σ : Sig) (x : Ext) (t : Int) : Bool := decide (σ t = some (x.q, x.p + (t - x.a)))
theorem IsFind.moved {I : List Ext} {σ : Sig} {x : Ext} {n : Nat} (h : IsFind σ (x.a, n) I) : movN x I = cntI (isMov σ x) x.a n := by
  rw [movN_sumC]
  refine sumC_cnt _ _ I x.a n h.rise (h.ends (by omega)) (fun t h1 h2 => ?_)
  unfold isMov
  rw [decide_eq_true_iff]
  constructor
  · intro hp
    obtain ⟨y, hy, h3, h4, h5⟩ := (h.at_ t _).2 ⟨hp, h1, h2⟩
    simp only [Prod.mk.injEq] at h5
    exact ⟨y, hy, h3, h4, by simp only [decide_eq_true_eq]; omega⟩
  · rintro ⟨y, hy, h3, h4, h5⟩
    simp only [decide_eq_true_eq] at h5
    have := ((h.at_ t _).1 ⟨y, hy, h3, h4, rfl⟩).1
    rw [this]
    congr 1
    refine Prod.ext ?_ ?_ <;> dsimp only <;> omega
theorem IsRef.sectors {is : List Bool} {sp : List Sp} {σ : Sig} (h : IsRef is sp σ) : cntI (hasS σ) 0 65536 = cntI (hasS σ) 0 300 := by
  rw [show (65536 : Nat) = 300 + 65236 by rfl, cntI_add, cntI_none (n := 65236), Int.add_zero]
  intro t h1 h2
  unfold hasS
  rw [h.out t (by omega)]
  rfl
end Go.Lx

/- What comes of a map when an object's parts and cuts come to be in it: plain laws. -/
namespace Go.Lx
set_option linter.unusedVariables false
set_option linter.unusedSimpArgs false

/-- A part, put or moved. -/
def stepS (sq : Int) (σ : Sig) (p : Int) (x : Ext) : Sig := if PutE x then updE σ ⟨x.a, x.n, sq, p⟩ else movS σ ⟨x.a, x.n, x.q, x.p⟩ sq p
def partsN (σ : Sig) (sq : Int) (l : List Ext) : Nat → Sig
  | 0 => σ
  | i + 1 => match l[i]? with
    | some x => stepS sq (partsN σ sq l i) (secs (l.take i)) x
    | none => partsN σ sq l i
def applyS (σ : Sig) (o : Dob) : Sig := partsN (o.cs.foldl cutE σ) o.sq o.ps o.ps.length
end Go.Lx

/- Package dobj's walks: an object's bytes. -/
namespace Go.Lx
open Go.Proofs
set_option linter.unusedVariables false
set_option linter.unusedSimpArgs false
set_option maxRecDepth 20000
set_option maxHeartbeats 4000000
theorem OrdP.spans {sq : Int} {l : List Ext} (h : OrdP sq l l.length) : ∀ x ∈ spansOf l, mayS x := fun x hx => by
  unfold spansOf at hx
  obtain ⟨y, hy, rfl⟩ := List.mem_map.1 hx
  obtain ⟨i, hi⟩ := List.mem_iff_getElem?.1 hy
  exact (h i y (lt_of_get hi) hi).1.1
end Go.Lx
