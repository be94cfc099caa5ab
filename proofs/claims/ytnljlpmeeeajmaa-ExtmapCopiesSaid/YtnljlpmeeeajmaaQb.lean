/- Plain laws on extents, part b: what a span parts extents into. -/
import Derived.Test.YtnljlpmeeeajmaaEe
namespace Go.Lx
set_option linter.unusedVariables false
set_option linter.unusedSimpArgs false

theorem inF_rise (s : Sp) (hs : mayS s) : ∀ (P : List Ext) (lo : Int), Rise lo P → (∀ x ∈ P, s.1 < x.a + x.n ∧ x.a < s.1 + s.2) → Rise (max lo s.1) (inF s P)
  | [], lo, _, _ => trivial
  | x :: P, lo, h, hx => by
    have h1 := hx x (List.mem_cons_self ..)
    have h2 := h.2.1
    have h3 := h.1
    have ih := inF_rise s hs P (x.a + x.n) h.2.2 (fun y hy => hx y (List.mem_cons_of_mem _ hy))
    unfold mayS at hs
    refine ⟨?_, ?_, ih.weak ?_⟩
    · show max lo s.1 ≤ max x.a s.1
      omega
    · unfold inE at h2 ⊢
      simp only [prt]
      omega
    · simp only [prt]
      omega
theorem inF_at (s : Sp) (P : List Ext) (t : Int) (p : Int × Int) : atE (inF s P) t p ↔ atE P t p ∧ s.1 ≤ t ∧ t < s.1 + s.2 := by
  unfold atE inF
  constructor
  · rintro ⟨y, hy, h1, h2, h3⟩
    obtain ⟨x, hx, rfl⟩ := List.mem_map.1 hy
    simp only [prt] at h1 h2 h3
    exact ⟨⟨x, hx, by omega, by omega, by rw [h3]; congr 1; omega⟩, by omega, by omega⟩
  · rintro ⟨⟨x, hx, h1, h2, h3⟩, h4, h5⟩
    refine ⟨_, List.mem_map.2 ⟨x, hx, rfl⟩, ?_, ?_, ?_⟩
    · simp only [prt]; omega
    · simp only [prt]; omega
    · simp only [prt]; rw [h3]; congr 1; omega
theorem inF_end (s : Sp) : ∀ (P : List Ext) (lo : Int), lo ≤ s.1 + s.2 → endE lo (inF s P) ≤ s.1 + s.2
  | [], lo, h => h
  | x :: P, lo, h => inF_end s P _ (by simp only [prt]; omega)
theorem inF_nf (s : Sp) : ∀ (P : List Ext) (lo : Int), Rise lo P → (∀ x ∈ P, s.1 < x.a + x.n ∧ x.a < s.1 + s.2) → NF P → NF (inF s P)
  | [], _, _, _, _ => trivial
  | [x], _, _, _, _ => trivial
  | x :: y :: P, lo, h, hx, hn => by
    refine ⟨fun hf => hn.1 ?_, inF_nf s (y :: P) _ h.2.2 (fun z hz => hx z (List.mem_cons_of_mem _ hz)) hn.2⟩
    have h1 := hx x (List.mem_cons_self ..)
    have h2 := hx y (List.mem_cons_of_mem _ (List.mem_cons_self ..))
    have h3 := h.2.2.1
    have h4 := h.2.1
    have h5 := h.2.2.2.1
    unfold inE at h4 h5
    unfold Fol at hf ⊢
    simp only [prt] at hf
    omega
theorem ah_rise (s : Sp) (hs : mayS s) : ∀ (P : List Ext) (lo : Int), Rise lo P → (∀ x ∈ P, s.1 < x.a + x.n) → Rise lo ((P.filter fun x => decide (x.a < s.1)).map fun x => prt x.a s.1 x)
  | [], lo, _, _ => trivial
  | x :: P, lo, h, hx => by
    have h1 := hx x (List.mem_cons_self ..)
    have h2 := h.2.1
    have ih := ah_rise s hs P (x.a + x.n) h.2.2 (fun y hy => hx y (List.mem_cons_of_mem _ hy))
    unfold mayS at hs
    unfold inE at h2
    by_cases q : x.a < s.1
    · have hnone : P.filter (fun x => decide (x.a < s.1)) = [] := by
        rw [List.filter_eq_nil_iff]
        intro y hy
        have := (h.2.2.mem hy).2
        simp
        omega
      simp only [List.filter_cons, q, decide_true, if_true, hnone, List.map_cons, List.map_nil]
      refine ⟨h.1, ?_, trivial⟩
      unfold inE
      simp only [prt]
      omega
    · simp only [List.filter_cons, q, decide_false, Bool.false_eq_true, if_false]
      exact ih.weak (by have := h.1; omega)
theorem be_rise (s : Sp) (hs : mayS s) : ∀ (P : List Ext) (lo : Int), Rise lo P → (∀ x ∈ P, x.a < s.1 + s.2) → ∀ (l3 : List Ext), Rise (endE lo P) l3 → (∀ x ∈ l3, s.1 + s.2 ≤ x.a) → Rise (s.1 + s.2) (beE s l3 P)
  | [], lo, _, _, l3, h3, h4 => by
    simp only [beE, List.filter_nil, List.reverse_nil, List.map_nil, List.nil_append]
    cases l3 with
    | nil => trivial
    | cons y l3 => exact ⟨h4 y (List.mem_cons_self ..), h3.2⟩
  | x :: P, lo, h, hx, l3, h3, h4 => by
    have h1 := hx x (List.mem_cons_self ..)
    have h2 := h.2.1
    have ih := be_rise s hs P (x.a + x.n) h.2.2 (fun y hy => hx y (List.mem_cons_of_mem _ hy)) l3 h3 h4
    unfold mayS at hs
    unfold inE at h2
    by_cases q : x.a + x.n > s.1 + s.2
    · have hP : P = [] := by
        cases P with
        | nil => rfl
        | cons y P =>
          have := h.2.2.1
          have := hx y (List.mem_cons_of_mem _ (List.mem_cons_self ..))
          omega
      subst hP
      simp only [beE, List.filter_cons, q, decide_true, if_true, List.filter_nil, List.reverse_cons, List.reverse_nil, List.nil_append, List.map_cons, List.map_nil, List.cons_append]
      refine ⟨by simp only [prt]; omega, ?_, ?_⟩
      · unfold inE
        simp only [prt]
        omega
      · simp only [prt]
        have : s.1 + s.2 + (x.a + x.n - (s.1 + s.2)) = x.a + x.n := by omega
        rw [this]
        exact h3
    · have e : beE s l3 (x :: P) = beE s l3 P := by simp [beE, List.filter_cons, q]
      rw [e]
      exact ih
theorem split3 {l : List Ext} {k m : Nat} (h1 : k ≤ m) (h2 : m ≤ l.length) : l = l.take k ++ midL l k m ++ l.drop m := by
  unfold midL
  rw [List.append_assoc]
  conv => lhs; rw [← List.take_append_drop k l]
  congr 1
  conv => lhs; rw [← List.take_append_drop (m - k) (l.drop k)]
  rw [List.drop_drop, show k + (m - k) = m by omega]
/-- What a span parts extents into. -/
structure Aro (l : List Ext) (s : Sp) (A I B : List Ext) : Prop where
  riseA : Rise 0 A
  endA : endE 0 A ≤ s.1
  riseI : Rise s.1 I
  endI : endE s.1 I ≤ s.1 + s.2
  riseB : Rise (s.1 + s.2) B
  atA : ∀ t p, atE A t p ↔ atE l t p ∧ t < s.1
  atI : ∀ t p, atE I t p ↔ atE l t p ∧ s.1 ≤ t ∧ t < s.1 + s.2
  atB : ∀ t p, atE B t p ↔ atE l t p ∧ s.1 + s.2 ≤ t
  nfI : NF l → NF I
theorem mem_take_idx {l : List Ext} {k : Nat} {x : Ext} (h : x ∈ l.take k) : ∃ j, j < k ∧ l[j]? = some x := by
  obtain ⟨j, hj⟩ := List.mem_iff_getElem?.1 h
  rw [List.getElem?_take] at hj
  split at hj
  · exact ⟨j, by assumption, hj⟩
  · cases hj
theorem mem_drop_idx {l : List Ext} {m : Nat} {x : Ext} (h : x ∈ l.drop m) : ∃ j, m ≤ j ∧ l[j]? = some x := by
  obtain ⟨j, hj⟩ := List.mem_iff_getElem?.1 h
  rw [List.getElem?_drop] at hj
  exact ⟨m + j, by omega, hj⟩
theorem mem_mid_idx {l : List Ext} {k m : Nat} {x : Ext} (h : x ∈ midL l k m) : ∃ j, k ≤ j ∧ j < m ∧ l[j]? = some x := by
  obtain ⟨i, hi⟩ := List.mem_iff_getElem?.1 h
  have := mid_get rfl hi
  unfold midL at hi
  rw [List.getElem?_take] at hi
  split at hi
  · exact ⟨k + i, by omega, by omega, this⟩
  · cases hi
theorem endE_le {b : Int} : ∀ (l : List Ext) (lo : Int), lo ≤ b → (∀ x ∈ l, x.a + x.n ≤ b) → endE lo l ≤ b
  | [], lo, h, _ => h
  | x :: l, lo, _, h => endE_le l _ (h x (List.mem_cons_self ..)) (fun y hy => h y (List.mem_cons_of_mem _ hy))
theorem aro_of {l : List Ext} {s : Sp} {k m : Nat} (hP : Parts l s k m) (hr : Rise 0 l) (hs : mayS s) : Aro l s (ahE s (l.take k) (midL l k m)) (inF s (midL l k m)) (beE s (l.drop m) (midL l k m)) := by
  have hsp := split3 hP.km hP.ml
  have hr' := hr
  rw [hsp] at hr'
  obtain ⟨hr12, hr3⟩ := rise_append.1 hr'
  obtain ⟨hr1, hr2⟩ := rise_append.1 hr12
  have m1 : ∀ x ∈ l.take k, x.a + x.n ≤ s.1 := fun x hx => by
    obtain ⟨j, hj, h⟩ := mem_take_idx hx
    exact hP.lo j x hj h
  have m2 : ∀ x ∈ midL l k m, s.1 < x.a + x.n ∧ x.a < s.1 + s.2 := fun x hx => by
    obtain ⟨j, h1, h2, h⟩ := mem_mid_idx hx
    exact ⟨hP.mid j x h1 h, hP.in_ j x h1 h2 h⟩
  have m3 : ∀ x ∈ l.drop m, s.1 + s.2 ≤ x.a := fun x hx => by
    obtain ⟨j, h1, h⟩ := mem_drop_idx hx
    have hj := (List.getElem?_eq_some_iff.1 h).1
    obtain ⟨y, hy⟩ := get_lt (l := l) (k := m) (by omega)
    have h2 := hP.hi y hy
    by_cases e : j = m
    · subst e; rw [h] at hy; cases hy; exact h2
    · have h3 := hr.idx (by omega : m < j) hy h
      have h4 := (hr.mem (List.mem_of_getElem? hy)).1
      unfold inE at h4
      omega
  have hs' := hs
  unfold mayS at hs'
  have e1 : endE 0 (l.take k) ≤ s.1 := endE_le _ _ (by omega) m1
  have hat : ∀ t p, atE l t p ↔ atE (l.take k) t p ∨ atE (midL l k m) t p ∨ atE (l.drop m) t p := fun t p => by
    conv => lhs; rw [hsp]
    rw [atE_append, atE_append, or_assoc]
  refine ⟨rise_append.2 ⟨hr1, ah_rise s hs _ _ hr2 (fun x hx => (m2 x hx).1)⟩, ?_, ?_, inF_end s _ _ (by omega), be_rise s hs _ _ hr2 (fun x hx => (m2 x hx).2) _ (by rw [endE_append] at hr3; exact hr3) m3, fun t p => ?_, fun t p => ?_, fun t p => ?_, fun hn => ?_⟩
  · refine endE_le _ _ (by omega) (fun x hx => ?_)
    rcases List.mem_append.1 hx with hx | hx
    · exact m1 x hx
    · obtain ⟨y, hy, rfl⟩ := List.mem_map.1 hx
      simp only [prt]
      omega
  · exact (inF_rise s hs _ _ hr2 m2).weak (by omega)
  · rw [hat t p]
    unfold ahE
    rw [atE_append]
    constructor
    · rintro (h | ⟨y, hy, h1, h2, h3⟩)
      · have hh := h
        obtain ⟨x, hx, h4, h5, _⟩ := h
        have := m1 x hx
        exact ⟨.inl hh, by omega⟩
      · obtain ⟨x, hx, rfl⟩ := List.mem_map.1 hy
        obtain ⟨hx, hlt⟩ := List.mem_filter.1 hx
        have hlt : x.a < s.1 := by simpa using hlt
        have := m2 x hx
        simp only [prt] at h1 h2 h3
        exact ⟨.inr (.inl ⟨x, hx, by omega, by omega, by rw [h3]; congr 1; omega⟩), by omega⟩
    · rintro ⟨h | ⟨x, hx, h1, h2, h3⟩ | ⟨x, hx, h1, _⟩, ht⟩
      · exact .inl h
      · refine .inr ⟨prt x.a s.1 x, List.mem_map.2 ⟨x, List.mem_filter.2 ⟨hx, by simp; omega⟩, rfl⟩, ?_, ?_, ?_⟩
        · simp only [prt]; omega
        · simp only [prt]; omega
        · simp only [prt]; rw [h3]; congr 1; omega
      · have := m3 x hx
        omega
  · rw [inF_at, hat t p]
    constructor
    · rintro ⟨h, h1⟩; exact ⟨.inr (.inl h), h1⟩
    · rintro ⟨⟨x, hx, h1, h2, _⟩ | h | ⟨x, hx, h1, h2, _⟩, h3⟩
      · have := m1 x hx; omega
      · exact ⟨h, h3⟩
      · have := m3 x hx; omega
  · rw [hat t p]
    unfold beE
    rw [atE_append]
    constructor
    · rintro (⟨y, hy, h1, h2, h3⟩ | h)
      · obtain ⟨x, hx, rfl⟩ := List.mem_map.1 hy
        obtain ⟨hx, hlt⟩ := List.mem_filter.1 (List.mem_reverse.1 hx)
        have := m2 x hx
        simp only [prt] at h1 h2 h3
        exact ⟨.inr (.inl ⟨x, hx, by omega, by omega, by rw [h3]; congr 1; omega⟩), by omega⟩
      · have hh := h
        obtain ⟨x, hx, h4, h5, _⟩ := h
        have := m3 x hx
        exact ⟨.inr (.inr hh), by omega⟩
    · rintro ⟨⟨x, hx, h1, h2, _⟩ | ⟨x, hx, h1, h2, h3⟩ | h, ht⟩
      · have := m1 x hx
        omega
      · refine .inl ⟨prt (s.1 + s.2) (x.a + x.n) x, List.mem_map.2 ⟨x, List.mem_reverse.2 (List.mem_filter.2 ⟨hx, by simp; omega⟩), rfl⟩, ?_, ?_, ?_⟩
        · simp only [prt]; omega
        · simp only [prt]; omega
        · simp only [prt]; rw [h3]; congr 1; omega
      · exact .inr h
  · refine inF_nf s _ _ hr2 m2 (nf_mid hn)
where
  nf_app : ∀ {a b : List Ext}, NF (a ++ b) → NF b
    | [], _, h => h
    | x :: a, b, h => nf_app h.tail
  nf_take : ∀ {a : List Ext} {n : Nat}, NF a → NF (a.take n)
    | [], n, _ => by simp [NF]
    | x :: a, 0, _ => trivial
    | [x], n + 1, _ => by simp [NF]
    | x :: y :: a, 1, _ => by simp [NF]
    | x :: y :: a, n + 2, h => ⟨h.1, nf_take (a := y :: a) (n := n + 1) h.2⟩
  nf_mid {l : List Ext} {k m : Nat} (h : NF l) : NF (midL l k m) := nf_take (nf_app (a := l.take k) (by rw [List.take_append_drop]; exact h))
end Go.Lx
