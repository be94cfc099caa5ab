/- Plain laws on lists of numbers: those that rise are told by what is in them; a sorted list without doubles; what is stored and not known. -/
import Derived.Test.YtapkpicloanbcaaGa
import Derived.Lib.SlicesCompact
namespace Go.Lx
set_option linter.unusedVariables false
set_option linter.unusedSimpArgs false

theorem rising_unique : ∀ {a b : List Int}, a.Pairwise (· < ·) → b.Pairwise (· < ·) → (∀ n, n ∈ a ↔ n ∈ b) → a = b
  | [], [], _, _, _ => rfl
  | [], y :: b, _, _, h => absurd ((h y).2 (List.mem_cons_self ..)) (by simp)
  | x :: a, [], _, _, h => absurd ((h x).1 (List.mem_cons_self ..)) (by simp)
  | x :: a, y :: b, ha, hb, h => by
    obtain ⟨ha1, ha2⟩ := List.pairwise_cons.1 ha
    obtain ⟨hb1, hb2⟩ := List.pairwise_cons.1 hb
    have e : x = y := by
      rcases List.mem_cons.1 ((h x).1 (List.mem_cons_self ..)) with e | hx
      · exact e
      · rcases List.mem_cons.1 ((h y).2 (List.mem_cons_self ..)) with e | hy
        · exact e.symm
        · have := hb1 x hx; have := ha1 y hy; omega
    subst e
    have := rising_unique ha2 hb2 (fun n => by
      constructor
      · intro hn
        rcases List.mem_cons.1 ((h n).1 (List.mem_cons_of_mem _ hn)) with e | h1
        · subst e; have := ha1 n hn; omega
        · exact h1
      · intro hn
        rcases List.mem_cons.1 ((h n).2 (List.mem_cons_of_mem _ hn)) with e | h1
        · subst e; have := hb1 n hn; omega
        · exact h1)
    rw [this]
theorem pw_le {l : List Int} (h : l.Pairwise (· ≤ ·)) {i j : Nat} (hij : i ≤ j) (hj : j < l.length) : l[i]'(by omega) ≤ l[j] := by
  rcases Nat.eq_or_lt_of_le hij with e | e
  · subst e; exact Int.le_refl _
  · exact (List.pairwise_iff_getElem.1 h) i j (by omega) hj e
open Lib in
theorem compact_facts {l : List Int} (h : l.Pairwise (· ≤ ·)) : (Lib.compact l).Pairwise (· < ·) ∧ ∀ n, n ∈ Lib.compact l ↔ n ∈ l := by
  have hg : ∀ j, (hj : j < l.length) → l.toArray[j]! = l[j] := fun j hj => by simp [hj]
  constructor
  · unfold Lib.compact Lib.compactUpTo
    rw [List.pairwise_map]
    have hr : ((List.range l.length).filter (Lib.keeps l.toArray)).Pairwise (· < ·) := List.Pairwise.filter _ List.pairwise_lt_range
    refine List.Pairwise.imp_of_mem ?_ hr
    intro i j hi hj hij
    simp only [List.mem_filter, List.mem_range] at hi hj
    obtain ⟨hj1, hj2⟩ := hj
    simp only [Lib.keeps, decide_eq_true_eq] at hj2
    rcases hj2 with hj2 | hj2
    · omega
    · rw [hg j hj1, hg (j - 1) (by omega)] at hj2
      rw [hg i hi.1, hg j hj1]
      have h1 := pw_le h (i := i) (j := j - 1) (by omega) (by omega)
      have h2 := pw_le h (i := j - 1) (j := j) (by omega) hj1
      omega
  · intro n
    unfold Lib.compact Lib.compactUpTo
    rw [List.mem_map]
    constructor
    · rintro ⟨j, hj, rfl⟩
      simp only [List.mem_filter, List.mem_range] at hj
      rw [hg j hj.1]
      exact List.getElem_mem hj.1
    · intro hn
      -- the first place
      have hex : ∃ j, j < l.length ∧ l[j]? = some n := by
        obtain ⟨j, hj⟩ := List.mem_iff_getElem?.1 hn
        exact ⟨j, lt_of_get' hj, hj⟩
      have key : ∀ j : Nat, l[j]? = some n → ∃ k : Nat, l[k]? = some n ∧ ∀ m : Nat, m < k → l[m]? ≠ some n := by
        intro j
        induction j using Nat.strongRecOn with
        | _ j ih =>
          intro hj
          by_cases hm : ∃ m, m < j ∧ l[m]? = some n
          · obtain ⟨m, h1, h2⟩ := hm
            exact ih m h1 h2
          · exact ⟨j, hj, fun m h1 h2 => hm ⟨m, h1, h2⟩⟩
      obtain ⟨j, _, hj⟩ := hex
      obtain ⟨k, hk, hmin⟩ := key j hj
      have hkl := lt_of_get' hk
      refine ⟨k, ?_, ?_⟩
      · simp only [List.mem_filter, List.mem_range]
        refine ⟨hkl, ?_⟩
        simp only [Lib.keeps, decide_eq_true_eq]
        by_cases h0 : k = 0
        · exact .inl h0
        · right
          rw [hg k hkl, hg (k - 1) (by omega)]
          intro e
          apply hmin (k - 1) (by omega)
          rw [List.getElem?_eq_getElem (by omega), ← e]
          rw [List.getElem?_eq_getElem hkl] at hk
          exact hk
      · rw [hg k hkl]
        rw [List.getElem?_eq_getElem hkl] at hk
        exact Option.some.inj hk
/-- What is stored, and not known. -/
def IsOrph (st kn : List Int) (below : Int) (o : List Int) : Prop := o.Pairwise (· < ·) ∧ ∀ n, n ∈ o ↔ n ∈ st ∧ n < below ∧ n ∉ kn
theorem IsOrph.unique {st kn : List Int} {below : Int} {a b : List Int} (h : IsOrph st kn below a) (k : IsOrph st kn below b) : a = b := rising_unique h.1 k.1 (fun n => by rw [h.2, k.2])
theorem orph_of {st kn ds : List Int} {below : Int} (hp : ds.Perm (st.filter fun n => decide (n < below) && !decide (n ∈ kn))) (hs : ds.Pairwise (· ≤ ·)) : IsOrph st kn below (Lib.compact ds) := by
  obtain ⟨h1, h2⟩ := compact_facts hs
  exact ⟨h1, fun n => by rw [h2, hp.mem_iff, List.mem_filter]; simp⟩
/-- The one more is put in its place. -/
structure InsI (o : List Int) (n : Int) (k : Nat) (dn : Bool) (nx : List Int) : Prop where
  le : k ≤ o.length
  rise : nx.Pairwise (· < ·)
  mem : ∀ x, x ∈ nx ↔ x ∈ o.take k ∨ (dn = true ∧ x = n)
  lt : ∀ (j : Nat) (y : Int), k ≤ j → o[j]? = some y → ∀ x ∈ nx, x < y
  und : dn = false → ∀ x ∈ nx, x < n
  len : nx.length = k + dn.toNat
theorem InsI.start (o : List Int) (n : Int) : InsI o n 0 false [] := ⟨Nat.zero_le _, List.Pairwise.nil, by simp, fun _ _ _ _ x hx => absurd hx (by simp), fun _ x hx => absurd hx (by simp), by simp⟩
theorem rise_lt {o : List Int} (h : o.Pairwise (· < ·)) {i j : Nat} {x y : Int} (hij : i < j) (hx : o[i]? = some x) (hy : o[j]? = some y) : x < y := by
  have := (List.pairwise_iff_getElem.1 h) i j (lt_of_get' hx) (lt_of_get' hy) hij
  rw [(List.getElem?_eq_some_iff.1 hx).2, (List.getElem?_eq_some_iff.1 hy).2] at this
  exact this
theorem pw_snoc {o : List Int} {x : Int} (h : o.Pairwise (· < ·)) (hx : ∀ y ∈ o, y < x) : (o ++ [x]).Pairwise (· < ·) := by
  rw [List.pairwise_append]
  exact ⟨h, List.pairwise_singleton _ _, fun a ha b hb => by rcases List.mem_singleton.1 hb with rfl; exact hx a ha⟩
theorem InsI.keep {o nx : List Int} {n y : Int} {k : Nat} {dn : Bool} (h : InsI o n k dn nx) (ho : o.Pairwise (· < ·)) (hn : n ∉ o) (hy : o[k]? = some y) (hc : dn = true ∨ ¬ y > n) : InsI o n (k + 1) dn (nx ++ [y]) := by
  have hyn : y ≠ n := fun e => hn (e ▸ List.mem_of_getElem? hy)
  refine ⟨lt_of_get' hy, pw_snoc h.rise (fun x hx => h.lt k y (Nat.le_refl _) hy x hx), fun x => ?_, fun j z hj hz x hx => ?_, fun hdn x hx => ?_, ?_⟩
  · rw [List.mem_append, h.mem, take_snoc' hy, List.mem_append]
    simp only [List.mem_singleton]
    constructor
    · rintro ((a | a) | a)
      · exact .inl (.inl a)
      · exact .inr a
      · exact .inl (.inr a)
    · rintro ((a | a) | a)
      · exact .inl (.inl a)
      · exact .inr a
      · exact .inl (.inr a)
  · rcases List.mem_append.1 hx with hx | hx
    · exact h.lt j z (by omega) hz x hx
    · rcases List.mem_singleton.1 hx with rfl
      exact rise_lt ho (by omega) hy hz
  · rcases List.mem_append.1 hx with hx | hx
    · exact h.und hdn x hx
    · rcases List.mem_singleton.1 hx with rfl
      rcases hc with hc | hc
      · rw [hdn] at hc; cases hc
      · omega
  · have := h.len
    simp only [List.length_append, List.length_cons, List.length_nil]; omega
theorem InsI.put {o nx : List Int} {n y : Int} {k : Nat} (h : InsI o n k false nx) (ho : o.Pairwise (· < ·)) (hy : o[k]? = some y) (hc : y > n) : InsI o n (k + 1) true (nx ++ [n] ++ [y]) := by
  refine ⟨lt_of_get' hy, pw_snoc (pw_snoc h.rise (h.und rfl)) (fun x hx => ?_), fun x => ?_, fun j z hj hz x hx => ?_, fun hdn => (by cases hdn), ?_⟩
  · rcases List.mem_append.1 hx with hx | hx
    · exact h.lt k y (Nat.le_refl _) hy x hx
    · rcases List.mem_singleton.1 hx with rfl; omega
  · rw [List.mem_append, List.mem_append, h.mem, take_snoc' hy, List.mem_append]
    simp only [List.mem_singleton]
    constructor
    · rintro (((a | a) | a) | a)
      · exact .inl (.inl a)
      · exact absurd a.1 (by simp)
      · exact .inr ⟨by trivial, a⟩
      · exact .inl (.inr a)
    · rintro ((a | a) | a)
      · exact .inl (.inl (.inl a))
      · exact .inr a
      · exact .inl (.inr a.2)
  · rcases List.mem_append.1 hx with hx | hx
    · rcases List.mem_append.1 hx with hx | hx
      · exact h.lt j z (by omega) hz x hx
      · rcases List.mem_singleton.1 hx with rfl
        have := rise_lt ho (show k < j by omega) hy hz
        omega
    · rcases List.mem_singleton.1 hx with rfl
      exact rise_lt ho (by omega) hy hz
  · have := h.len
    simp only [List.length_append, List.length_cons, List.length_nil, Bool.toNat_false, Bool.toNat_true] at this ⊢
    omega
/-- All of them, with the one more. -/
theorem InsI.done {o nx : List Int} {n : Int} {k : Nat} (h : InsI o n k true nx) (hk : k = o.length) : nx.Pairwise (· < ·) ∧ ∀ x, x ∈ nx ↔ x ∈ o ∨ x = n := by
  refine ⟨h.rise, fun x => ?_⟩
  rw [h.mem, List.take_of_length_le (by omega)]
  simp
theorem InsI.last {o nx : List Int} {n : Int} {k : Nat} (h : InsI o n k false nx) (hk : k = o.length) : (nx ++ [n]).Pairwise (· < ·) ∧ ∀ x, x ∈ nx ++ [n] ↔ x ∈ o ∨ x = n := by
  refine ⟨pw_snoc h.rise (h.und rfl), fun x => ?_⟩
  rw [List.mem_append, h.mem, List.take_of_length_le (by omega)]
  simp
theorem orph_skip {st kn o : List Int} {below n : Int} {i : Nat} (h : IsOrph (st.take i) kn below o) (hn : st[i]? = some n) (hc : ¬ n < below ∨ n ∈ kn ∨ n ∈ o) : IsOrph (st.take (i + 1)) kn below o := ⟨h.1, fun x => by
  rw [h.2, take_snoc' hn, List.mem_append]
  simp only [List.mem_singleton]
  constructor
  · rintro ⟨a, b, c⟩; exact ⟨.inl a, b, c⟩
  · rintro ⟨a | a, b, c⟩
    · exact ⟨a, b, c⟩
    · subst a
      rcases hc with hc | hc | hc
      · exact absurd b hc
      · exact absurd hc c
      · exact (h.2 x).1 hc⟩
theorem orph_put {st kn o nx : List Int} {below n : Int} {i : Nat} (h : IsOrph (st.take i) kn below o) (hn : st[i]? = some n) (h1 : n < below) (h2 : n ∉ kn) (hnx : nx.Pairwise (· < ·) ∧ ∀ x, x ∈ nx ↔ x ∈ o ∨ x = n) : IsOrph (st.take (i + 1)) kn below nx := ⟨hnx.1, fun x => by
  rw [hnx.2, h.2, take_snoc' hn, List.mem_append]
  simp only [List.mem_singleton]
  constructor
  · rintro (⟨a, b, c⟩ | a)
    · exact ⟨.inl a, b, c⟩
    · subst a; exact ⟨.inr rfl, h1, h2⟩
  · rintro ⟨a | a, b, c⟩
    · exact .inl ⟨a, b, c⟩
    · exact .inr a⟩
end Go.Lx
