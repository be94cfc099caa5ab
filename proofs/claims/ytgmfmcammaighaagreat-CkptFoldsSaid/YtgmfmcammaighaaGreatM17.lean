/- Texts Qc Qd Dl, merged: a claim has at most 60 files. -/
import Derived.Test.YtgmfmcammaighaaGreatM16
import Derived.Test.YtgmfmcammaighaaGreatM14
/- Plain laws on maps of sectors: what a map's extents tell, sector by sector; puts, cuts, moves. -/
namespace Go.Lx
set_option linter.unusedVariables false
set_option linter.unusedSimpArgs false

abbrev Sig := Int → Option (Int × Int)
structure IsMap (l : List Ext) (σ : Sig) : Prop where
  rise : Rise 0 l
  nf : NF l
  at_ : ∀ t p, atE l t p ↔ σ t = some p
structure IsFind (σ : Sig) (s : Sp) (I : List Ext) : Prop where
  rise : Rise s.1 I
  nf : NF I
  at_ : ∀ t p, atE I t p ↔ σ t = some p ∧ s.1 ≤ t ∧ t < s.1 + s.2
def updE (σ : Sig) (x : Ext) : Sig := fun t => if x.a ≤ t ∧ t < x.a + x.n then some (x.q, x.p + (t - x.a)) else σ t
def cutE (σ : Sig) (s : Sp) : Sig := fun t => if s.1 ≤ t ∧ t < s.1 + s.2 then none else σ t
def noneS : Sig := fun _ => none
theorem IsMap.empty : IsMap [] noneS := ⟨trivial, trivial, fun t p => by simp [noneS, atE]⟩
theorem IsMap.unique {l m : List Ext} {σ : Sig} (h : IsMap l σ) (k : IsMap m σ) : l = m := ext_unique l m h.rise k.rise h.nf k.nf (fun t p => by rw [h.at_, k.at_])
theorem IsFind.unique {σ : Sig} {s : Sp} {l m : List Ext} (h : IsFind σ s l) (k : IsFind σ s m) : l = m := ext_unique l m h.rise k.rise h.nf k.nf (fun t p => by rw [h.at_, k.at_])
theorem IsMap.find {l I A K : List Ext} {σ : Sig} {s : Sp} (h : IsMap l σ) (hA : Aro l s A I K) : IsFind σ s I := ⟨hA.riseI, hA.nfI h.nf, fun t p => by rw [hA.atI, h.at_]⟩
theorem IsMap.laid {l l2 xs A I K : List Ext} {σ σ' : Sig} {s : Sp} (h : IsMap l σ) (hA : Aro l s A I K) (hJ : JnI 0 (A ++ xs ++ K) (A ++ xs ++ K).length l2) (hx : ∀ t p, atE xs t p → s.1 ≤ t ∧ t < s.1 + s.2)
    (hin : ∀ t p, s.1 ≤ t → t < s.1 + s.2 → (σ' t = some p ↔ atE xs t p)) (hout : ∀ t, ¬ (s.1 ≤ t ∧ t < s.1 + s.2) → σ' t = σ t) : IsMap l2 σ' := by
  refine ⟨hJ.rise, hJ.nf, fun t p => ?_⟩
  rw [hJ.at_, List.take_length, atE_append, atE_append, hA.atA, hA.atB, h.at_]
  by_cases ht : s.1 ≤ t ∧ t < s.1 + s.2
  · rw [hin t p ht.1 ht.2]
    constructor
    · rintro ((⟨_, h1⟩ | h1) | ⟨_, h1⟩)
      · omega
      · exact h1
      · omega
    · exact fun h1 => .inl (.inr h1)
  · rw [hout t ht]
    constructor
    · rintro ((⟨h1, _⟩ | h1) | ⟨h1, _⟩)
      · exact h1
      · exact absurd (hx t p h1) ht
      · exact h1
    · intro h1
      by_cases h2 : t < s.1
      · exact .inl (.inl ⟨h1, h2⟩)
      · exact .inr ⟨h1, by omega⟩
theorem IsMap.put {l l2 A I K : List Ext} {σ : Sig} {x : Ext} (h : IsMap l σ) (hA : Aro l (x.a, x.n) A I K) (hJ : JnI 0 (A ++ [x] ++ K) (A ++ [x] ++ K).length l2) : IsMap l2 (updE σ x) := by
  refine h.laid hA hJ (fun t p ht => ?_) (fun t p h1 h2 => ?_) (fun t ht => ?_)
  · rw [atE_one] at ht; exact ⟨ht.1, ht.2.1⟩
  · simp only at h1 h2
    rw [atE_one, updE, if_pos ⟨h1, h2⟩]
    simp [h1, h2, eq_comm]
  · simp only at ht
    rw [updE, if_neg ht]
theorem IsMap.cut {l l2 A I K : List Ext} {σ : Sig} {s : Sp} (h : IsMap l σ) (hA : Aro l s A I K) (hJ : JnI 0 (A ++ [] ++ K) (A ++ [] ++ K).length l2) : IsMap l2 (cutE σ s) := by
  refine h.laid hA hJ (fun t p ht => absurd ht atE_nil) (fun t p h1 h2 => ?_) (fun t ht => by rw [cutE, if_neg ht])
  rw [cutE, if_pos ⟨h1, h2⟩]
  simp [atE_nil]

/-! ### many puts, many cuts, one behind the other -/
def FindsP : Sig → List Ext → List Ext → Prop
  | _, [], L => L = []
  | σ, x :: xs, L => ∃ I L', IsFind σ (x.a, x.n) I ∧ L = I ++ L' ∧ FindsP (updE σ x) xs L'
def FindsC : Sig → List Sp → List Ext → Prop
  | _, [], L => L = []
  | σ, s :: ss, L => ∃ I L', IsFind σ s I ∧ L = I ++ L' ∧ FindsC (cutE σ s) ss L'
theorem FindsP.snoc : ∀ {xs : List Ext} {σ : Sig} {L I : List Ext} {x : Ext}, FindsP σ xs L → IsFind (xs.foldl updE σ) (x.a, x.n) I → FindsP σ (xs ++ [x]) (L ++ I)
  | [], σ, L, I, x, h, hI => by
    simp only [FindsP] at h
    subst h
    exact ⟨I, [], hI, by simp, rfl⟩
  | y :: xs, σ, L, I, x, ⟨I1, L', h1, h2, h3⟩, hI => by
    subst h2
    exact ⟨I1, L' ++ I, h1, by simp, FindsP.snoc h3 hI⟩
theorem FindsC.snoc : ∀ {xs : List Sp} {σ : Sig} {L I : List Ext} {x : Sp}, FindsC σ xs L → IsFind (xs.foldl cutE σ) x I → FindsC σ (xs ++ [x]) (L ++ I)
  | [], σ, L, I, x, h, hI => by
    simp only [FindsC] at h
    subst h
    exact ⟨I, [], hI, by simp, rfl⟩
  | y :: xs, σ, L, I, x, ⟨I1, L', h1, h2, h3⟩, hI => by
    subst h2
    exact ⟨I1, L' ++ I, h1, by simp, FindsC.snoc h3 hI⟩
theorem FindsP.unique : ∀ {xs : List Ext} {σ : Sig} {L M : List Ext}, FindsP σ xs L → FindsP σ xs M → L = M
  | [], _, _, _, h, k => by simp only [FindsP] at h k; rw [h, k]
  | x :: xs, σ, L, M, ⟨I, L', h1, h2, h3⟩, ⟨J, M', k1, k2, k3⟩ => by rw [h2, k2, h1.unique k1, FindsP.unique h3 k3]
theorem FindsC.unique : ∀ {xs : List Sp} {σ : Sig} {L M : List Ext}, FindsC σ xs L → FindsC σ xs M → L = M
  | [], _, _, _, h, k => by simp only [FindsC] at h k; rw [h, k]
  | x :: xs, σ, L, M, ⟨I, L', h1, h2, h3⟩, ⟨J, M', k1, k2, k3⟩ => by rw [h2, k2, h1.unique k1, FindsC.unique h3 k3]

/-! ### a move -/
def movS (σ : Sig) (x : Ext) (q p : Int) : Sig := fun t => if x.a ≤ t ∧ t < x.a + x.n ∧ σ t = some (x.q, x.p + (t - x.a)) then some (q, p + (t - x.a)) else σ t
def movX (x : Ext) (q p : Int) (y : Ext) : Ext := if y.q = x.q ∧ y.p = x.p + y.a - x.a then ⟨y.a, y.n, q, p + y.a - x.a⟩ else y
def movN (x : Ext) : List Ext → Int
  | [] => 0
  | y :: l => (if y.q = x.q ∧ y.p = x.p + y.a - x.a then y.n else 0) + movN x l
theorem movX_an (x : Ext) (q p : Int) (y : Ext) : (movX x q p y).a = y.a ∧ (movX x q p y).n = y.n := by unfold movX; split <;> exact ⟨rfl, rfl⟩
theorem mov_rise {x : Ext} {q p : Int} (hx : mayE x) (hp : plS q p) : ∀ {I : List Ext} {lo : Int}, x.a ≤ lo → Rise lo I → endE lo I ≤ x.a + x.n → Rise lo (I.map (movX x q p)) ∧ endE lo (I.map (movX x q p)) = endE lo I
  | [], _, _, _, _ => ⟨trivial, rfl⟩
  | y :: I, lo, hlo, ⟨h1, h2, h3⟩, he => by
    obtain ⟨ha, hn⟩ := movX_an x q p y
    have h2' := h2
    unfold inE at h2'
    have ih := mov_rise (I := I) (lo := y.a + y.n) hx hp (by omega) h3 he
    refine ⟨⟨by rw [ha]; exact h1, ?_, by rw [ha, hn]; exact ih.1⟩, by simp only [List.map_cons, endE, ha, hn]; exact ih.2⟩
    have h4 := h3.le_end
    simp only [endE] at he
    unfold movX
    split
    · unfold mayE mayS plS at hx
      unfold plS at hp
      unfold inE
      dsimp only at hx ⊢
      omega
    · exact h2
theorem IsMap.move {l l2 A I K : List Ext} {σ : Sig} {x : Ext} {q p : Int} (h : IsMap l σ) (hA : Aro l (x.a, x.n) A I K) (hJ : JnI 0 (A ++ I.map (movX x q p) ++ K) (A ++ I.map (movX x q p) ++ K).length l2) : IsMap l2 (movS σ x q p) := by
  have key : ∀ t s, x.a ≤ t → t < x.a + x.n → (movS σ x q p t = some s ↔ atE (I.map (movX x q p)) t s) := by
    intro t s h1 h2
    have hI : ∀ u, σ t = some u ↔ atE I t u := fun u => by rw [hA.atI, h.at_]; simp [h1, h2]
    constructor
    · intro hm
      unfold movS at hm
      split at hm
      · rename_i hc
        obtain ⟨y, hy, y1, y2, y3⟩ := (hI _).1 hc.2.2
        simp only [Prod.mk.injEq] at y3
        refine ⟨movX x q p y, List.mem_map.2 ⟨y, hy, rfl⟩, by rw [(movX_an x q p y).1]; exact y1, by rw [(movX_an x q p y).1, (movX_an x q p y).2]; exact y2, ?_⟩
        cases hm
        unfold movX
        rw [if_pos ⟨by omega, by omega⟩]
        simp only [Prod.mk.injEq, true_and]
        omega
      · rename_i hc
        obtain ⟨y, hy, y1, y2, y3⟩ := (hI _).1 hm
        refine ⟨movX x q p y, List.mem_map.2 ⟨y, hy, rfl⟩, by rw [(movX_an x q p y).1]; exact y1, by rw [(movX_an x q p y).1, (movX_an x q p y).2]; exact y2, ?_⟩
        unfold movX
        rw [if_neg]
        · exact y3
        · rintro ⟨e1, e2⟩
          refine hc ⟨h1, h2, ?_⟩
          rw [hm, y3, e1]
          congr 2
          omega
    · rintro ⟨z, hz, z1, z2, z3⟩
      obtain ⟨y, hy, rfl⟩ := List.mem_map.1 hz
      rw [(movX_an x q p y).1] at z1
      rw [(movX_an x q p y).1, (movX_an x q p y).2] at z2
      have hσ : σ t = some (y.q, y.p + (t - y.a)) := (hI _).2 ⟨y, hy, z1, z2, rfl⟩
      unfold movS
      by_cases e : y.q = x.q ∧ y.p = x.p + y.a - x.a
      · rw [if_pos ⟨h1, h2, by rw [hσ, e.1]; congr 2; omega⟩]
        unfold movX at z3
        rw [if_pos e] at z3
        rw [z3]
        dsimp only
        congr 2
        omega
      · unfold movX at z3
        rw [if_neg e] at z3
        rw [if_neg, hσ, z3]
        rintro ⟨_, _, e2⟩
        rw [hσ] at e2
        simp only [Option.some.injEq, Prod.mk.injEq] at e2
        exact e ⟨e2.1, by omega⟩
  refine h.laid hA hJ (fun t s ht => ?_) (fun t s h1 h2 => key t s h1 h2) (fun t ht => ?_)
  · obtain ⟨z, hz, z1, z2, _⟩ := ht
    obtain ⟨y, hy, rfl⟩ := List.mem_map.1 hz
    rw [(movX_an x q p y).1] at z1
    rw [(movX_an x q p y).1, (movX_an x q p y).2] at z2
    exact ((hA.atI t (y.q, y.p + (t - y.a))).1 ⟨y, hy, z1, z2, rfl⟩).2
  · unfold movS
    rw [if_neg]
    rintro ⟨h1, h2, _⟩
    exact ht ⟨h1, h2⟩
theorem movN_take (x : Ext) : ∀ (l : List Ext) (i : Nat) (y : Ext), l[i]? = some y → movN x (l.take (i + 1)) = movN x (l.take i) + (if y.q = x.q ∧ y.p = x.p + y.a - x.a then y.n else 0)
  | z :: l, 0, y, h => by
    simp at h
    subst h
    simp [movN]
  | z :: l, i + 1, y, h => by
    have := movN_take x l i y (by simpa using h)
    simp only [List.take_succ_cons, movN]
    omega
def sumE : List Ext → Int
  | [] => 0
  | x :: l => x.n + sumE l
theorem sumE_take : ∀ (l : List Ext) (i : Nat) (y : Ext), l[i]? = some y → sumE (l.take (i + 1)) = sumE (l.take i) + y.n
  | z :: l, 0, y, h => by
    simp at h
    subst h
    simp [sumE]
  | z :: l, i + 1, y, h => by
    have := sumE_take l i y (by simpa using h)
    simp only [List.take_succ_cons, sumE]
    omega
theorem sumE_le : ∀ {l : List Ext} {lo : Int}, Rise lo l → 0 ≤ sumE l ∧ lo + sumE l ≤ endE lo l
  | [], lo, _ => ⟨Int.le_refl _, by simp [sumE, endE]⟩
  | x :: l, lo, ⟨h1, h2, h3⟩ => by
    have ih := sumE_le h3
    unfold inE at h2
    simp only [sumE, endE]
    omega
theorem movN_le (x : Ext) : ∀ {l : List Ext} {lo : Int}, Rise lo l → 0 ≤ movN x l ∧ movN x l ≤ sumE l
  | [], lo, _ => ⟨Int.le_refl _, Int.le_refl _⟩
  | y :: l, lo, ⟨h1, h2, h3⟩ => by
    have ih := movN_le x h3
    unfold inE at h2
    simp only [sumE, movN]
    split <;> omega
theorem Rise.endTop : ∀ {l : List Ext} {lo : Int}, Rise lo l → lo ≤ 65536 → endE lo l ≤ 65536
  | [], lo, _, h => h
  | x :: l, lo, ⟨h1, h2, h3⟩, _ => by
    unfold inE at h2
    exact Rise.endTop (l := l) h3 (by omega)
theorem Rise.take : ∀ {l : List Ext} {lo : Int} (i : Nat), Rise lo l → Rise lo (l.take i)
  | [], _, _, _ => by simp [Rise]
  | x :: l, lo, 0, _ => trivial
  | x :: l, lo, i + 1, ⟨h1, h2, h3⟩ => ⟨h1, h2, Rise.take i h3⟩
end Go.Lx

/- Plain laws on the document's map of sectors: puts, cuts, moves, what is found; how many. -/
namespace Go.Lx
set_option linter.unusedVariables false
set_option linter.unusedSimpArgs false

/-- What the document's map tells. -/
structure IsRef (is : List Bool) (sp : List Sp) (σ : Sig) : Prop where
  l1 : is.length = 300
  l2 : sp.length = 300
  at_ : ∀ k : Nat, k < 300 → σ k = if is[k]? = some true then sp[k]? else none
  out : ∀ t : Int, t < 0 ∨ 300 ≤ t → σ t = none

theorem IsRef.empty : IsRef (List.replicate 300 false) (List.replicate 300 (0, 0)) noneS := by
  refine ⟨List.length_replicate, List.length_replicate, fun k hk => ?_, fun _ _ => rfl⟩
  rw [if_neg]
  · rfl
  · rw [List.getElem?_replicate, if_pos hk]; simp

theorem updE_zero (σ : Sig) (x : Ext) : updE σ ⟨x.a, 0, x.q, x.p⟩ = σ := by
  funext t
  unfold updE
  rw [if_neg (by dsimp only; omega)]
theorem cutE_zero (σ : Sig) (a : Int) : cutE σ (a, 0) = σ := by
  funext t
  unfold cutE
  rw [if_neg (by dsimp only; omega)]
theorem movS_zero (σ : Sig) (x : Ext) (q p : Int) : movS σ ⟨x.a, 0, x.q, x.p⟩ q p = σ := by
  funext t
  unfold movS
  rw [if_neg (by dsimp only; omega)]
theorem IsRef.put {is : List Bool} {sp : List Sp} {σ : Sig} {x : Ext} {i k : Nat} (h : IsRef is sp (updE σ ⟨x.a, i, x.q, x.p⟩)) (hk : x.a + i = k) (h3 : k < 300) : IsRef (is.set k true) (sp.set k (x.q, x.p + i)) (updE σ ⟨x.a, (i : Int) + 1, x.q, x.p⟩) := by
  have l1 := h.l1
  have l2 := h.l2
  refine ⟨by simp [l1], by simp [l2], fun j hj => ?_, fun t ht => ?_⟩
  · by_cases e : j = k
    · subst e
      rw [List.getElem?_set_self (by omega), List.getElem?_set_self (by omega), if_pos rfl]
      unfold updE
      rw [if_pos (by dsimp only; omega)]
      dsimp only
      congr 2
      omega
    · rw [List.getElem?_set_ne (Ne.symm e), List.getElem?_set_ne (Ne.symm e), ← h.at_ j hj]
      unfold updE
      have : (x.a ≤ (j : Int) ∧ (j : Int) < x.a + (i + 1)) ↔ (x.a ≤ (j : Int) ∧ (j : Int) < x.a + i) := by omega
      simp only [this]
  · have := h.out t ht
    unfold updE at this ⊢
    dsimp only at this ⊢
    split at this
    · cases this
    · rw [if_neg (by omega), this]
theorem IsRef.cut {is : List Bool} {sp : List Sp} {σ : Sig} {a : Int} {i k : Nat} (h : IsRef is sp (cutE σ (a, i))) (hk : a + i = k) (h3 : k < 300) : IsRef (is.set k false) sp (cutE σ (a, (i : Int) + 1)) := by
  have l1 := h.l1
  refine ⟨by simp [l1], h.l2, fun j hj => ?_, fun t ht => ?_⟩
  · by_cases e : j = k
    · subst e
      rw [List.getElem?_set_self (by omega), if_neg (by simp)]
      unfold cutE
      rw [if_pos (by dsimp only; omega)]
    · rw [List.getElem?_set_ne (Ne.symm e), ← h.at_ j hj]
      unfold cutE
      have : (a ≤ (j : Int) ∧ (j : Int) < a + (i + 1)) ↔ (a ≤ (j : Int) ∧ (j : Int) < a + i) := by omega
      simp only [this]
  · have := h.out t ht
    unfold cutE at this ⊢
    dsimp only at this ⊢
    split
    · rfl
    · split at this
      · omega
      · exact this
theorem IsRef.here {is : List Bool} {sp : List Sp} {σ : Sig} {k : Nat} (h : IsRef is sp σ) (h3 : k < 300) : ∃ (b : Bool) (s : Sp), is[k]? = some b ∧ sp[k]? = some s ∧ σ k = if b then some s else none := by
  have l1 := h.l1
  have l2 := h.l2
  obtain ⟨b, hb⟩ := get_lt (l := is) (k := k) (by omega)
  obtain ⟨s, hs⟩ := get_lt (l := sp) (k := k) (by omega)
  refine ⟨b, s, hb, hs, ?_⟩
  rw [h.at_ k h3, hb, hs]
  cases b <;> rfl
theorem movS_same {σ : Sig} {x : Ext} {q p : Int} {i : Nat} (hn : σ (x.a + i) ≠ some (x.q, x.p + i)) : movS σ ⟨x.a, (i : Int) + 1, x.q, x.p⟩ q p = movS σ ⟨x.a, i, x.q, x.p⟩ q p := by
  funext t
  unfold movS
  by_cases e : t = x.a + i
  · subst e
    rw [if_neg, if_neg]
    · dsimp only; omega
    · rintro ⟨_, _, h⟩
      dsimp only at h
      rw [show x.p + (x.a + (i : Int) - x.a) = x.p + i by omega] at h
      exact hn h
  · have : (x.a ≤ t ∧ t < x.a + ((i : Int) + 1)) ↔ (x.a ≤ t ∧ t < x.a + i) := by omega
    simp only [← and_assoc, this]
theorem movS_at {σ : Sig} {x : Ext} {q p : Int} {i : Nat} : movS σ ⟨x.a, i, x.q, x.p⟩ q p (x.a + i) = σ (x.a + i) := by
  unfold movS
  rw [if_neg (by dsimp only; omega)]
theorem IsRef.mov {is : List Bool} {sp : List Sp} {σ : Sig} {x : Ext} {q p : Int} {i k : Nat} (h : IsRef is sp (movS σ ⟨x.a, i, x.q, x.p⟩ q p)) (hk : x.a + i = k) (h3 : k < 300) (hs : σ k = some (x.q, x.p + i)) : IsRef is (sp.set k (q, p + i)) (movS σ ⟨x.a, (i : Int) + 1, x.q, x.p⟩ q p) := by
  have l1 := h.l1
  have l2 := h.l2
  refine ⟨l1, by simp [l2], fun j hj => ?_, fun t ht => ?_⟩
  · by_cases e : j = k
    · subst e
      have hb : is[j]? = some true := by
        have h1 := h.at_ j h3
        rw [← hk, movS_at, hk, hs] at h1
        split at h1
        · assumption
        · cases h1
      rw [hb, List.getElem?_set_self (by omega), if_pos rfl]
      unfold movS
      rw [if_pos ⟨by dsimp only; omega, by dsimp only; omega, by rw [hs]; dsimp only; congr 2; omega⟩]
      congr 2
      dsimp only
      omega
    · rw [List.getElem?_set_ne (Ne.symm e), ← h.at_ j hj]
      unfold movS
      have : (x.a ≤ (j : Int) ∧ (j : Int) < x.a + (i + 1)) ↔ (x.a ≤ (j : Int) ∧ (j : Int) < x.a + i) := by omega
      simp only [← and_assoc, this]
  · have := h.out t ht
    unfold movS at this ⊢
    dsimp only at this ⊢
    split at this
    · cases this
    · rw [if_neg, this]
      rintro ⟨h1, h2, h4⟩
      rw [this] at h4
      cases h4

/-! ### what is found, sector by sector -/
def OkS (σ : Sig) : Prop := ∀ t s, σ t = some s → 0 ≤ t ∧ t < 65536 ∧ 0 ≤ s.1 ∧ s.1 < 1099511627776 ∧ 0 ≤ s.2 ∧ s.2 < 1099511693312
theorem IsMap.ok {l : List Ext} {σ : Sig} (h : IsMap l σ) : OkS σ := fun t s hs => by
  obtain ⟨x, hx, h1, h2, rfl⟩ := (h.at_ t s).2 hs
  have := (h.rise.mem hx).1
  unfold inE at this
  dsimp only
  omega
theorem IsFind.zero (σ : Sig) (a : Int) : IsFind σ (a, 0) [] := ⟨trivial, trivial, fun t p => by simp only [atE_nil, false_iff]; omega⟩
theorem IsFind.skip {σ : Sig} {a n : Int} {o : List Ext} (h : IsFind σ (a, n) o) (hs : σ (a + n) = none) : IsFind σ (a, n + 1) o := ⟨h.rise, h.nf, fun t p => by
  rw [h.at_]
  dsimp only
  refine and_congr_right (fun h1 => and_congr_right (fun h2 => ?_))
  constructor
  · omega
  · intro h3
    by_cases e : t = a + n
    · subst e; rw [hs] at h1; cases h1
    · omega⟩
theorem IsFind.ends {σ : Sig} {a n : Int} {o : List Ext} (h : IsFind σ (a, n) o) (hn : 0 ≤ n) : endE a o ≤ a + n := by
  refine endE_le o a (by omega) (fun x hx => ?_)
  have h1 := (h.rise.mem hx).1
  unfold inE at h1
  have h2 := ((h.at_ (x.a + x.n - 1) (x.q, x.p + (x.a + x.n - 1 - x.a))).1 ⟨x, hx, by omega, by omega, rfl⟩).2
  dsimp only at h2
  omega
theorem IsFind.push {σ : Sig} {a n : Int} {o : List Ext} {s : Int × Int} (h : IsFind σ (a, n) o) (hn : 0 ≤ n) (ha : 0 ≤ a) (hσ : OkS σ) (hs : σ (a + n) = some s) (hl : ∀ y, o[o.length - 1]? = some y → ¬ Fol y ⟨a + n, 1, s.1, s.2⟩) : IsFind σ (a, n + 1) (o ++ [⟨a + n, 1, s.1, s.2⟩]) := by
  have hb := hσ _ _ hs
  have he := h.ends hn
  refine ⟨rise_append.2 ⟨h.rise, by dsimp only; exact he, by unfold inE; dsimp only; omega, trivial⟩, ?_, fun t p => ?_⟩
  · rcases List.eq_nil_or_concat o with rfl | ⟨o', y, rfl⟩
    · trivial
    · have h2 := h.nf
      rw [List.concat_eq_append] at h2 hl ⊢
      rw [List.append_assoc]
      exact nf_snoc2.2 ⟨h2, hl y (by simp)⟩
  · rw [atE_append, h.at_, atE_one]
    dsimp only
    constructor
    · rintro (⟨h1, h2, h3⟩ | ⟨h1, h2, h3⟩)
      · exact ⟨h1, h2, by omega⟩
      · obtain rfl : t = a + n := by omega
        exact ⟨by rw [hs, h3]; congr 2; simp, by omega, by omega⟩
    · rintro ⟨h1, h2, h3⟩
      by_cases e : t = a + n
      · subst e
        rw [hs] at h1
        cases h1
        exact .inr ⟨by omega, by omega, by simp⟩
      · exact .inl ⟨h1, h2, by omega⟩
theorem IsFind.grow {σ : Sig} {a n : Int} {o : List Ext} {y : Ext} {s : Int × Int} (h : IsFind σ (a, n) o) (hn : 0 ≤ n) (ha : 0 ≤ a) (hσ : OkS σ) (hs : σ (a + n) = some s) (hy : o[o.length - 1]? = some y) (hf : Fol y ⟨a + n, 1, s.1, s.2⟩) : IsFind σ (a, n + 1) (o.set (o.length - 1) ⟨y.a, y.n + 1, y.q, y.p⟩) := by
  have hb := hσ _ _ hs
  have he := h.ends hn
  rcases List.eq_nil_or_concat o with rfl | ⟨o', z, rfl⟩
  · cases hy
  rw [List.concat_eq_append] at *
  have e1 : (o' ++ [z]).length - 1 = o'.length := by simp
  rw [e1] at hy ⊢
  simp at hy
  subst hy
  have e2 : (o' ++ [z]).set o'.length ⟨z.a, z.n + 1, z.q, z.p⟩ = o' ++ [⟨z.a, z.n + 1, z.q, z.p⟩] := by simp
  rw [e2]
  have hr := rise_append.1 h.rise
  have hz := hr.2.2.1
  obtain ⟨f1, f2, f3⟩ := hf
  dsimp only at f1 f2 f3
  have hnew : inE ⟨z.a, z.n + 1, z.q, z.p⟩ := by unfold inE at hz ⊢; dsimp only; omega
  refine ⟨rise_append.2 ⟨hr.1, hr.2.1, hnew, trivial⟩, ?_, fun t p => ?_⟩
  · rcases List.eq_nil_or_concat o' with rfl | ⟨o'', w, rfl⟩
    · trivial
    · have h1 := h.nf
      rw [List.concat_eq_append] at h1 ⊢
      rw [List.append_assoc] at h1 ⊢
      have h2 := nf_snoc2.1 h1
      exact nf_snoc2.2 ⟨h2.1, fun q => h2.2 ⟨q.1, q.2.1, q.2.2⟩⟩
  · have hat := h.at_ t p
    rw [atE_append, atE_one] at hat ⊢
    unfold inE at hz
    dsimp only at hat ⊢
    by_cases e : t = a + n
    · subst e
      constructor
      · rintro (h1 | ⟨h1, h2, h3⟩)
        · have := (hat.1 (.inl h1)).2.2; omega
        · refine ⟨?_, by omega, by omega⟩
          rw [hs, h3]
          congr 1
          refine Prod.ext ?_ ?_ <;> dsimp only <;> omega
      · rintro ⟨h1, _, _⟩
        rw [hs] at h1
        cases h1
        refine .inr ⟨by omega, by omega, ?_⟩
        refine Prod.ext ?_ ?_ <;> dsimp only <;> omega
    · constructor
      · rintro (h1 | ⟨h1, h2, h3⟩)
        · have := hat.1 (.inl h1); exact ⟨this.1, this.2.1, by omega⟩
        · have := hat.1 (.inr ⟨h1, by omega, h3⟩); exact ⟨this.1, this.2.1, by omega⟩
      · rintro ⟨h1, h2, h3⟩
        rcases hat.2 ⟨h1, h2, by omega⟩ with h4 | ⟨h4, h5, h6⟩
        · exact .inl h4
        · exact .inr ⟨h4, by omega, h6⟩

/-! ### how many -/
def cntI (f : Int → Bool) (a : Int) : Nat → Int
  | 0 => 0
  | n + 1 => cntI f a n + if f (a + n) then 1 else 0
theorem cntI_add (f : Int → Bool) (a : Int) (m : Nat) : ∀ n : Nat, cntI f a (m + n) = cntI f a m + cntI f (a + m) n
  | 0 => by simp [cntI]
  | n + 1 => by
    rw [← Nat.add_assoc]
    simp only [cntI, cntI_add f a m n]
    rw [show a + ((m + n : Nat) : Int) = a + m + n by omega]
    omega
theorem cntI_none {f : Int → Bool} {a : Int} : ∀ {n : Nat}, (∀ t, a ≤ t → t < a + n → f t = false) → cntI f a n = 0
  | 0, _ => rfl
  | n + 1, h => by simp only [cntI]; rw [cntI_none (fun t h1 h2 => h t h1 (by omega)), h (a + n) (by omega) (by omega)]; rfl
theorem cntI_all {f : Int → Bool} {a : Int} : ∀ {n : Nat}, (∀ t, a ≤ t → t < a + n → f t = true) → cntI f a n = n
  | 0, _ => rfl
  | n + 1, h => by simp only [cntI]; rw [cntI_all (fun t h1 h2 => h t h1 (by omega)), h (a + n) (by omega) (by omega)]; simp
theorem cntI_bd (f : Int → Bool) (a : Int) : ∀ n : Nat, 0 ≤ cntI f a n ∧ cntI f a n ≤ n
  | 0 => by simp [cntI]
  | n + 1 => by
    have := cntI_bd f a n
    simp only [cntI]
    split <;> omega
/-- Those of some extents that are wanted, by their sectors. -/
def sumC (c : Ext → Bool) : List Ext → Int
  | [] => 0
  | y :: l => (if c y then y.n else 0) + sumC c l
theorem sumC_cnt (c : Ext → Bool) (f : Int → Bool) : ∀ (l : List Ext) (lo : Int) (n : Nat), Rise lo l → endE lo l ≤ lo + n → (∀ t, lo ≤ t → t < lo + n → (f t = true ↔ ∃ y ∈ l, y.a ≤ t ∧ t < y.a + y.n ∧ c y = true)) → sumC c l = cntI f lo n
  | [], lo, n, _, _, h => by
    rw [cntI_none]
    · rfl
    · intro t h1 h2
      have := h t h1 h2
      cases hf : f t with
      | false => rfl
      | true => obtain ⟨y, hy, _⟩ := this.1 hf; cases hy
  | x :: l, lo, n, ⟨r1, r2, r3⟩, he, h => by
    have r2' := r2
    unfold inE at r2'
    have hle := r3.le_end
    simp only [endE] at he
    obtain ⟨m1, hm1⟩ : ∃ m : Nat, x.a - lo = m := ⟨(x.a - lo).toNat, by omega⟩
    obtain ⟨m2, hm2⟩ : ∃ m : Nat, x.n = m := ⟨x.n.toNat, by omega⟩
    obtain ⟨m3, hm3⟩ : ∃ m : Nat, n = m1 + (m2 + m) := ⟨n - m1 - m2, by omega⟩
    subst hm3
    have ih := sumC_cnt c f l (x.a + x.n) m3 r3 (by omega) (fun t h1 h2 => by
      rw [h t (by omega) (by omega)]
      constructor
      · rintro ⟨y, hy, h3, h4, h5⟩
        rcases List.mem_cons.1 hy with rfl | hy
        · omega
        · exact ⟨y, hy, h3, h4, h5⟩
      · rintro ⟨y, hy, h3⟩
        exact ⟨y, List.mem_cons_of_mem _ hy, h3⟩)
    rw [cntI_add, cntI_add]
    have e0 : cntI f lo m1 = 0 := cntI_none (fun t h1 h2 => by
      cases hf : f t with
      | false => rfl
      | true =>
        obtain ⟨y, hy, h3, h4, _⟩ := (h t h1 (by omega)).1 hf
        rcases List.mem_cons.1 hy with rfl | hy
        · omega
        · have := (r3.mem hy).2; omega)
    have e1 : ∀ t, x.a ≤ t → t < x.a + x.n → (f t = true ↔ c x = true) := fun t h1 h2 => by
      rw [h t (by omega) (by omega)]
      constructor
      · rintro ⟨y, hy, h3, h4, h5⟩
        rcases List.mem_cons.1 hy with rfl | hy
        · exact h5
        · have := (r3.mem hy).2; omega
      · intro h5
        exact ⟨x, List.mem_cons_self .., h1, h2, h5⟩
    simp only [sumC, ih, e0]
    rw [show lo + (m1 : Int) = x.a by omega, show x.a + (m2 : Int) = x.a + x.n by omega]
    cases hc : c x with
    | true =>
      rw [cntI_all (a := x.a) (n := m2) (fun t h1 h2 => (e1 t h1 (by omega)).2 hc), if_pos rfl]
      omega
    | false =>
      rw [cntI_none (a := x.a) (n := m2) (fun t h1 h2 => by cases hf : f t with | false => rfl | true => rw [(e1 t h1 (by omega)).1 hf] at hc; cases hc)]
      simp
theorem sumE_sumC : ∀ l : List Ext, sumE l = sumC (fun _ => true) l
  | [] => rfl
  | x :: l => by simp [sumE, sumC, sumE_sumC l]
theorem movN_sumC (x : Ext) : ∀ l : List Ext, movN x l = sumC (fun y => decide (y.q = x.q ∧ y.p = x.p + y.a - x.a)) l
  | [] => rfl
  | y :: l => by simp [movN, sumC, movN_sumC x l]
def hasS (σ : Sig) (t : Int) : Bool := (σ t).isSome
theorem IsMap.sectors {l : List Ext} {σ : Sig} (h : IsMap l σ) : sumE l = cntI (hasS σ) 0 65536 := by
  rw [sumE_sumC]
  refine sumC_cnt _ _ l 0 65536 h.rise (by have := h.rise.endTop (by omega); omega) (fun t _ _ => ?_)
  unfold hasS
  rw [Option.isSome_iff_exists]
  constructor
  · rintro ⟨p, hp⟩
    obtain ⟨y, hy, h1, h2, _⟩ := (h.at_ t p).2 hp
    exact ⟨y, hy, h1, h2, rfl⟩
  · rintro ⟨y, hy, h1, h2, _⟩
    exact ⟨_, (h.at_ t _).1 ⟨y, hy, h1, h2, rfl⟩⟩
theorem IsFind.sectors {I : List Ext} {σ : Sig} {a : Int} {n : Nat} (h : IsFind σ (a, n) I) : sumE I = cntI (hasS σ) a n := by
  rw [sumE_sumC]
  refine sumC_cnt _ _ I a n h.rise (h.ends (by omega)) (fun t h1 h2 => ?_)
  unfold hasS
  rw [Option.isSome_iff_exists]
  constructor
  · rintro ⟨p, hp⟩
    obtain ⟨y, hy, h1, h2, _⟩ := (h.at_ t p).2 ⟨hp, h1, h2⟩
    exact ⟨y, hy, h1, h2, rfl⟩
  · rintro ⟨y, hy, h1, h2, _⟩
    exact ⟨_, ((h.at_ t _).1 ⟨y, hy, h1, h2, rfl⟩).1⟩
def isMov (σ : Sig) (x : Ext) (t : Int) : Bool := decide (σ t = some (x.q, x.p + (t - x.a)))
theorem IsFind.moved {I : List Ext} {σ : Sig} {x : Ext} {n : Nat} (h : IsFind σ (x.a, n) I) : movN x I = cntI (isMov σ x) x.a n := by
  rw [movN_sumC]
  refine sumC_cnt _ _ I x.a n h.rise (h.ends (by omega)) (fun t h1 h2 => ?_)
  unfold isMov
  rw [decide_eq_true_iff]
  constructor
  · intro hp
    obtain ⟨y, hy, h3, h4, h5⟩ := (h.at_ t _).2 ⟨hp, h1, h2⟩
    simp only [Prod.mk.injEq] at h5
    exact ⟨y, hy, h3, h4, by simp only [decide_eq_true_eq]; omega⟩
  · rintro ⟨y, hy, h3, h4, h5⟩
    simp only [decide_eq_true_eq] at h5
    have := ((h.at_ t _).1 ⟨y, hy, h3, h4, rfl⟩).1
    rw [this]
    congr 1
    refine Prod.ext ?_ ?_ <;> dsimp only <;> omega
theorem IsRef.sectors {is : List Bool} {sp : List Sp} {σ : Sig} (h : IsRef is sp σ) : cntI (hasS σ) 0 65536 = cntI (hasS σ) 0 300 := by
  rw [show (65536 : Nat) = 300 + 65236 by rfl, cntI_add, cntI_none (n := 65236), Int.add_zero]
  intro t h1 h2
  unfold hasS
  rw [h.out t (by omega)]
  rfl
end Go.Lx

/- What comes of a map when an object's parts and cuts come to be in it: plain laws. -/
namespace Go.Lx
set_option linter.unusedVariables false
set_option linter.unusedSimpArgs false

/-- A part, put or moved. -/
def stepS (sq : Int) (σ : Sig) (p : Int) (x : Ext) : Sig := if PutE x then updE σ ⟨x.a, x.n, sq, p⟩ else movS σ ⟨x.a, x.n, x.q, x.p⟩ sq p
def partsN (σ : Sig) (sq : Int) (l : List Ext) : Nat → Sig
  | 0 => σ
  | i + 1 => match l[i]? with
    | some x => stepS sq (partsN σ sq l i) (secs (l.take i)) x
    | none => partsN σ sq l i
theorem partsN_succ {σ : Sig} {sq : Int} {l : List Ext} {i : Nat} {x : Ext} (hx : l[i]? = some x) : partsN σ sq l (i + 1) = stepS sq (partsN σ sq l i) (secs (l.take i)) x := by
  simp only [partsN, hx]
def applyS (σ : Sig) (o : Dob) : Sig := partsN (o.cs.foldl cutE σ) o.sq o.ps o.ps.length
open Classical in
/-- What one tells and another one does not tell so, where P. -/
noncomputable def dS (P : Int → Prop) (σ τ : Sig) : Sig := fun t => if P t ∧ σ t = τ t then none else σ t
def covT (l : List Ext) (t : Int) : Prop := ∃ x ∈ l, x.a ≤ t ∧ t < x.a + x.n
theorem dS_at {P Q : Int → Prop} {σ τ : Sig} {t : Int} (h : P t ↔ Q t) : dS P σ τ t = dS Q σ τ t := by
  unfold dS
  by_cases hP : P t ∧ σ t = τ t
  · rw [if_pos hP, if_pos ⟨h.1 hP.1, hP.2⟩]
  · rw [if_neg hP, if_neg (fun g => hP ⟨h.2 g.1, g.2⟩)]
theorem dS_off {P Q : Int → Prop} {σ τ : Sig} {t : Int} (h : σ t = none) : dS P σ τ t = dS Q σ τ t := by
  unfold dS
  rw [h]
  split <;> split <;> rfl
noncomputable def difS (σ τ : Sig) : Sig := dS (fun _ => True) σ τ
theorem dS_all {l : List Ext} {σ τ : Sig} (h : IsMap l τ) : dS (covT l) σ τ = difS σ τ := by
  funext t
  unfold difS dS
  by_cases hc : covT l t
  · by_cases he : σ t = τ t
    · rw [if_pos ⟨hc, he⟩, if_pos ⟨trivial, he⟩]
    · rw [if_neg (fun h => he h.2), if_neg (fun h => he h.2)]
  · have hn : τ t = none := by
      cases ht : τ t with
      | none => rfl
      | some s =>
        obtain ⟨x, hx, h1, h2, _⟩ := (h.at_ t s).2 ht
        exact absurd ⟨x, hx, h1, h2⟩ hc
    rw [if_neg (fun h => hc h.1)]
    by_cases he : σ t = τ t
    · rw [if_pos ⟨trivial, he⟩, he, hn]
    · rw [if_neg (fun h => he h.2)]
/-- One more of what was found is cut, or is not. -/
theorem dS_step {P : Int → Prop} {σ τ : Sig} {x y : Ext} {I : List Ext} {k : Nat} (hI : IsFind (dS P σ τ) (x.a, x.n) I) (hy : I[k]? = some y) (hx : ∀ t, x.a ≤ t → t < x.a + x.n → τ t = some (x.q, x.p + (t - x.a))) :
    (y.q = x.q ∧ y.p - y.a = x.p - x.a → cutE (dS (fun t => P t ∨ covT (I.take k) t) σ τ) (y.a, y.n) = dS (fun t => P t ∨ covT (I.take (k + 1)) t) σ τ) ∧
    (¬ (y.q = x.q ∧ y.p - y.a = x.p - x.a) → dS (fun t => P t ∨ covT (I.take k) t) σ τ = dS (fun t => P t ∨ covT (I.take (k + 1)) t) σ τ) := by
  have hym := List.mem_of_getElem? hy
  have hcov : ∀ t, covT (I.take (k + 1)) t ↔ covT (I.take k) t ∨ (y.a ≤ t ∧ t < y.a + y.n) := fun t => by
    rw [take_snocE hy]
    unfold covT
    constructor
    · rintro ⟨z, hz, h1⟩
      rcases List.mem_append.1 hz with q | q
      · exact .inl ⟨z, q, h1⟩
      · obtain rfl : z = y := by simpa using q
        exact .inr h1
    · rintro (⟨z, hz, h1⟩ | h1)
      · exact ⟨z, List.mem_append_left _ hz, h1⟩
      · exact ⟨y, by simp, h1⟩
  have hval : ∀ t, y.a ≤ t → t < y.a + y.n → σ t = some (y.q, y.p + (t - y.a)) ∧ τ t = some (x.q, x.p + (t - x.a)) := fun t h1 h2 => by
    obtain ⟨h3, h4, h5⟩ := (hI.at_ t (y.q, y.p + (t - y.a))).1 ⟨y, hym, h1, h2, rfl⟩
    refine ⟨?_, hx t h4 h5⟩
    unfold dS at h3
    split at h3
    · cases h3
    · exact h3
  constructor
  · intro hq
    funext t
    unfold cutE
    by_cases ht : y.a ≤ t ∧ t < y.a + y.n
    · rw [if_pos ht]
      obtain ⟨h1, h2⟩ := hval t ht.1 ht.2
      unfold dS
      rw [if_pos]
      refine ⟨.inr ((hcov t).2 (.inr ht)), ?_⟩
      rw [h1, h2]
      congr 2
      · exact hq.1
      · omega
    · rw [if_neg ht]
      have hiff : covT (I.take (k + 1)) t ↔ covT (I.take k) t := by
        rw [hcov t]
        exact ⟨fun h => h.resolve_right ht, .inl⟩
      exact dS_at (or_congr Iff.rfl hiff.symm)
  · intro hq
    funext t
    by_cases ht : y.a ≤ t ∧ t < y.a + y.n
    · obtain ⟨h1, h2⟩ := hval t ht.1 ht.2
      have hne : σ t ≠ τ t := fun h => hq (by
        rw [h1, h2] at h
        have h3 := Option.some.inj h
        have h4 := congrArg Prod.fst h3
        have h5 := congrArg Prod.snd h3
        simp only at h4 h5
        exact ⟨h4, by omega⟩)
      unfold dS
      rw [if_neg (fun h => hne h.2), if_neg (fun h => hne h.2)]
    · have hiff : covT (I.take (k + 1)) t ↔ covT (I.take k) t := by
        rw [hcov t]
        exact ⟨fun h => h.resolve_right ht, .inl⟩
      exact dS_at (or_congr Iff.rfl hiff.symm)
/-- All of a span's was looked at. -/
theorem dS_span {P : Int → Prop} {σ τ : Sig} {x : Ext} {I : List Ext} {l : List Ext} {i : Nat} (hI : IsFind (dS P σ τ) (x.a, x.n) I) (hP : ∀ t, P t ↔ covT (l.take i) t) (hx : l[i]? = some x) : dS (fun t => P t ∨ covT I t) σ τ = dS (covT (l.take (i + 1))) σ τ := by
  have hcov : ∀ t, covT (l.take (i + 1)) t ↔ covT (l.take i) t ∨ (x.a ≤ t ∧ t < x.a + x.n) := fun t => by
    rw [take_snocE hx]
    unfold covT
    constructor
    · rintro ⟨z, hz, h1⟩
      rcases List.mem_append.1 hz with q | q
      · exact .inl ⟨z, q, h1⟩
      · obtain rfl : z = x := by simpa using q
        exact .inr h1
    · rintro (⟨z, hz, h1⟩ | h1)
      · exact ⟨z, List.mem_append_left _ hz, h1⟩
      · exact ⟨x, by simp, h1⟩
  have hin : ∀ t, covT I t → x.a ≤ t ∧ t < x.a + x.n := fun t ⟨y, hy, h1, h2⟩ => ((hI.at_ t (y.q, y.p + (t - y.a))).1 ⟨y, hy, h1, h2, rfl⟩).2
  funext t
  by_cases hp : P t
  · exact dS_at ⟨fun _ => (hcov t).2 (.inl ((hP t).1 hp)), fun _ => .inl hp⟩
  · by_cases hs : x.a ≤ t ∧ t < x.a + x.n
    · by_cases hc : covT I t
      · exact dS_at ⟨fun _ => (hcov t).2 (.inr hs), fun _ => .inr hc⟩
      · refine dS_off ?_
        cases hσ : σ t with
        | none => rfl
        | some s =>
          have h3 : dS P σ τ t = some s := by
            unfold dS
            rw [if_neg (fun h => hp h.1), hσ]
          obtain ⟨y, hy, h4, h5, _⟩ := (hI.at_ t s).2 ⟨h3, hs⟩
          exact absurd ⟨y, hy, h4, h5⟩ hc
    · refine dS_at ?_
      rw [hcov t]
      constructor
      · rintro (h | h)
        · exact absurd h hp
        · exact absurd (hin t h) hs
      · rintro (h | h)
        · exact .inl ((hP t).2 h)
        · exact absurd h hs
theorem dS_zero {l : List Ext} {σ τ : Sig} : dS (covT (l.take 0)) σ τ = σ := by
  funext t
  unfold dS
  rw [if_neg]
  rintro ⟨⟨x, hx, _⟩, _⟩
  simp at hx
theorem dS_in {P : Int → Prop} {I : List Ext} {σ τ : Sig} : dS (fun t => P t ∨ covT (I.take 0) t) σ τ = dS P σ τ := by
  funext t
  refine dS_at ⟨fun h => h.resolve_right ?_, .inl⟩
  rintro ⟨x, hx, _⟩
  simp at hx
theorem extsF_get (sq : Int) : ∀ (l : List Ext) (p : Int) (i : Nat) (x : Ext), l[i]? = some x → (extsF sq p l)[i]? = some ⟨x.a, x.n, sq, p + secs (l.take i)⟩
  | [], _, _, _, h => by simp at h
  | y :: l, p, 0, x, h => by
    simp at h
    subst h
    simp [extsF, secs]
  | y :: l, p, i + 1, x, h => by
    have h' : l[i]? = some x := by simpa using h
    have := extsF_get sq l (p + y.n) i x h'
    simp only [extsF, List.getElem?_cons_succ, this, List.take_succ_cons]
    rw [show secs (y :: l.take i) = y.n + secs (l.take i) by simp [secs], Int.add_assoc]
theorem difS_out {σ τ : Sig} {t : Int} (h : σ t = none) : difS σ τ t = none := by
  unfold difS dS
  split
  · rfl
  · exact h
theorem find_may {σ : Sig} {s : Sp} {I : List Ext} {y : Ext} (h : IsFind σ s I) (hy : y ∈ I) : mayS (y.a, y.n) := by
  have h1 := (h.rise.mem hy).1
  unfold inE at h1
  unfold mayS
  dsimp only
  omega
end Go.Lx
