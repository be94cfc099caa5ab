/- Texts Ee Qb Qc, merged: a claim has at most 60 files. -/
import Derived.Test.YtakoppmiegjjlaaGreatDoorM4
import Derived.Test.YtakoppmiegjjlaaGreatDoorM19
/- Package extmap's walks, part e: the extents ahead of a span, in it, and behind it. -/
namespace Go.Lx
open Go.Proofs
set_option linter.unusedVariables false
set_option linter.unusedSimpArgs false
set_option maxRecDepth 20000
set_option maxHeartbeats 2000000

/-- Where a span parts extents. -/
structure Parts (l : List Ext) (s : Sp) (k m : Nat) : Prop where
  km : k ≤ m
  ml : m ≤ l.length
  lo : ∀ j x, j < k → l[j]? = some x → x.a + x.n ≤ s.1
  mid : ∀ j x, k ≤ j → l[j]? = some x → s.1 < x.a + x.n
  in_ : ∀ j x, k ≤ j → j < m → l[j]? = some x → x.a < s.1 + s.2
  hi : ∀ x, l[m]? = some x → s.1 + s.2 ≤ x.a
structure AroI where
  i : Nat
  pa : Option Addr
  nA : Nat
  ca : Nat
  pi : Option Addr
  nI : Nat
  ci : Nat
  pb : Option Addr
  nB : Nat
  cb : Nat
def valE (x : Ext) : Value := .agg #[.int .i64 x.a, .int .i64 x.n, .int .i64 x.q, .int .i64 x.p]
end Go.Lx

/- Plain laws on extents, part b: what a span parts extents into. -/
namespace Go.Lx
set_option linter.unusedVariables false
set_option linter.unusedSimpArgs false

/-- What a span parts extents into. -/
structure Aro (l : List Ext) (s : Sp) (A I B : List Ext) : Prop where
  riseA : Rise 0 A
  endA : endE 0 A ≤ s.1
  riseI : Rise s.1 I
  endI : endE s.1 I ≤ s.1 + s.2
  riseB : Rise (s.1 + s.2) B
  atA : ∀ t p, atE A t p ↔ atE l t p ∧ t < s.1
  atI : ∀ t p, atE I t p ↔ atE l t p ∧ s.1 ≤ t ∧ t < s.1 + s.2
  atB : ∀ t p, atE B t p ↔ atE l t p ∧ s.1 + s.2 ≤ t
  nfI : NF l → NF I
theorem endE_le {b : Int} : ∀ (l : List Ext) (lo : Int), lo ≤ b → (∀ x ∈ l, x.a + x.n ≤ b) → endE lo l ≤ b
  | [], lo, h, _ => h
  | x :: l, lo, _, h => endE_le l _ (h x (List.mem_cons_self ..)) (fun y hy => h y (List.mem_cons_of_mem _ hy))
end Go.Lx

/- Plain laws on maps of sectors: what a map's extents tell, sector by sector; puts, cuts, moves. -/
namespace Go.Lx
set_option linter.unusedVariables false
set_option linter.unusedSimpArgs false

abbrev Sig := Int → Option (Int × Int)
structure IsMap (l : List Ext) (σ : Sig) : Prop where
  rise : Rise 0 l
  nf : NF l
  at_ : ∀ t p, atE l t p ↔ σ t = some p
structure IsFind (σ : Sig) (s : Sp) (I : List Ext) : Prop where
  rise : Rise s.1 I
  nf : NF I
  at_ : ∀ t p, atE I t p ↔ σ t = some p ∧ s.1 ≤ t ∧ t < s.1 + s.2
def updE (σ : Sig) (x : Ext) : Sig := fun t => if x.a ≤ t ∧ t < x.a + x.n then some (x.q, x.p + (t - x.a)) else σ t
def cutE (σ : Sig) (s : Sp) : Sig := fun t => if s.1 ≤ t ∧ t < s.1 + s.2 then none else σ t
def noneS : Sig := fun _ => none
theorem IsMap.empty : IsMap [] noneS := ⟨trivial, trivial, fun t p => by simp [noneS, atE]⟩
theorem IsMap.find {l I A K : List Ext} {σ : Sig} {s : Sp} (h : IsMap l σ) (hA : Aro l s A I K) : IsFind σ s I := ⟨hA.riseI, hA.nfI h.nf, fun t p => by rw [hA.atI, h.at_]⟩
theorem IsMap.laid {l l2 xs A I K : List Ext} {σ σ' : Sig} {s : Sp} (h : IsMap l σ) (hA : Aro l s A I K) (hJ : JnI 0 (A ++ xs ++ K) (A ++ xs ++ K).length l2) (hx : ∀ t p, atE xs t p → s.1 ≤ t ∧ t < s.1 + s.2)
    (hin : ∀ t p, s.1 ≤ t → t < s.1 + s.2 → (σ' t = some p ↔ atE xs t p)) (hout : ∀ t, ¬ (s.1 ≤ t ∧ t < s.1 + s.2) → σ' t = σ t) : IsMap l2 σ' := by
  refine ⟨hJ.rise, hJ.nf, fun t p => ?_⟩
  rw [hJ.at_, List.take_length, atE_append, atE_append, hA.atA, hA.atB, h.at_]
  by_cases ht : s.1 ≤ t ∧ t < s.1 + s.2
  · rw [hin t p ht.1 ht.2]
    constructor
    · rintro ((⟨_, h1⟩ | h1) | ⟨_, h1⟩)
      · omega
      · exact h1
      · omega
    · exact fun h1 => .inl (.inr h1)
  · rw [hout t ht]
    constructor
    · rintro ((⟨h1, _⟩ | h1) | ⟨h1, _⟩)
      · exact h1
      · exact absurd (hx t p h1) ht
      · exact h1
    · intro h1
      by_cases h2 : t < s.1
      · exact .inl (.inl ⟨h1, h2⟩)
      · exact .inr ⟨h1, by omega⟩
theorem IsMap.put {l l2 A I K : List Ext} {σ : Sig} {x : Ext} (h : IsMap l σ) (hA : Aro l (x.a, x.n) A I K) (hJ : JnI 0 (A ++ [x] ++ K) (A ++ [x] ++ K).length l2) : IsMap l2 (updE σ x) := by
  refine h.laid hA hJ (fun t p ht => ?_) (fun t p h1 h2 => ?_) (fun t ht => ?_)
  · rw [atE_one] at ht; exact ⟨ht.1, ht.2.1⟩
  · simp only at h1 h2
    rw [atE_one, updE, if_pos ⟨h1, h2⟩]
    simp [h1, h2, eq_comm]
  · simp only at ht
    rw [updE, if_neg ht]
theorem IsMap.cut {l l2 A I K : List Ext} {σ : Sig} {s : Sp} (h : IsMap l σ) (hA : Aro l s A I K) (hJ : JnI 0 (A ++ [] ++ K) (A ++ [] ++ K).length l2) : IsMap l2 (cutE σ s) := by
  refine h.laid hA hJ (fun t p ht => absurd ht atE_nil) (fun t p h1 h2 => ?_) (fun t ht => by rw [cutE, if_neg ht])
  rw [cutE, if_pos ⟨h1, h2⟩]
  simp [atE_nil]

/-! ### many puts, many cuts, one behind the other -/
def FindsP : Sig → List Ext → List Ext → Prop
  | _, [], L => L = []
  | σ, x :: xs, L => ∃ I L', IsFind σ (x.a, x.n) I ∧ L = I ++ L' ∧ FindsP (updE σ x) xs L'
def FindsC : Sig → List Sp → List Ext → Prop
  | _, [], L => L = []
  | σ, s :: ss, L => ∃ I L', IsFind σ s I ∧ L = I ++ L' ∧ FindsC (cutE σ s) ss L'
theorem FindsP.snoc : ∀ {xs : List Ext} {σ : Sig} {L I : List Ext} {x : Ext}, FindsP σ xs L → IsFind (xs.foldl updE σ) (x.a, x.n) I → FindsP σ (xs ++ [x]) (L ++ I)
  | [], σ, L, I, x, h, hI => by
    simp only [FindsP] at h
    subst h
    exact ⟨I, [], hI, by simp, rfl⟩
  | y :: xs, σ, L, I, x, ⟨I1, L', h1, h2, h3⟩, hI => by
    subst h2
    exact ⟨I1, L' ++ I, h1, by simp, FindsP.snoc h3 hI⟩
theorem FindsC.snoc : ∀ {xs : List Sp} {σ : Sig} {L I : List Ext} {x : Sp}, FindsC σ xs L → IsFind (xs.foldl cutE σ) x I → FindsC σ (xs ++ [x]) (L ++ I)
  | [], σ, L, I, x, h, hI => by
    simp only [FindsC] at h
    subst h
    exact ⟨I, [], hI, by simp, rfl⟩
  | y :: xs, σ, L, I, x, ⟨I1, L', h1, h2, h3⟩, hI => by
    subst h2
    exact ⟨I1, L' ++ I, h1, by simp, FindsC.snoc h3 hI⟩
/-! ### a move -/
def movS (σ : Sig) (x : Ext) (q p : Int) : Sig := fun t => if x.a ≤ t ∧ t < x.a + x.n ∧ σ t = some (x.q, x.p + (t - x.a)) then some (q, p + (t - x.a)) else σ t
def movX (x : Ext) (q p : Int) (y : Ext) : Ext := if y.q = x.q ∧ y.p = x.p + y.a - x.a then ⟨y.a, y.n, q, p + y.a - x.a⟩ else y
def movN (x : Ext) : List Ext → Int
  | [] => 0
  | y :: l => (if y.q = x.q ∧ y.p = x.p + y.a - x.a then y.n else 0) + movN x l
theorem movX_an (x : Ext) (q p : Int) (y : Ext) : (movX x q p y).a = y.a ∧ (movX x q p y).n = y.n := by unfold movX; split <;> exact ⟨rfl, rfl⟩
theorem IsMap.move {l l2 A I K : List Ext} {σ : Sig} {x : Ext} {q p : Int} (h : IsMap l σ) (hA : Aro l (x.a, x.n) A I K) (hJ : JnI 0 (A ++ I.map (movX x q p) ++ K) (A ++ I.map (movX x q p) ++ K).length l2) : IsMap l2 (movS σ x q p) := by
  have key : ∀ t s, x.a ≤ t → t < x.a + x.n → (movS σ x q p t = some s ↔ atE (I.map (movX x q p)) t s) := by
    intro t s h1 h2
    have hI : ∀ u, σ t = some u ↔ atE I t u := fun u => by rw [hA.atI, h.at_]; simp [h1, h2]
    constructor
    · intro hm
      unfold movS at hm
      split at hm
      · rename_i hc
        obtain ⟨y, hy, y1, y2, y3⟩ := (hI _).1 hc.2.2
        simp only [Prod.mk.injEq] at y3
        refine ⟨movX x q p y, List.mem_map.2 ⟨y, hy, rfl⟩, by rw [(movX_an x q p y).1]; exact y1, by rw [(movX_an x q p y).1, (movX_an x q p y).2]; exact y2, ?_⟩
        cases hm
        unfold movX
        rw [if_pos ⟨by omega, by omega⟩]
        simp only [Prod.mk.injEq, true_and]
        omega
      · rename_i hc
        obtain ⟨y, hy, y1, y2, y3⟩ := (hI _).1 hm
        refine ⟨movX x q p y, List.mem_map.2 ⟨y, hy, rfl⟩, by rw [(movX_an x q p y).1]; exact y1, by rw [(movX_an x q p y).1, (movX_an x q p y).2]; exact y2, ?_⟩
        unfold movX
        rw [if_neg]
        · exact y3
        · rintro ⟨e1, e2⟩
          refine hc ⟨h1, h2, ?_⟩
          rw [hm, y3, e1]
          congr 2
          omega
    · rintro ⟨z, hz, z1, z2, z3⟩
      obtain ⟨y, hy, rfl⟩ := List.mem_map.1 hz
      rw [(movX_an x q p y).1] at z1
      rw [(movX_an x q p y).1, (movX_an x q p y).2] at z2
      have hσ : σ t = some (y.q, y.p + (t - y.a)) := (hI _).2 ⟨y, hy, z1, z2, rfl⟩
      unfold movS
      by_cases e : y.q = x.q ∧ y.p = x.p + y.a - x.a
      · rw [if_pos ⟨h1, h2, by rw [hσ, e.1]; congr 2; omega⟩]
        unfold movX at z3
        rw [if_pos e] at z3
        rw [z3]
        dsimp only
        congr 2
        omega
      · unfold movX at z3
        rw [if_neg e] at z3
        rw [if_neg, hσ, z3]
        rintro ⟨_, _, e2⟩
        rw [hσ] at e2
        simp only [Option.some.injEq, Prod.mk.injEq] at e2
        exact e ⟨e2.1, by omega⟩
  refine h.laid hA hJ (fun t s ht => ?_) (fun t s h1 h2 => key t s h1 h2) (fun t ht => ?_)
  · obtain ⟨z, hz, z1, z2, _⟩ := ht
    obtain ⟨y, hy, rfl⟩ := List.mem_map.1 hz
    rw [(movX_an x q p y).1] at z1
    rw [(movX_an x q p y).1, (movX_an x q p y).2] at z2
    exact ((hA.atI t (y.q, y.p + (t - y.a))).1 ⟨y, hy, z1, z2, rfl⟩).2
  · unfold movS
    rw [if_neg]
    rintro ⟨h1, h2, _⟩
    exact ht ⟨h1, h2⟩
def sumE : List Ext → Int
  | [] => 0
  | x :: l => x.n + sumE l
theorem Rise.endTop : ∀ {l : List Ext} {lo : Int}, Rise lo l → lo ≤ 65536 → endE lo l ≤ 65536
  | [], lo, _, h => h
  | x :: l, lo, ⟨h1, h2, h3⟩, _ => by
    unfold inE at h2
    exact Rise.endTop (l := l) h3 (by omega)
theorem Rise.take : ∀ {l : List Ext} {lo : Int} (i : Nat), Rise lo l → Rise lo (l.take i)
  | [], _, _, _ => by simp [Rise]
  | x :: l, lo, 0, _ => trivial
  | x :: l, lo, i + 1, ⟨h1, h2, h3⟩ => ⟨h1, h2, Rise.take i h3⟩
end Go.Lx
