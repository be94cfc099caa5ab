/- Texts Pa Sa Sb, merged: a claim has at most 60 files. -/
import Derived.Test.YthgnlbibdiileaaGreatM1
import Derived.Test.YthgnlbibdiileaaGreatM4
/- Plain laws on lists of spans: no Go in it. -/
namespace Go.Lx
set_option linter.unusedVariables false
set_option linter.unusedSimpArgs false

abbrev Sp := Int × Int
def mayS (x : Int × Int) : Prop := 0 ≤ x.1 ∧ x.1 ≤ 65536 ∧ 1 ≤ x.2 ∧ x.2 ≤ 65536 - x.1
instance (x : Int × Int) : Decidable (mayS x) := by unfold mayS; infer_instance
theorem get_lt {α : Type} {l : List α} {k : Nat} (h : k < l.length) : ∃ x, l[k]? = some x := ⟨l[k], List.getElem?_eq_getElem h⟩
theorem lt_of_get {α : Type} {l : List α} {k : Nat} {x : α} (h : l[k]? = some x) : k < l.length := (List.getElem?_eq_some_iff.1 h).1

def SetOK (l : List Sp) (n : Nat) : Prop := ∀ k x, k < n → l[k]? = some x → mayS x ∧ ∀ y, 0 < k → l[k - 1]? = some y → y.1 + y.2 < x.1
theorem SetOK.step {l : List Sp} {k : Nat} {x : Sp} (h : SetOK l k) (hx : l[k]? = some x) (hm : mayS x) (hy : ∀ y, 0 < k → l[k - 1]? = some y → y.1 + y.2 < x.1) : SetOK l (k + 1) := by
  intro j z hj hz
  by_cases e : j = k
  · subst e; rw [hx] at hz; cases hz; exact ⟨hm, hy⟩
  · exact h j z (by omega) hz
theorem SetOK.may {l : List Sp} {n k : Nat} {x : Sp} (h : SetOK l n) (hk : k < n) (hx : l[k]? = some x) : mayS x := (h k x hk hx).1
theorem SetOK.mem {l : List Sp} {n : Nat} {x : Sp} (h : SetOK l n) (hl : l.length = n) (hx : x ∈ l) : mayS x := by
  obtain ⟨k, hk⟩ := List.mem_iff_getElem?.1 hx
  exact h.may (by have := lt_of_get hk; omega) hk
theorem SetOK.nil (n : Nat) : SetOK [] n := fun k x _ h => by cases h
theorem SetOK.one {x : Sp} (h : mayS x) : SetOK [x] 1 := fun k y hk hy => by
  obtain rfl : k = 0 := by omega
  simp at hy
  subst hy
  exact ⟨h, fun _ h => by omega⟩
/-- All that stand ahead end ahead. -/
theorem SetOK.lt {l : List Sp} {n : Nat} (h : SetOK l n) : ∀ (k j : Nat) (x y : Sp), j < k → k < n → l[j]? = some x → l[k]? = some y → x.1 + x.2 < y.1
  | 0, j, _, _, hj, _, _, _ => by omega
  | k + 1, j, x, y, hj, hk, hx, hy => by
    have hkl := lt_of_get hy
    obtain ⟨z, hz⟩ := get_lt (l := l) (k := k) (by omega)
    have h1 := (h (k + 1) y hk hy).2 z (by omega) (by simpa using hz)
    by_cases e : j = k
    · subst e; rw [hx] at hz; cases hz; exact h1
    · have h2 := SetOK.lt h k j x z (by omega) (by omega) hx hz
      have h3 := h.may (by omega : k < n) hz
      unfold mayS at h3
      omega
theorem SetOK.snoc {o : List Sp} {p : Sp} (h : SetOK o o.length) (he : ∀ x ∈ o, x.1 + x.2 < p.1) (hp : mayS p) : SetOK (o ++ [p]) (o ++ [p]).length := by
  intro k x hk hx
  by_cases hko : k < o.length
  · rw [List.getElem?_append_left hko] at hx
    obtain ⟨h1, h2⟩ := h k x hko hx
    refine ⟨h1, fun y h0 hy => h2 y h0 ?_⟩
    rw [List.getElem?_append_left (by omega)] at hy
    exact hy
  · simp at hk
    obtain rfl : k = o.length := by omega
    simp at hx
    subst hx
    refine ⟨hp, fun y h0 hy => ?_⟩
    rw [List.getElem?_append_left (by omega)] at hy
    exact he y (List.mem_of_getElem? hy)

def inS (l : List Sp) (t : Int) : Prop := ∃ x ∈ l, x.1 ≤ t ∧ t < x.1 + x.2
theorem inS_nil (t : Int) : ¬ inS [] t := fun ⟨_, h, _⟩ => by cases h
theorem inS_append {a b : List Sp} {t : Int} : inS (a ++ b) t ↔ inS a t ∨ inS b t := by
  unfold inS
  constructor
  · rintro ⟨x, hx, h⟩
    rcases List.mem_append.1 hx with h1 | h1
    · exact .inl ⟨x, h1, h⟩
    · exact .inr ⟨x, h1, h⟩
  · rintro (⟨x, hx, h⟩ | ⟨x, hx, h⟩)
    · exact ⟨x, List.mem_append.2 (.inl hx), h⟩
    · exact ⟨x, List.mem_append.2 (.inr hx), h⟩
theorem inS_one {x : Sp} {t : Int} : inS [x] t ↔ x.1 ≤ t ∧ t < x.1 + x.2 := by simp [inS]
theorem inS_cons {x : Sp} {l : List Sp} {t : Int} : inS (x :: l) t ↔ (x.1 ≤ t ∧ t < x.1 + x.2) ∨ inS l t := by simp [inS]
def inTo (l : List Sp) (i : Nat) (t : Int) : Prop := ∃ j x, j < i ∧ l[j]? = some x ∧ x.1 ≤ t ∧ t < x.1 + x.2
theorem inTo_all {l : List Sp} {t : Int} : inTo l l.length t ↔ inS l t := by
  constructor
  · rintro ⟨j, x, _, hx, h⟩; exact ⟨x, List.mem_of_getElem? hx, h⟩
  · rintro ⟨x, hx, h⟩
    obtain ⟨j, hj⟩ := List.mem_iff_getElem?.1 hx
    exact ⟨j, x, lt_of_get hj, hj, h⟩
theorem inTo_succ {l : List Sp} {i : Nat} {s : Sp} {t : Int} (hs : l[i]? = some s) : inTo l (i + 1) t ↔ inTo l i t ∨ (s.1 ≤ t ∧ t < s.1 + s.2) := by
  constructor
  · rintro ⟨j, x, hj, hx, h⟩
    by_cases e : j = i
    · subst e; rw [hs] at hx; cases hx; exact .inr h
    · exact .inl ⟨j, x, by omega, hx, h⟩
  · rintro (⟨j, x, hj, hx, h⟩ | h)
    · exact ⟨j, x, by omega, hx, h⟩
    · exact ⟨i, s, by omega, hs, h⟩

/-! ### a set without another one -/
structure OutI (l off : List Sp) (i k : Nat) (o : List Sp) : Prop where
  hi : i ≤ l.length
  hk : k ≤ off.length
  len : o.length ≤ i + k
  set : SetOK o o.length
  ends : ∀ x ∈ o, ∀ y, l[i]? = some y → x.1 + x.2 < y.1
  mem : ∀ t, inS o t ↔ inTo l i t ∧ ¬ inS off t
  past : ∀ j x y, j < k → off[j]? = some x → l[i]? = some y → x.1 + x.2 ≤ y.1
structure InI (l off : List Sp) (i k : Nat) (o : List Sp) (s : Sp) (at_ : Int) (e : Nat) : Prop where
  hs : l[i]? = some s
  hk : k ≤ off.length
  len : o.length ≤ i + k + e
  set : SetOK o o.length
  ends : ∀ x ∈ o, x.1 + x.2 < at_ ∨ (e = 1 ∧ x.1 + x.2 ≤ at_)
  lo : s.1 ≤ at_
  hi : at_ ≤ s.1 + s.2
  mem : ∀ t, inS o t ↔ (inTo l i t ∨ (s.1 ≤ t ∧ t < at_)) ∧ ¬ inS off t
  past : ∀ j x, j < k → off[j]? = some x → x.1 + x.2 ≤ at_

variable {l off o : List Sp} {i k : Nat} {s x : Sp} {at_ : Int}
theorem OutI.start : OutI l off 0 0 [] := ⟨Nat.zero_le _, Nat.zero_le _, by simp, SetOK.nil _, fun _ h => (by cases h), fun t => ⟨fun h => absurd h (inS_nil t), fun ⟨⟨j, _, hj, _⟩, _⟩ => absurd hj (Nat.not_lt_zero j)⟩, fun j _ _ hj => absurd hj (Nat.not_lt_zero j)⟩
theorem OutI.enter (h : OutI l off i k o) (hl : SetOK l l.length) (hs : l[i]? = some s) : InI l off i k o s s.1 0 := by
  have hm := hl.may (lt_of_get hs) hs
  unfold mayS at hm
  refine ⟨hs, h.hk, h.len, h.set, fun x hx => .inl (h.ends x hx s hs), Int.le_refl _, by omega, fun t => ?_, fun j x hj hx => h.past j x s hj hx hs⟩
  rw [h.mem t]
  constructor
  · rintro ⟨h1, h2⟩; exact ⟨.inl h1, h2⟩
  · rintro ⟨h1 | h1, h2⟩
    · exact ⟨h1, h2⟩
    · omega
theorem InI.skip (h : InI l off i k o s at_ 0) (hx : off[k]? = some x) (hle : x.1 + x.2 ≤ at_) : InI l off i (k + 1) o s at_ 0 :=
  ⟨h.hs, lt_of_get hx, by have := h.len; omega, h.set, h.ends, h.lo, h.hi, h.mem, fun j y hj hy => by
    by_cases e : j = k
    · subst e; rw [hx] at hy; cases hy; exact hle
    · exact h.past j y (by omega) hy⟩
/-- What is not in off ahead of off[k]. -/
theorem not_in_off (ho : SetOK off off.length) {lo hi : Int} (hpast : ∀ j y, j < k → off[j]? = some y → y.1 + y.2 ≤ lo) (hnext : ∀ y, off[k]? = some y → hi ≤ y.1) : ∀ t, lo ≤ t → t < hi → ¬ inS off t := by
  rintro t h1 h2 ⟨y, hy, h3, h4⟩
  obtain ⟨j, hj⟩ := List.mem_iff_getElem?.1 hy
  have hjl := lt_of_get hj
  rcases Nat.lt_trichotomy j k with h | h | h
  · have := hpast j y h hj; omega
  · subst h; have := hnext y hj; omega
  · obtain ⟨z, hz⟩ := get_lt (l := off) (k := k) (by omega)
    have a1 := hnext z hz
    have a2 := ho.lt j k z y h hjl hz hj
    have a3 := ho.may (by omega : k < off.length) hz
    unfold mayS at a3
    omega
theorem InI.cutAt (h : InI l off i k o s at_ 0) (ho : SetOK off off.length) (hs' : mayS s) (hx : off[k]? = some x) (h1 : x.1 < s.1 + s.2) (h2 : at_ < x.1 + x.2) (h3 : at_ < x.1) :
    InI l off i k (o ++ [(at_, x.1 - at_)]) s (min (x.1 + x.2) (s.1 + s.2)) 1 ∧ (x.1 + x.2 ≤ s.1 + s.2 → InI l off i (k + 1) (o ++ [(at_, x.1 - at_)]) s (min (x.1 + x.2) (s.1 + s.2)) 0) := by
  have hxm := ho.may (lt_of_get hx) hx
  have hno := not_in_off (k := k) (lo := at_) (hi := x.1) ho (fun j y hj hy => h.past j y hj hy) (fun y hy => by rw [hx] at hy; cases hy; omega)
  have hset : SetOK (o ++ [(at_, x.1 - at_)]) (o ++ [(at_, x.1 - at_)]).length := h.set.snoc (fun y hy => by have := h.ends y hy; dsimp only; omega) (by
    have := h.lo; unfold mayS at *; dsimp only; omega)
  have hends : ∀ y ∈ o ++ [(at_, x.1 - at_)], y.1 + y.2 ≤ x.1 := by
    intro y hy
    rcases List.mem_append.1 hy with hy | hy
    · have := h.ends y hy; omega
    · simp at hy; subst hy; dsimp only; omega
  unfold mayS at hxm hs'
  have hlo := h.lo
  have hmem : ∀ m : Int, m ≤ x.1 + x.2 → x.1 < m → m ≤ s.1 + s.2 → ∀ t, inS (o ++ [(at_, x.1 - at_)]) t ↔ (inTo l i t ∨ (s.1 ≤ t ∧ t < m)) ∧ ¬ inS off t := by
    intro m hm hm2 hm3 t
    rw [inS_append, h.mem t, inS_one]
    dsimp only
    constructor
    · rintro (⟨h4, h5⟩ | h4)
      · exact ⟨h4.imp id (fun h => by omega), h5⟩
      · exact ⟨.inr (by omega), hno t (by omega) (by omega)⟩
    · rintro ⟨h4 | h4, h5⟩
      · exact .inl ⟨.inl h4, h5⟩
      · by_cases q : t < at_
        · exact .inl ⟨.inr (by omega), h5⟩
        · refine .inr ⟨by omega, ?_⟩
          rcases Int.lt_or_le t x.1 with q2 | q2
          · omega
          · exact absurd ⟨x, List.mem_of_getElem? hx, q2, by omega⟩ h5
  have hl := h.len
  refine ⟨⟨h.hs, h.hk, by simp; omega, hset, fun y hy => ?_, by omega, by omega, hmem _ (by omega) (by omega) (by omega), fun j y hj hy => by have := h.past j y hj hy; omega⟩, fun hle => ⟨h.hs, lt_of_get hx, by simp; omega, hset, fun y hy => ?_, by omega, by omega, hmem _ (by omega) (by omega) (by omega), fun j y hj hy => ?_⟩⟩
  · have := hends y hy; omega
  · have := hends y hy; omega
  · by_cases e : j = k
    · subst e; rw [hx] at hy; cases hy; omega
    · have := h.past j y (by omega) hy; omega
theorem InI.cutIn (h : InI l off i k o s at_ 0) (ho : SetOK off off.length) (hs' : mayS s) (hx : off[k]? = some x) (h1 : x.1 < s.1 + s.2) (h2 : at_ < x.1 + x.2) (h3 : x.1 ≤ at_) :
    InI l off i k o s (min (x.1 + x.2) (s.1 + s.2)) 1 ∧ (x.1 + x.2 ≤ s.1 + s.2 → InI l off i (k + 1) o s (min (x.1 + x.2) (s.1 + s.2)) 0) := by
  have hxm := ho.may (lt_of_get hx) hx
  unfold mayS at hxm hs'
  have hlo := h.lo
  have hhi := h.hi
  have hmem : ∀ m : Int, m ≤ x.1 + x.2 → at_ ≤ m → ∀ t, inS o t ↔ (inTo l i t ∨ (s.1 ≤ t ∧ t < m)) ∧ ¬ inS off t := by
    intro m hm hm2 t
    rw [h.mem t]
    constructor
    · rintro ⟨h4, h5⟩
      exact ⟨h4.imp id (fun h => by omega), h5⟩
    · rintro ⟨h4 | h4, h5⟩
      · exact ⟨.inl h4, h5⟩
      · by_cases q : t < at_
        · exact ⟨.inr (by omega), h5⟩
        · exact absurd ⟨x, List.mem_of_getElem? hx, by omega, by omega⟩ h5
  have hl := h.len
  refine ⟨⟨h.hs, h.hk, by omega, h.set, fun y hy => ?_, by omega, by omega, hmem _ (by omega) (by omega), fun j y hj hy => by have := h.past j y hj hy; omega⟩, fun hle => ⟨h.hs, lt_of_get hx, by omega, h.set, fun y hy => ?_, by omega, by omega, hmem _ (by omega) (by omega), fun j y hj hy => ?_⟩⟩
  · have := h.ends y hy; omega
  · have := h.ends y hy; omega
  · by_cases e : j = k
    · subst e; rw [hx] at hy; cases hy; omega
    · have := h.past j y (by omega) hy; omega
theorem InI.next0 {e : Nat} (h : InI l off i k o s at_ e) (he : e ≤ 1) (hl : SetOK l l.length) (ha : s.1 + s.2 ≤ at_) : OutI l off (i + 1) k o := by
  have hi := h.hi
  have hlen := h.len
  refine ⟨lt_of_get h.hs, h.hk, by omega, h.set, fun x hx y hy => ?_, fun t => ?_, fun j x y hj hx hy => ?_⟩
  · have a1 := hl.lt (i + 1) i s y (by omega) (lt_of_get hy) h.hs hy
    have := h.ends x hx
    omega
  · rw [h.mem t, inTo_succ h.hs]
    have : at_ = s.1 + s.2 := by omega
    rw [this]
  · have a1 := hl.lt (i + 1) i s y (by omega) (lt_of_get hy) h.hs hy
    have := h.past j x hj hx
    omega
theorem InI.next1 (h : InI l off i k o s at_ 0) (hl : SetOK l l.length) (ho : SetOK off off.length) (ha : at_ < s.1 + s.2) (hend : ∀ y, off[k]? = some y → s.1 + s.2 ≤ y.1) : OutI l off (i + 1) k (o ++ [(at_, s.1 + s.2 - at_)]) := by
  have hno := not_in_off (k := k) (lo := at_) (hi := s.1 + s.2) ho (fun j y hj hy => h.past j y hj hy) hend
  have hlo := h.lo
  have hlen := h.len
  have hm := hl.may (lt_of_get h.hs) h.hs
  unfold mayS at hm
  refine ⟨lt_of_get h.hs, h.hk, by simp; omega, h.set.snoc (fun y hy => by have := h.ends y hy; dsimp only; omega) (by unfold mayS; dsimp only; omega), fun x hx y hy => ?_, fun t => ?_, fun j x y hj hx hy => ?_⟩
  · have a1 := hl.lt (i + 1) i s y (by omega) (lt_of_get hy) h.hs hy
    rcases List.mem_append.1 hx with hx | hx
    · have := h.ends x hx; omega
    · simp at hx; subst hx; dsimp only; omega
  · rw [inS_append, h.mem t, inS_one, inTo_succ h.hs]
    dsimp only
    constructor
    · rintro (⟨h4, h5⟩ | h4)
      · exact ⟨h4.imp id (fun h => by omega), h5⟩
      · exact ⟨.inr (by omega), hno t (by omega) (by omega)⟩
    · rintro ⟨h4 | h4, h5⟩
      · exact .inl ⟨.inl h4, h5⟩
      · by_cases q : t < at_
        · exact .inl ⟨.inr (by omega), h5⟩
        · exact .inr (by omega)
  · have a1 := hl.lt (i + 1) i s y (by omega) (lt_of_get hy) h.hs hy
    have := h.past j x hj hx
    omega
end Go.Lx

/- Package span's walks, part a. -/
namespace Go.Lx
open Go.Proofs
set_option linter.unusedVariables false
set_option linter.unusedSimpArgs false

def encS1 (x : Sp) : List Value := [.int .i64 x.1, .int .i64 x.2]
def encS (xs : List Sp) : List Value := xs.flatMap encS1
theorem Rd.sp {w : World} {a : Option Addr} {n c m : Nat} {xs : List Sp} {x : Sp} (h : Rd w 2 a n c (encS xs)) (hx : xs[m]? = some x) : ∀ j u, [Value.int .i64 x.1, .int .i64 x.2][j]? = some u → w.cell? ((el a (m * 2)).add j) = some u := Rd.elem (f := encS1) h (fun _ => rfl) hx
theorem Rd.spLen {w : World} {a : Option Addr} {n c : Nat} {xs : List Sp} (h : Rd w 2 a n c (encS xs)) : xs.length = n := by
  have := h.len
  rw [encS, flat_len encS1 2 (fun _ => rfl)] at this
  omega
theorem Rd.bd {w : World} {sz : Nat} {a : Option Addr} {n c : Nat} {cs : List Value} (h : Rd w sz a n c cs) : n ≤ 9223372036854775807 := by
  have h1 := h.le
  have h2 := h.mx
  unfold maxLen at h2
  omega

theorem End_spec (a n : Int) (w : World) : Spec Tryz.prog 37 #[.agg #[.int .i64 a, .int .i64 n]] w (fun _ => False) (fun v A => v = .int .i64 (IntKind.i64.wrap (a + n)) ∧ A = []) := by
  refine Spec.enter (args := [.agg #[.int .i64 a, .int .i64 n]]) (A := []) Tryz.func37 rfl Tryz.ntmps37 rfl (fun _ h => h) ?_
  ((refine X.st (by kernel_rfl) ?_<;>repeat' first|refine Z.p rfl ?_|refine XL.boxN rfl rfl rfl rfl (by intro g; infer_instance) (fun g => ?_)|refine XL.box1 rfl rfl rfl rfl rfl (by intro g; infer_instance) (fun g => ?_)|refine XL.nn ?_)<;>(refine X.st (by kernel_rfl) ?_<;>repeat' first|refine Z.p rfl ?_|refine Z.fa rfl rfl rfl ?_|refine Z.l1 rfl rfl rfl ?_|refine Z.lN rfl rfl rfl ?_|refine Z.lP rfl rfl rfl ?_|refine Z.g rfl (by omega) ?_|refine Z.w rfl ?_|refine XL.nn ?_)<;>(apply X.r1 Tryz.results37 (RV.tmp rfl);(focus (exact ⟨rfl, rfl⟩));exact fun _=>Conf.takes))

theorem between_spec (a n : Int) (w : World) : Spec Tryz.prog 136 #[.int .i64 a, .int .i64 n] w (fun _ => False) (fun v A => v = .agg #[.int .i64 a, .int .i64 (IntKind.i64.wrap (n - a))] ∧ A = []) := by
  refine Spec.enter (args := [.int .i64 a, .int .i64 n]) (A := []) Tryz.func136 rfl Tryz.ntmps136 rfl (fun _ h => h) ?_
  ((refine X.st (by kernel_rfl) ?_<;>repeat' first|refine XL.alloc rfl rfl rfl (by intro g; infer_instance) (fun g => ?_)|refine XL.nn ?_)<;>(refine X.st (by kernel_rfl) ?_<;>repeat' first|refine Z.p rfl ?_|refine Z.g rfl (by omega) ?_|refine Z.w rfl ?_|refine Z.bd rfl rfl ?_|refine XL.store1 rfl rfl rfl rfl rfl ?_|refine XL.storeN rfl rfl rfl rfl rfl rfl ?_|refine XL.storeP rfl rfl rfl rfl rfl rfl ?_|refine XL.nn ?_)<;>(apply X.r1 Tryz.results136 (RV.of rfl);(focus (exact ⟨rfl, rfl⟩));exact fun _=>Conf.takes))

theorem May_spec (a n : Int) (w : World) : Spec Tryz.prog 114 #[.agg #[.int .i64 a, .int .i64 n]] w (fun _ => False) (fun v A => v = .int .i64 (if mayS (a, n) then 0 else 1) ∧ A = []) := by
  refine Spec.enter (args := [.agg #[.int .i64 a, .int .i64 n]]) (A := []) Tryz.func114 rfl Tryz.ntmps114 rfl (fun _ h => h) ?_
  ((refine X.st (by kernel_rfl) ?_<;>repeat' first|refine Z.p rfl ?_|refine XL.boxN rfl rfl rfl rfl (by intro g; infer_instance) (fun g => ?_)|refine XL.box1 rfl rfl rfl rfl rfl (by intro g; infer_instance) (fun g => ?_)|refine XL.nn ?_)<;>refine X.seq ?_<;>((refine X.st (by kernel_rfl) ?_<;>repeat' first|refine Z.p rfl ?_|refine Z.fa rfl rfl rfl ?_|refine Z.l1 rfl rfl rfl ?_|refine Z.lN rfl rfl rfl ?_|refine Z.lP rfl rfl rfl ?_|refine Z.ct rfl (by omega) ?_|refine Z.cf rfl (by omega) ?_|refine Z.cs rfl (fun _=>?_) (fun _=>?_)|refine Z.pk rfl rfl rfl rfl ?_|refine Z.g rfl (by omega) ?_|refine Z.w rfl ?_|refine XL.nn ?_)<;>(refine X.cond rfl ?_ ?_;rotate_left;(focus (intro hc;first|exact no_ hc rfl|(refine X.skip ?_)));rotate_right;(focus (intro hc;first|exact no_ hc rfl|((refine X.st (by kernel_rfl) ?_<;>repeat' first|refine Z.p rfl ?_|refine XL.nn ?_)<;>(apply X.r1 Tryz.results114 (RV.tmp rfl);(focus (refine ⟨?_, rfl⟩; first | (rw [if_pos (by dsimp only [mayS]; omega)]) | (rw [if_neg (by dsimp only [mayS]; omega)])));exact fun _=>Conf.takes))))))<;>(first|refine Ex.then ?_|refine N.next ?_<;>((refine X.st (by kernel_rfl) ?_<;>repeat' first|refine Z.p rfl ?_|refine XL.nn ?_)<;>(apply X.r1 Tryz.results114 (RV.tmp rfl);(focus (refine ⟨?_, rfl⟩; first | (rw [if_pos (by dsimp only [mayS]; omega)]) | (rw [if_neg (by dsimp only [mayS]; omega)])));exact fun _=>Conf.takes))))

theorem may_end {x : Sp} (h : mayS x) : IntKind.i64.wrap (x.1 + x.2) = x.1 + x.2 := D.wrap64_fit (by unfold mayS at h; omega)

theorem Check_spec (w : World) (a : Option Addr) (n c : Nat) (l : List Sp) (hl : Rd w 2 a n c (encS l)) : Spec Tryz.prog 118 #[.slice a n c] w (fun _ => False) (fun v A => ∃ e : Int, v = .int .i64 e ∧ (e = 0 ∧ SetOK l n ∨ e = 1 ∧ ¬ SetOK l n) ∧ A = []) := by
  refine Spec.enter (args := [.slice a n c]) (A := []) Tryz.func118 rfl Tryz.ntmps118 rfl (fun _ h => h) ?_
  have hlen := hl.spLen; have hbd := hl.bd
  ((refine X.st (by kernel_rfl) ?_<;>repeat' first|refine Z.p rfl ?_|refine XL.nn ?_)<;>refine X.seq ?_<;>((refine X.st (by kernel_rfl) ?_<;>repeat' first|refine Z.p rfl ?_|refine Z.ln rfl rfl ?_|refine Z.lnL rfl rfl ?_|refine Z.lnS rfl rfl ?_|refine XL.nn ?_)<;>refine X.block ?_<;>((refine X.loop (ι := Nat) (fun k => [(0, .slice a n c), (5, .slice a n c), (6, .int .i64 n), (7, .int .i64 k)]) (fun _ => []) (fun k => k ≤ n ∧ SetOK l k) (fun k => n - k) (0) ?_ ?_ ?_ ?_; (focus (exact ⟨Nat.zero_le _, fun k x hk => by omega⟩)); (focus (repeat (first | exact Sub.nil | refine Sub.cons rfl ?_))); (focus (exact (fun w h => h.takes))); rintro k ⟨hk, hok⟩) <;> ((refine X.st (by kernel_rfl) ?_<;>repeat' first|(refine XL.at 0 ?_;(first | refine XL.splitF rfl rfl rfl rfl (D.int rfl rfl rfl) (fun h0 => ?_) (fun h0 => ?_)))|refine XL.nn ?_)<;>refine X.seq ?_<;>((refine X.cond rfl ?_ ?_;rotate_left;(focus (intro hc;first|exact no_ hc rfl|(refine X.exit ?_)));rotate_right;(focus (intro hc;first|exact no_ hc rfl|(refine X.skip ?_)))))<;>(first|refine Ex.then ?_|refine N.next ?_<;>(refine X.seq ?_<;>(refine X.block ?_<;>((refine X.st (by kernel_rfl) ?_<;>repeat' first|refine Z.p rfl ?_|(refine XL.at 1 ?_;(have hkn : k < n := (by omega); obtain ⟨x, hx⟩ := get_lt (l := l) (k := k) (by omega); (apply XL.detF rfl rfl rfl rfl; exact D.indexAddr k rfl rfl rfl hkn (hl.sm (by omega)))))|(refine XL.at 2 ?_;((apply XL.detF rfl rfl rfl rfl; exact D.loadN rfl rfl (fun w hw j u hu => Rd.sp (Rd.conf0 hl hw) hx j u hu))))|refine XL.alloc rfl rfl rfl (by intro g; infer_instance) (fun g => ?_)|refine XL.store1 rfl rfl rfl rfl rfl ?_|refine XL.storeN rfl rfl rfl rfl rfl rfl ?_|refine XL.storeP rfl rfl rfl rfl rfl rfl ?_|refine XL.nn ?_)<;>(refine X.sd (.b 0 (.c 1 (.a 2 (.a 3 (.a 4 (.a 5 (.a 6 (.a 7 (.a 8 (.a 9 (.a 10 (.b 11 (.a 13 (.b 14 (.c 12 (.a 15 (.a 16 (.a 17 .n)))))))))))))))))) mixed (by kernel_rfl) ?_<;>repeat' first|refine XL.skipC rfl rfl rfl rfl ?_|refine Z.p rfl ?_|(refine XL.at 1 ?_;((refine XL.call rfl rfl rfl rfl (fun w hw => May_spec _ _ w) ?_; rintro v B' ⟨rfl, rfl⟩; refine XL.both ?_); (by_cases hm : mayS x <;> first | rw [if_pos hm] | rw [if_neg hm])))|(refine XL.at 10 ?_;(obtain ⟨y, hy⟩ := get_lt (l := l) (k := k - 1) (by omega); (apply XL.det0 rfl rfl rfl rfl; exact D.indexAddr (k - 1) rfl rfl (by omega) (by omega) (hl.sm (by omega)))))|(refine XL.at 11 ?_;((apply XL.det1 rfl rfl rfl rfl; exact D.loadN rfl rfl (fun w hw j u hu => Rd.sp (Rd.conf0 hl hw) hy j u hu))))|(refine XL.at 12 ?_;((refine XL.call rfl rfl rfl rfl (fun w hw => End_spec _ _ w) ?_; rintro v B' ⟨rfl, rfl⟩; refine XL.both ?_); rw [may_end (hok.may (by omega) hy)]))|refine Z.l1 rfl rfl rfl ?_|refine Z.lN rfl rfl rfl ?_|refine Z.lP rfl rfl rfl ?_|refine Z.ct rfl (by omega) ?_|refine Z.cf rfl (by omega) ?_|refine Z.cs rfl (fun _=>?_) (fun _=>?_)|refine Z.g rfl (by omega) ?_|refine Z.w rfl ?_|refine Z.fa rfl rfl rfl ?_|refine Z.pk rfl rfl rfl rfl ?_|refine XL.nn ?_)<;>(refine X.cond rfl ?_ ?_;rotate_left;(focus (intro hc;first|exact no_ hc rfl|(refine X.skip ?_)));rotate_right;(focus (intro hc;first|exact no_ hc rfl|((refine X.st (by kernel_rfl) ?_<;>repeat' first|refine Z.p rfl ?_|refine XL.nn ?_)<;>(apply X.r1 Tryz.results118 (RV.tmp rfl);(focus (first | (refine ⟨0, rfl, .inl ⟨rfl, ?_⟩, rfl⟩; (obtain rfl : k = n := by omega); exact hok) | (refine ⟨1, rfl, .inr ⟨rfl, fun hs => ?_⟩, rfl⟩; first | exact hm (hs.may hkn hx) | (have := (hs k x hkn hx).2 y (by omega) hy; omega))));exact fun _=>Conf.takes))))))<;>(first|refine N.block ?_|refine Ex.here ?_|refine Ex.out rfl ?_))<;>(first|refine Ex.then ?_|refine N.next ?_<;>(refine X.tx (by kernel_rfl) ?_<;>repeat' first|refine Z.p rfl ?_|refine Z.g rfl (by omega) ?_|refine Z.w rfl ?_|refine XL.nil ?_))))) <;> (first | refine Ex.then ?_ | ((refine N.again (k + 1) ?_ ?_ ?_ ?_; (focus (exact ⟨by omega, hok.step hx hm (by intro y' h0 h'; first | omega | (rw [hy] at h'; cases h'; omega))⟩)); (focus (first | omega | (dsimp only; omega))); (focus (repeat (first | exact Sub.nil | refine Sub.cons rfl ?_))); exact (fun w h => h.takes)))))<;>(first|refine N.block ?_|refine Ex.here ?_|refine Ex.out rfl ?_))<;>(first|refine Ex.then ?_|refine N.next ?_<;>((refine X.st (by kernel_rfl) ?_<;>repeat' first|refine Z.p rfl ?_|refine XL.nn ?_)<;>(apply X.r1 Tryz.results118 (RV.tmp rfl);(focus (first | (refine ⟨0, rfl, .inl ⟨rfl, ?_⟩, rfl⟩; (obtain rfl : k = n := by omega); exact hok) | (refine ⟨1, rfl, .inr ⟨rfl, fun hs => ?_⟩, rfl⟩; first | exact hm (hs.may hkn hx) | (have := (hs k x hkn hx).2 y (by omega) hy; omega))));exact fun _=>Conf.takes))))
end Go.Lx

/- Package span's walks, part b: the predicates. -/
namespace Go.Lx
open Go.Proofs
set_option linter.unusedVariables false
set_option linter.unusedSimpArgs false

/-- A closure that tells of an element, in whatever memory that extends w. -/
def Pred (P : Program) (w : World) (k : FuncId) (cps : List Value) (l : List Sp) (p : Sp → Bool) : Prop :=
  ∀ x, x ∈ l → ∀ w', Conf ⟨P, 0, w, fun _ => False⟩ [] w' → Spec P k (.agg #[.int .i64 x.1, .int .i64 x.2] :: cps).toArray w' (fun _ => False) (fun v A => v = .bool (p x) ∧ A = [])

theorem Conf.bare {C : Cx} {A : List Assn} {w : World} (h : Conf C A w) (hH : C.H = fun _ => False) : Conf ⟨C.P, 0, C.w0, fun _ => False⟩ [] w := by
  have := (h.sub (List.nil_sublist A)).any (n := 0)
  rw [hH] at this
  exact this

theorem IndexFunc_spec (w : World) (a : Option Addr) (n c : Nat) (l : List Sp) (hl : Rd w 2 a n c (encS l)) (k : FuncId) (cps : List Value) [Enters Tryz.prog k] (p : Sp → Bool) (hp : Pred Tryz.prog w k cps l p) :
    Spec Tryz.prog 141 #[.slice a n c, .func (.func k) #[] cps.toArray] w (fun _ => False) (fun v A => ∃ r : Int, v = .int .i64 r ∧ (r = -1 ∧ (∀ x ∈ l, p x = false) ∨ ∃ i x, r = (i : Nat) ∧ l[i]? = some x ∧ p x = true ∧ ∀ j y, j < i → l[j]? = some y → p y = false) ∧ A = []) := by
  refine Spec.enter (args := [.slice a n c, .func (.func k) #[] cps.toArray]) (A := []) Tryz.func141 rfl Tryz.ntmps141 rfl (fun _ h => h) ?_
  have hlen := hl.spLen; have hbd := hl.bd
  ((refine X.st (by kernel_rfl) ?_<;>repeat' first|refine Z.p rfl ?_|refine XL.nn ?_)<;>refine X.seq ?_<;>((refine X.st (by kernel_rfl) ?_<;>repeat' first|refine Z.p rfl ?_|refine Z.ln rfl rfl ?_|refine Z.lnL rfl rfl ?_|refine Z.lnS rfl rfl ?_|refine XL.nn ?_)<;>refine X.block ?_<;>((refine X.loop (ι := Nat) (fun i => [(0, .slice a n c), (1, .func (.func k) #[] cps.toArray), (6, .slice a n c), (7, .int .i64 n), (8, .int .i64 i)]) (fun _ => []) (fun i => i ≤ n ∧ ∀ j y, j < i → l[j]? = some y → p y = false) (fun i => n - i) (0) ?_ ?_ ?_ ?_; (focus (exact ⟨Nat.zero_le _, fun j y hj => by omega⟩)); (focus (repeat (first | exact Sub.nil | refine Sub.cons rfl ?_))); (focus (exact (fun w h => h.takes))); rintro i ⟨hi, hok⟩) <;> ((refine X.st (by kernel_rfl) ?_<;>repeat' first|(refine XL.at 0 ?_;(first | refine XL.splitF rfl rfl rfl rfl (D.int rfl rfl rfl) (fun h0 => ?_) (fun h0 => ?_)))|refine XL.nn ?_)<;>refine X.seq ?_<;>((refine X.cond rfl ?_ ?_;rotate_left;(focus (intro hc;first|exact no_ hc rfl|(refine X.exit ?_)));rotate_right;(focus (intro hc;first|exact no_ hc rfl|(refine X.skip ?_)))))<;>(first|refine Ex.then ?_|refine N.next ?_<;>(refine X.seq ?_<;>(refine X.block ?_<;>((refine X.st (by kernel_rfl) ?_<;>repeat' first|refine Z.p rfl ?_|refine XL.nn ?_)<;>(refine X.st (by kernel_rfl) ?_<;>repeat' first|refine Z.p rfl ?_|(refine XL.at 3 ?_;(have hin : i < n := (by omega); obtain ⟨x, hx⟩ := get_lt (l := l) (k := i) (by omega); (apply XL.detF rfl rfl rfl rfl; exact D.indexAddr i rfl rfl rfl hin (hl.sm (by omega)))))|(refine XL.at 4 ?_;((apply XL.detF rfl rfl rfl rfl; exact D.loadN rfl rfl (fun w hw j u hu => Rd.sp (Rd.conf0 hl hw) hx j u hu))))|(refine XL.at 5 ?_;((refine XL.callV (fs := []) (cps := cps) rfl rfl rfl rfl rfl (fun w' hw => hp x (List.mem_of_getElem? hx) w' (hw.bare rfl)) ?_; rintro v B' ⟨rfl, rfl⟩; refine XL.both ?_); (cases hpx : p x)))|refine XL.nn ?_)<;>(refine X.cond rfl ?_ ?_;rotate_left;(focus (intro hc;first|exact no_ hc rfl|(refine X.skip ?_)));rotate_right;(focus (intro hc;first|exact no_ hc rfl|((refine X.st (by kernel_rfl) ?_<;>repeat' first|refine Z.p rfl ?_|refine XL.nn ?_)<;>(apply X.r1 Tryz.results141 (RV.tmp rfl);(focus (first | (refine ⟨_, rfl, .inr ⟨i, x, rfl, hx, hpx, hok⟩, rfl⟩) | (refine ⟨_, rfl, .inl ⟨rfl, fun y hy => ?_⟩, rfl⟩; obtain ⟨j, hj⟩ := List.mem_iff_getElem?.1 hy; exact hok j y (by have := (List.getElem?_eq_some_iff.1 hj).1; omega) hj)));exact fun _=>Conf.takes))))))<;>(first|refine N.block ?_|refine Ex.here ?_|refine Ex.out rfl ?_))<;>(first|refine Ex.then ?_|refine N.next ?_<;>(refine X.tx (by kernel_rfl) ?_<;>repeat' first|refine Z.p rfl ?_|refine Z.g rfl (by omega) ?_|refine Z.w rfl ?_|refine XL.nil ?_))))) <;> (first | refine Ex.then ?_ | ((refine N.again (i + 1) ?_ ?_ ?_ ?_; (focus (exact ⟨by omega, fun j y hj hy => by rcases Nat.lt_or_ge j i with h | h; exact hok j y h hy; (obtain rfl : j = i := by omega); rw [hx] at hy; cases hy; exact hpx⟩)); (focus (first | omega | (dsimp only; omega))); (focus (repeat (first | exact Sub.nil | refine Sub.cons rfl ?_))); exact (fun w h => h.takes)))))<;>(first|refine N.block ?_|refine Ex.here ?_|refine Ex.out rfl ?_))<;>(first|refine Ex.then ?_|refine N.next ?_<;>((refine X.st (by kernel_rfl) ?_<;>repeat' first|refine Z.p rfl ?_|refine XL.nn ?_)<;>(apply X.r1 Tryz.results141 (RV.tmp rfl);(focus (first | (refine ⟨_, rfl, .inr ⟨i, x, rfl, hx, hpx, hok⟩, rfl⟩) | (refine ⟨_, rfl, .inl ⟨rfl, fun y hy => ?_⟩, rfl⟩; obtain ⟨j, hj⟩ := List.mem_iff_getElem?.1 hy; exact hok j y (by have := (List.getElem?_eq_some_iff.1 hj).1; omega) hj)));exact fun _=>Conf.takes))))

theorem ContainsFunc_spec (w : World) (a : Option Addr) (n c : Nat) (l : List Sp) (hl : Rd w 2 a n c (encS l)) (k : FuncId) (cps : List Value) [Enters Tryz.prog k] (p : Sp → Bool) (hp : Pred Tryz.prog w k cps l p) :
    Spec Tryz.prog 127 #[.slice a n c, .func (.func k) #[] cps.toArray] w (fun _ => False) (fun v A => v = .bool (l.any p) ∧ A = []) := by
  refine Spec.enter (args := [.slice a n c, .func (.func k) #[] cps.toArray]) (A := []) Tryz.func127 rfl Tryz.ntmps127 rfl (fun _ h => h) ?_
  ((refine X.st (by kernel_rfl) ?_<;>repeat' first|refine Z.p rfl ?_|refine XL.nn ?_)<;>(refine X.st (by kernel_rfl) ?_<;>repeat' first|refine Z.p rfl ?_|(refine XL.at 2 ?_;((refine XL.call rfl rfl rfl rfl (fun w hw => IndexFunc_spec w a n c l (hl.conf0 hw) k cps p (fun x hx w' hw' => hp x hx w' (hw'.over hw))) ?_; rintro v B' ⟨r, rfl, hr, rfl⟩; refine XL.both ?_)))|(refine XL.at 3 ?_;((apply XL.det0F rfl rfl rfl rfl; exact D.int rfl rfl rfl)))|refine XL.nn ?_)<;>(apply X.r1 Tryz.results127 (RV.tmp rfl);(focus (refine ⟨congrArg Value.bool ?_, rfl⟩; rcases hr with ⟨rfl, h⟩ | ⟨i, x, rfl, hx, hpx, _⟩; (rw [show l.any p = false from List.any_eq_false.2 (fun x hx => by simp [h x hx])]; rfl); (rw [show l.any p = true from List.any_eq_true.2 ⟨x, List.mem_of_getElem? hx, hpx⟩]; simp)));exact fun _=>Conf.takes))

theorem wrong1_spec (w : World) (x : Sp) : Spec Tryz.prog 131 #[.agg #[.int .i64 x.1, .int .i64 x.2]] w (fun _ => False) (fun v A => v = .bool (decide (¬ mayS x)) ∧ A = []) := by
  refine Spec.enter (args := [.agg #[.int .i64 x.1, .int .i64 x.2]]) (A := []) Tryz.func131 rfl Tryz.ntmps131 rfl (fun _ h => h) ?_
  ((refine X.st (by kernel_rfl) ?_<;>repeat' first|refine Z.p rfl ?_|refine XL.boxN rfl rfl rfl rfl (by intro g; infer_instance) (fun g => ?_)|refine XL.box1 rfl rfl rfl rfl rfl (by intro g; infer_instance) (fun g => ?_)|refine XL.nn ?_)<;>(refine X.st (by kernel_rfl) ?_<;>repeat' first|refine Z.p rfl ?_|(refine XL.at 1 ?_;((refine XL.call rfl rfl rfl rfl (fun w hw => May_spec _ _ w) ?_; rintro v B' ⟨rfl, rfl⟩; refine XL.both ?_); (by_cases hm : mayS x <;> first | rw [if_pos hm] | rw [if_neg hm])))|refine Z.l1 rfl rfl rfl ?_|refine Z.lN rfl rfl rfl ?_|refine Z.lP rfl rfl rfl ?_|refine Z.ct rfl (by omega) ?_|refine Z.cf rfl (by omega) ?_|refine Z.cs rfl (fun _=>?_) (fun _=>?_)|refine XL.nn ?_)<;>(apply X.r1 Tryz.results131 (RV.tmp rfl);(focus (refine ⟨congrArg Value.bool ?_, rfl⟩; simp [hm]));exact fun _=>Conf.takes))

theorem wrong_spec (w : World) (a : Option Addr) (n c : Nat) (l : List Sp) (hl : Rd w 2 a n c (encS l)) : Spec Tryz.prog 116 #[.slice a n c] w (fun _ => False) (fun v A => v = .bool (l.any fun x => decide (¬ mayS x)) ∧ A = []) := by
  refine Spec.enter (args := [.slice a n c]) (A := []) Tryz.func116 rfl Tryz.ntmps116 rfl (fun _ h => h) ?_
  ((refine X.st (by kernel_rfl) ?_<;>repeat' first|refine Z.p rfl ?_|refine XL.nn ?_)<;>(refine X.st (by kernel_rfl) ?_<;>repeat' first|refine Z.p rfl ?_|(refine XL.at 1 ?_;((refine XL.call rfl rfl rfl rfl (fun w hw => ContainsFunc_spec w a n c l (hl.conf0 hw) 131 [] _ (fun x hx w' hw' => wrong1_spec w' x)) ?_; rintro v B' ⟨rfl, rfl⟩; refine XL.both ?_)))|refine XL.nn ?_)<;>(apply X.r1 Tryz.results116 (RV.tmp rfl);(focus (exact ⟨rfl, rfl⟩));exact fun _=>Conf.takes))

end Go.Lx
