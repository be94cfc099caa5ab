/- Plain laws on lists of extents: rising, as few as can be, told by their sectors. -/
import Derived.Test.YtkjhepgohacmiaaGreatPa
namespace Go.Lx
set_option linter.unusedVariables false
set_option linter.unusedSimpArgs false

structure Ext where
  a : Int
  n : Int
  q : Int
  p : Int
  deriving DecidableEq, Inhabited
def encE1 (x : Ext) : List Value := [.int .i64 x.a, .int .i64 x.n, .int .i64 x.q, .int .i64 x.p]
def encE (l : List Ext) : List Value := l.flatMap encE1

def plS (q p : Int) : Prop := 0 ≤ q ∧ q < 1099511627776 ∧ 0 ≤ p ∧ p < 1099511627776
instance (q p : Int) : Decidable (plS q p) := by unfold plS; infer_instance
def mayE (x : Ext) : Prop := mayS (x.a, x.n) ∧ plS x.q x.p
instance (x : Ext) : Decidable (mayE x) := by unfold mayE; infer_instance
/-- What a map's extents keep to. -/
def inE (x : Ext) : Prop := 0 ≤ x.a ∧ 1 ≤ x.n ∧ x.a + x.n ≤ 65536 ∧ 0 ≤ x.q ∧ x.q < 1099511627776 ∧ 0 ≤ x.p ∧ x.p + x.n ≤ 1099511693312
theorem mayE.inE {x : Ext} (h : mayE x) : inE x := by unfold mayE mayS plS at h; unfold Lx.inE; dsimp only at h; omega

def Rise (lo : Int) : List Ext → Prop
  | [] => True
  | x :: l => lo ≤ x.a ∧ inE x ∧ Rise (x.a + x.n) l
def endE (lo : Int) : List Ext → Int
  | [] => lo
  | x :: l => endE (x.a + x.n) l
theorem rise_append : ∀ {lo : Int} {l m : List Ext}, Rise lo (l ++ m) ↔ Rise lo l ∧ Rise (endE lo l) m
  | lo, [], m => by simp [Rise, endE]
  | lo, x :: l, m => by
    simp only [List.cons_append, Rise, endE, rise_append (l := l)]
    constructor
    · rintro ⟨h1, h2, h3, h4⟩; exact ⟨⟨h1, h2, h3⟩, h4⟩
    · rintro ⟨⟨h1, h2, h3⟩, h4⟩; exact ⟨h1, h2, h3, h4⟩
theorem endE_append : ∀ {lo : Int} {l m : List Ext}, endE lo (l ++ m) = endE (endE lo l) m
  | lo, [], m => rfl
  | lo, x :: l, m => by simp only [List.cons_append, endE, endE_append (l := l)]
theorem Rise.weak {lo lo' : Int} {l : List Ext} (h : Rise lo l) (hl : lo' ≤ lo) : Rise lo' l := by
  cases l with
  | nil => trivial
  | cons x l => exact ⟨by have := h.1; omega, h.2⟩
theorem Rise.mem : ∀ {lo : Int} {l : List Ext} {x : Ext}, Rise lo l → x ∈ l → inE x ∧ lo ≤ x.a
  | lo, y :: l, x, h, hx => by
    rcases List.mem_cons.1 hx with rfl | hx
    · exact ⟨h.2.1, h.1⟩
    · have := Rise.mem h.2.2 hx
      have h2 := h.2.1
      unfold inE at h2
      have h1 := h.1
      exact ⟨this.1, by omega⟩
theorem Rise.le_end : ∀ {lo : Int} {l : List Ext}, Rise lo l → lo ≤ endE lo l
  | lo, [], _ => Int.le_refl _
  | lo, x :: l, h => by
    have := Rise.le_end h.2.2
    have h1 := h.1
    have h2 := h.2.1
    unfold inE at h2
    simp only [endE]
    omega

theorem Rise.endLe : ∀ {lo : Int} {l : List Ext} {x : Ext}, Rise lo l → x ∈ l → x.a + x.n ≤ endE lo l
  | lo, y :: l, x, h, hx => by
    rcases List.mem_cons.1 hx with rfl | hx
    · exact h.2.2.le_end
    · show x.a + x.n ≤ endE (y.a + y.n) l
      exact Rise.endLe h.2.2 hx

def Fol (x y : Ext) : Prop := x.a + x.n = y.a ∧ x.q = y.q ∧ x.p + x.n = y.p
instance (x y : Ext) : Decidable (Fol x y) := by unfold Fol; infer_instance
def NF : List Ext → Prop
  | [] => True
  | [_] => True
  | x :: y :: l => ¬ Fol x y ∧ NF (y :: l)
theorem NF.tail {x : Ext} {l : List Ext} (h : NF (x :: l)) : NF l := by
  cases l with
  | nil => trivial
  | cons y l => exact h.2
theorem nf_snoc2 : ∀ {l : List Ext} {x y : Ext}, NF (l ++ [x, y]) ↔ NF (l ++ [x]) ∧ ¬ Fol x y
  | [], x, y => by simp [NF]
  | [z], x, y => by simp [NF]
  | z :: w :: l, x, y => by
    have := nf_snoc2 (l := w :: l) (x := x) (y := y)
    simp only [List.cons_append, NF] at this ⊢
    rw [this, and_assoc]

def atE (l : List Ext) (t : Int) (s : Int × Int) : Prop := ∃ x ∈ l, x.a ≤ t ∧ t < x.a + x.n ∧ s = (x.q, x.p + (t - x.a))
theorem atE_nil {t : Int} {s : Int × Int} : ¬ atE [] t s := fun ⟨_, h, _⟩ => by cases h
theorem atE_cons {x : Ext} {l : List Ext} {t : Int} {s : Int × Int} : atE (x :: l) t s ↔ (x.a ≤ t ∧ t < x.a + x.n ∧ s = (x.q, x.p + (t - x.a))) ∨ atE l t s := by simp [atE]
theorem atE_append {l m : List Ext} {t : Int} {s : Int × Int} : atE (l ++ m) t s ↔ atE l t s ∨ atE m t s := by
  unfold atE
  constructor
  · rintro ⟨x, hx, h⟩
    rcases List.mem_append.1 hx with h1 | h1
    · exact .inl ⟨x, h1, h⟩
    · exact .inr ⟨x, h1, h⟩
  · rintro (⟨x, hx, h⟩ | ⟨x, hx, h⟩)
    · exact ⟨x, List.mem_append.2 (.inl hx), h⟩
    · exact ⟨x, List.mem_append.2 (.inr hx), h⟩
theorem atE_one {x : Ext} {t : Int} {s : Int × Int} : atE [x] t s ↔ x.a ≤ t ∧ t < x.a + x.n ∧ s = (x.q, x.p + (t - x.a)) := by simp [atE]
theorem Rise.at_ge {lo : Int} {l : List Ext} (h : Rise lo l) {t : Int} {s : Int × Int} (ht : atE l t s) : lo ≤ t := by
  obtain ⟨x, hx, h1, _⟩ := ht
  have := (h.mem hx).2
  omega
theorem Rise.at_lt {lo : Int} {l : List Ext} (h : Rise lo l) {t : Int} {s : Int × Int} (ht : atE l t s) : t < endE lo l := by
  obtain ⟨x, hx, _, h1, _⟩ := ht
  have := h.endLe hx
  omega

/-- A rising list, as few as can be, is told by its sectors. -/
theorem ext_unique : ∀ {lo : Int} (l m : List Ext), Rise lo l → Rise lo m → NF l → NF m → (∀ t s, atE l t s ↔ atE m t s) → l = m
  | lo, [], [], _, _, _, _, _ => rfl
  | lo, [], y :: m, _, hm, _, _, h => by
    have h1 := hm.2.1
    unfold inE at h1
    exact absurd ((h y.a (y.q, y.p)).2 (atE_cons.2 (.inl ⟨by omega, by omega, by simp⟩))) atE_nil
  | lo, x :: l, [], hl, _, _, _, h => by
    have h1 := hl.2.1
    unfold inE at h1
    exact absurd ((h x.a (x.q, x.p)).1 (atE_cons.2 (.inl ⟨by omega, by omega, by simp⟩))) atE_nil
  | lo, x :: l, y :: m, hl, hm, hnl, hnm, h => by
    have hx := hl.2.1
    have hy := hm.2.1
    unfold inE at hx hy
    have e1 : x.a = y.a := by
      have h1 := (h x.a (x.q, x.p)).1 (atE_cons.2 (.inl ⟨by omega, by omega, by simp⟩))
      have h2 := (h y.a (y.q, y.p)).2 (atE_cons.2 (.inl ⟨by omega, by omega, by simp⟩))
      have g1 : y.a ≤ x.a := by
        rcases atE_cons.1 h1 with h1 | h1
        · omega
        · have := hm.2.2.at_ge h1; omega
      have g2 : x.a ≤ y.a := by
        rcases atE_cons.1 h2 with h2 | h2
        · omega
        · have := hl.2.2.at_ge h2; omega
      omega
    have e2 : x.q = y.q ∧ x.p = y.p := by
      have h1 := (h x.a (x.q, x.p)).1 (atE_cons.2 (.inl ⟨by omega, by omega, by simp⟩))
      rcases atE_cons.1 h1 with ⟨_, _, h1⟩ | h1
      · rw [e1] at h1
        simp at h1
        exact h1
      · have := hm.2.2.at_ge h1; omega
    have key : ∀ {lo : Int} {x y : Ext} {l m : List Ext}, Rise lo (x :: l) → Rise lo (y :: m) → NF (x :: l) → x.a = y.a → x.q = y.q → x.p = y.p → (∀ t s, atE (y :: m) t s → atE (x :: l) t s) → ¬ x.n < y.n := by
      intro lo x y l m hl hm hn ea eq ep h hlt
      have hx := hl.2.1
      unfold inE at hx
      have h1 := h (x.a + x.n) (x.q, x.p + x.n) (atE_cons.2 (.inl ⟨by omega, by omega, by rw [eq, ep, ea]; congr 1; omega⟩))
      rcases atE_cons.1 h1 with h1 | h1
      · omega
      · cases l with
        | nil => exact atE_nil h1
        | cons z l =>
          have hz := hl.2.2
          have hzi := hz.2.1
          unfold inE at hzi
          rcases atE_cons.1 h1 with ⟨h2, h3, h4⟩ | h1
          · have h5 := hz.1
            have e : z.a = x.a + x.n := by omega
            rw [e] at h4
            simp at h4
            exact hn.1 ⟨e.symm, h4.1, by omega⟩
          · have := hz.2.2.at_ge h1
            have h5 := hz.1
            omega
    have e3 : x.n = y.n := by
      rcases Int.lt_trichotomy x.n y.n with q | q | q
      · exact absurd q (key hl hm hnl e1 e2.1 e2.2 (fun t s h' => (h t s).2 h'))
      · exact q
      · exact absurd q (key hm hl hnm e1.symm e2.1.symm e2.2.symm (fun t s h' => (h t s).1 h'))
    have exy : x = y := by
      cases x; cases y
      simp only at e1 e2 e3
      obtain ⟨e2, e4⟩ := e2
      subst e1 e2 e3 e4
      rfl
    subst exy
    rw [ext_unique l m hl.2.2 hm.2.2 hnl.tail hnm.tail fun t s => ?_]
    have hge : ∀ {l : List Ext}, Rise (x.a + x.n) l → atE l t s → ¬ (x.a ≤ t ∧ t < x.a + x.n ∧ s = (x.q, x.p + (t - x.a))) := fun hr ha hb => by
      have := hr.at_ge ha
      omega
    constructor
    · intro ht
      exact (atE_cons.1 ((h t s).1 (atE_cons.2 (.inr ht)))).resolve_left (hge hl.2.2 ht)
    · intro ht
      exact (atE_cons.1 ((h t s).2 (atE_cons.2 (.inr ht)))).resolve_left (hge hm.2.2 ht)

/-! ### one more extent behind -/
theorem take_succ_snoc {α : Type} {l : List α} {i : Nat} {x : α} (h : l[i]? = some x) : l.take (i + 1) = l.take i ++ [x] := by
  rw [List.take_add_one, h]; rfl
structure JnI (lo : Int) (l : List Ext) (i : Nat) (o : List Ext) : Prop where
  hi : i ≤ l.length
  len : o.length ≤ i
  rise : Rise lo o
  nf : NF o
  fin : endE lo o = endE lo (l.take i)
  at_ : ∀ t s, atE o t s ↔ atE (l.take i) t s
variable {lo : Int} {l o : List Ext} {i : Nat} {x y : Ext}
theorem JnI.start : JnI lo l 0 [] := ⟨Nat.zero_le _, Nat.le_refl _, trivial, trivial, rfl, fun t s => Iff.rfl⟩
theorem Rise.at_i (h : Rise lo l) (hx : l[i]? = some x) : endE lo (l.take i) ≤ x.a ∧ inE x := by
  have hl := (List.getElem?_eq_some_iff.1 hx).1
  have e : l = l.take i ++ x :: l.drop (i + 1) := by
    have h1 : l[i] = x := (List.getElem?_eq_some_iff.1 hx).2
    rw [← h1, ← List.drop_eq_getElem_cons hl, List.take_append_drop]
  rw [e] at h
  have h2 := (rise_append.1 h).2
  exact ⟨h2.1, h2.2.1⟩
theorem JnI.push (h : JnI lo l i o) (hl : Rise lo l) (hx : l[i]? = some x) (hn : ∀ y, o[o.length - 1]? = some y → ¬ Fol y x) : JnI lo l (i + 1) (o ++ [x]) := by
  have hxi := hl.at_i hx
  refine ⟨(List.getElem?_eq_some_iff.1 hx).1, by have := h.len; simp; omega, rise_append.2 ⟨h.rise, by rw [h.fin]; exact hxi.1, hxi.2, trivial⟩, ?_, ?_, fun t s => ?_⟩
  · rcases List.eq_nil_or_concat o with rfl | ⟨o', y, rfl⟩
    · trivial
    · rw [List.concat_eq_append] at h hn ⊢
      rw [List.append_assoc]
      exact nf_snoc2.2 ⟨h.nf, hn y (by simp)⟩
  · rw [endE_append, take_succ_snoc hx, endE_append]; rfl
  · rw [take_succ_snoc hx, atE_append, atE_append, h.at_ t s]
theorem JnI.merge (h : JnI lo l i o) (hl : Rise lo l) (hx : l[i]? = some x) (hy : o[o.length - 1]? = some y) (hf : Fol y x) : JnI lo l (i + 1) (o.set (o.length - 1) ⟨y.a, y.n + x.n, y.q, y.p⟩) := by
  have hxi := hl.at_i hx
  have hl0 := (List.getElem?_eq_some_iff.1 hy).1
  rcases List.eq_nil_or_concat o with rfl | ⟨o', z, rfl⟩
  · cases hy
  rw [List.concat_eq_append] at *
  have e1 : (o' ++ [z]).length - 1 = o'.length := by simp
  rw [e1] at hy ⊢
  simp at hy
  subst hy
  have e2 : (o' ++ [z]).set o'.length ⟨z.a, z.n + x.n, z.q, z.p⟩ = o' ++ [⟨z.a, z.n + x.n, z.q, z.p⟩] := by simp
  rw [e2]
  have hr := rise_append.1 h.rise
  have hz := hr.2.2.1
  obtain ⟨f1, f2, f3⟩ := hf
  have hx2 := hxi.2
  have hnew : inE ⟨z.a, z.n + x.n, z.q, z.p⟩ := by unfold inE at hz hx2 ⊢; dsimp only; omega
  refine ⟨(List.getElem?_eq_some_iff.1 hx).1, ?_, rise_append.2 ⟨hr.1, hr.2.1, hnew, trivial⟩, ?_, ?_, fun t s => ?_⟩
  · have := h.len; simp at this ⊢; omega
  · rcases List.eq_nil_or_concat o' with rfl | ⟨o'', w, rfl⟩
    · trivial
    · rw [List.concat_eq_append] at h ⊢
      have h1 := h.nf
      rw [List.append_assoc] at h1 ⊢
      have h2 := nf_snoc2.1 h1
      exact nf_snoc2.2 ⟨h2.1, fun q => h2.2 ⟨q.1, q.2.1, q.2.2⟩⟩
  · rw [endE_append, take_succ_snoc hx, endE_append]
    show z.a + (z.n + x.n) = x.a + x.n
    omega
  · rw [take_succ_snoc hx, atE_append, atE_append, ← h.at_ t s, atE_append, atE_one, atE_one, atE_one, or_assoc]
    unfold inE at hz hx2
    dsimp only
    apply or_congr_right
    constructor
    · rintro ⟨h1, h2, h3⟩
      by_cases q : t < z.a + z.n
      · exact .inl ⟨h1, q, h3⟩
      · exact .inr ⟨by omega, by omega, by rw [h3, f2]; congr 1; omega⟩
    · rintro (⟨h1, h2, h3⟩ | ⟨h1, h2, h3⟩)
      · exact ⟨h1, by omega, h3⟩
      · exact ⟨by omega, by omega, by rw [h3, f2]; congr 1; omega⟩
end Go.Lx
