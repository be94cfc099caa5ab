/- Plain laws on lists of spans, part d: how many sectors there are. -/
import Derived.Test.YtpkchhcedbgfhaaSe
import Derived.Test.YtpkchhcedbgfhaaPc
namespace Go.Lx
set_option linter.unusedVariables false
set_option linter.unusedSimpArgs false

def cnt (p : Nat → Bool) : Nat → Int
  | 0 => 0
  | n + 1 => cnt p n + (if p n = true then 1 else 0)
theorem cnt_le {p q : Nat → Bool} (h : ∀ t, p t = true → q t = true) : ∀ n, cnt p n ≤ cnt q n
  | 0 => Int.le_refl _
  | n + 1 => by
    have ih := cnt_le h n
    have := h n
    simp only [cnt]
    split <;> split <;> first | omega | (exfalso; simp_all)
theorem cnt_add {p q r s : Nat → Bool} (h : ∀ t, (p t = true ∨ q t = true ↔ r t = true ∨ s t = true) ∧ (p t = true ∧ q t = true ↔ r t = true ∧ s t = true)) : ∀ n, cnt p n + cnt q n = cnt r n + cnt s n
  | 0 => rfl
  | n + 1 => by
    have ih := cnt_add h n
    have := h n
    simp only [cnt]
    cases h1 : p n <;> cases h2 : q n <;> cases h3 : r n <;> cases h4 : s n <;> simp_all <;> omega
theorem cnt_none {p : Nat → Bool} (h : ∀ t, p t = false) : ∀ n, cnt p n = 0
  | 0 => rfl
  | n + 1 => by simp [cnt, cnt_none h n, h n]
theorem cnt_row {p : Nat → Bool} {a b : Int} (ha : 0 ≤ a) (hb : 0 ≤ b) (h : ∀ t : Nat, p t = true ↔ a ≤ t ∧ (t : Int) < a + b) : ∀ n : Nat, cnt p n = (if (n : Int) ≤ a then 0 else if (n : Int) ≤ a + b then n - a else b)
  | 0 => by simp [cnt]; omega
  | n + 1 => by
    have ih := cnt_row ha hb h n
    have := h n
    simp only [cnt]
    rw [ih]
    by_cases hp : p n = true
    · rw [if_pos hp]
      have := this.1 hp
      split <;> split <;> (try split) <;> omega
    · rw [if_neg hp]
      have h1 : ¬ (a ≤ (n : Int) ∧ (n : Int) < a + b) := fun h => hp (this.2 h)
      split <;> split <;> (try split) <;> (try split) <;> omega

def inB (l : List Sp) (t : Int) : Bool := l.any fun x => decide (x.1 ≤ t ∧ t < x.1 + x.2)
theorem inB_iff {l : List Sp} {t : Int} : inB l t = true ↔ inS l t := by simp [inB, inS]
theorem sum_cnt : ∀ (l : List Sp), SetOK l l.length → ∀ n : Nat, (∀ x ∈ l, x.1 + x.2 ≤ n) → sumS l = cnt (fun t => inB l t) n
  | [], _, n, _ => by
    exact (cnt_none (p := fun t => inB [] t) (fun t => rfl) n).symm
  | x :: l, h, n, hn => by
    have hx := h.may (k := 0) (by simp) (x := x) (by simp)
    have hxn := hn x (by simp)
    unfold mayS at hx
    have ih := sum_cnt l h.tail.1 n (fun y hy => hn y (by simp [hy]))
    have hrow := cnt_row (p := fun t => inB [x] t) (a := x.1) (b := x.2) (by omega) (by omega) (fun t => by rw [inB_iff, inS_one]) n
    have hadd := cnt_add (p := fun t => inB (x :: l) t) (q := fun _ => false) (r := fun t => inB [x] t) (s := fun t => inB l t) (fun t => by
      simp only [inB_iff]
      rw [inS_cons, inS_one]
      refine ⟨by simp, ?_⟩
      constructor
      · rintro ⟨_, h⟩; cases h
      · rintro ⟨h1, h2⟩
        have := inS_ge h h2
        omega) n
    rw [cnt_none (p := fun _ => false) (fun _ => rfl), hrow] at hadd
    simp only [sumS]
    rw [ih]
    rw [if_neg (by omega)] at hadd
    by_cases q : (n : Int) ≤ x.1 + x.2
    · rw [if_pos q] at hadd; omega
    · rw [if_neg q] at hadd; omega
theorem SetOK.ends {l : List Sp} (h : SetOK l l.length) : ∀ x ∈ l, x.1 + x.2 ≤ ((65536 : Nat) : Int) := fun x hx => by
  have := h.mem rfl hx
  unfold mayS at this
  omega
theorem tot_cnt {l : List Sp} (h : SetOK l l.length) : sumS l = cnt (fun t => inB l t) 65536 := sum_cnt l h 65536 h.ends
theorem tot_add {a b c d : List Sp} (ha : SetOK a a.length) (hb : SetOK b b.length) (hc : SetOK c c.length) (hd : SetOK d d.length) (h : ∀ t, (inS a t ∨ inS b t ↔ inS c t ∨ inS d t) ∧ (inS a t ∧ inS b t ↔ inS c t ∧ inS d t)) : sumS a + sumS b = sumS c + sumS d := by
  rw [tot_cnt ha, tot_cnt hb, tot_cnt hc, tot_cnt hd]
  exact cnt_add (fun t => by simp only [inB_iff]; exact h t) _
theorem tot_le {a b : List Sp} (ha : SetOK a a.length) (hb : SetOK b b.length) (h : ∀ t, inS a t → inS b t) : sumS a ≤ sumS b := by
  rw [tot_cnt ha, tot_cnt hb]
  exact cnt_le (fun t => by simp only [inB_iff]; exact h t) _
theorem tot_part {a b c : List Sp} (ha : SetOK a a.length) (hb : SetOK b b.length) (hc : SetOK c c.length) (h : ∀ t, (inS a t ∨ inS b t ↔ inS c t) ∧ ¬ (inS a t ∧ inS b t)) : sumS a + sumS b = sumS c := by
  have := tot_add ha hb hc (SetOK.nil 0) (d := []) (fun t => ⟨by rw [(h t).1]; exact ⟨.inl, fun q => q.resolve_right (inS_nil t)⟩, ⟨fun q => absurd q (h t).2, fun q => absurd q.2 (inS_nil t)⟩⟩)
  simpa [sumS] using this
theorem sumS_nonneg {l : List Sp} (h : SetOK l l.length) : 0 ≤ sumS l ∧ sumS l ≤ 65536 := by
  rw [tot_cnt h]
  have : ∀ (p : Nat → Bool) (n : Nat), 0 ≤ cnt p n ∧ cnt p n ≤ n := by
    intro p n
    induction n with
    | zero => simp [cnt]
    | succ n ih => simp only [cnt]; split <;> omega
  exact this _ 65536
end Go.Lx
