/- Numbers in few bytes: plain laws. -/
import Derived.Test.YtkjhepgohacmiaaGreatXl
namespace Go.Lx
set_option linter.unusedVariables false
set_option linter.unusedSimpArgs false

/-- How many bits a number needs. -/
def bl (x : Nat) : Nat := if h : x = 0 then 0 else bl (x / 2) + 1
termination_by x
decreasing_by omega
theorem bl_zero : bl 0 = 0 := by unfold bl; rfl
theorem bl_pos {x : Nat} (h : x ≠ 0) : bl x = bl (x / 2) + 1 := by rw [bl, dif_neg h]
theorem bl_le : ∀ (k x : Nat), bl x ≤ k ↔ x < 2 ^ k
  | 0, x => by
    by_cases h : x = 0
    · subst h; simp [bl_zero]
    · rw [bl_pos h]; simp; exact h
  | k + 1, x => by
    by_cases h : x = 0
    · subst h; rw [bl_zero]; simp [Nat.pow_pos]
    · rw [bl_pos h, Nat.pow_succ]
      have := bl_le k (x / 2)
      omega
theorem bl_shift : ∀ (k x : Nat), 2 ^ k ≤ x → bl x = bl (x / 2 ^ k) + k
  | 0, x, _ => by simp
  | k + 1, x, h => by
    have hp : 0 < 2 ^ k := Nat.pow_pos (by decide)
    rw [Nat.pow_succ] at h
    rw [bl_pos (by omega), bl_shift k (x / 2) (by omega), Nat.div_div_eq_div_mul, Nat.pow_succ, Nat.mul_comm 2]
    omega
/-- How many bytes a number needs. -/
def vsz (x : Nat) : Nat := min (max ((bl x + 6) / 7) 1) 9
theorem vsz_le {x n : Nat} (h1 : 1 ≤ n) (h9 : n < 9) : vsz x ≤ n ↔ x < 128 ^ n := by
  have e : (128 : Nat) ^ n = 2 ^ (7 * n) := by rw [Nat.pow_mul]
  rw [e, ← bl_le]
  unfold vsz
  omega
theorem vsz_bd (x : Nat) : 1 ≤ vsz x ∧ vsz x ≤ 9 := by unfold vsz; omega
theorem vsz_eq {x n : Nat} (h : 1 ≤ n ∧ n ≤ 9) (hlo : n = 1 ∨ 128 ^ (n - 1) ≤ x) (hhi : n = 9 ∨ x < 128 ^ n) : vsz x = n := by
  have hb := vsz_bd x
  have h1 : vsz x ≤ n := by
    rcases hhi with rfl | hhi
    · omega
    · by_cases h9 : n < 9
      · exact (vsz_le h.1 h9).2 hhi
      · omega
  rcases hlo with rfl | hlo
  · omega
  · by_cases hn : n = 1
    · omega
    · have := vsz_le (x := x) (n := n - 1) (by omega) (by omega)
      have h2 : ¬ vsz x ≤ n - 1 := fun h => by have := this.1 h; omega
      omega
/-- The first byte's bits that tell how many there are. -/
def hd (n : Nat) : Nat := 255 - 255 / 2 ^ (n - 1)
def fixB (x : Nat) : Nat → Bs
  | 0 => []
  | n + 1 => UInt8.ofNat (x / 256 ^ n) :: fixB x n
theorem fixB_len (x : Nat) : ∀ n, (fixB x n).length = n
  | 0 => rfl
  | n + 1 => by simp [fixB, fixB_len x n]
def varB (x : Nat) : Bs := UInt8.ofNat (hd (vsz x) + x / 256 ^ (vsz x - 1)) :: fixB x (vsz x - 1)
theorem varB_len (x : Nat) : (varB x).length = vsz x := by
  have := vsz_bd x
  simp [varB, fixB_len]; omega
def numS (x0 : Nat) (l : Bs) : Nat := l.foldl (fun x b => 256 * x + b.toNat) x0
def num (l : Bs) : Nat := numS 0 l
theorem numS_eq : ∀ (l : Bs) (x0 : Nat), numS x0 l = x0 * 256 ^ l.length + num l
  | [], x0 => by simp [numS, num]
  | b :: l, x0 => by
    have h1 := numS_eq l (256 * x0 + b.toNat)
    have h2 := numS_eq l (256 * 0 + b.toNat)
    unfold num
    show numS (256 * x0 + b.toNat) l = _ + numS (256 * 0 + b.toNat) l
    rw [h1, h2]
    simp only [List.length_cons, Nat.pow_succ]
    rw [Nat.mul_zero, Nat.zero_add, Nat.add_mul, Nat.mul_comm 256 x0, Nat.mul_assoc, Nat.mul_comm 256 (256 ^ l.length), Nat.add_assoc]
theorem num_lt : ∀ l : Bs, num l < 256 ^ l.length
  | [] => by simp [num, numS]
  | b :: l => by
    have h := num_lt l
    have hb := b.toNat_lt
    show numS (256 * 0 + b.toNat) l < _
    rw [numS_eq]
    simp only [List.length_cons, Nat.pow_succ, Nat.mul_zero, Nat.zero_add]
    have h3 : b.toNat * 256 ^ l.length ≤ 255 * 256 ^ l.length := Nat.mul_le_mul_right _ (by omega)
    omega
theorem num_cons (b : UInt8) (l : Bs) : num (b :: l) = b.toNat * 256 ^ l.length + num l := by
  show numS (256 * 0 + b.toNat) l = _
  rw [numS_eq]; simp
theorem num_snoc (l : Bs) (b : UInt8) : num (l ++ [b]) = 256 * num l + b.toNat := by simp [num, numS]
theorem numS_snoc (x : Nat) (l : Bs) (b : UInt8) : numS x (l ++ [b]) = 256 * numS x l + b.toNat := by simp [numS]
theorem num_fixB (x : Nat) : ∀ n, num (fixB x n) = x % 256 ^ n
  | 0 => by simp [fixB, num, numS, Nat.mod_one]
  | n + 1 => by
    rw [fixB, num_cons, num_fixB x n, fixB_len]
    have e : (UInt8.ofNat (x / 256 ^ n)).toNat = x / 256 ^ n % 256 := by simp
    rw [e, Nat.pow_succ, Nat.mod_mul, Nat.mul_comm, Nat.add_comm]
theorem fixB_num : ∀ (l : Bs), fixB (num l) l.length = l
  | [] => rfl
  | b :: l => by
    have hp : 0 < 256 ^ l.length := Nat.pow_pos (by decide)
    have hl := num_lt l
    rw [num_cons]
    simp only [List.length_cons, fixB]
    congr 1
    · rw [Nat.add_comm, Nat.add_mul_div_right _ _ hp, Nat.div_eq_of_lt hl, Nat.zero_add]; simp
    · have key : ∀ (n : Nat) (y z : Nat), y % 256 ^ n = z % 256 ^ n → fixB y n = fixB z n := by
        intro n
        induction n with
        | zero => intros; rfl
        | succ n ih =>
          intro y z h
          simp only [fixB]
          have h1 : y % 256 ^ n = z % 256 ^ n := by
            have := congrArg (· % 256 ^ n) h
            simpa [Nat.pow_succ, Nat.mod_mul_right_mod] using this
          rw [ih y z h1]
          congr 1
          have h2 : y / 256 ^ n % 256 = z / 256 ^ n % 256 := by
            have e : ∀ a, a % 256 ^ (n + 1) / 256 ^ n = a / 256 ^ n % 256 := fun a => by rw [Nat.pow_succ, Nat.mod_mul_right_div_self]
            rw [← e, ← e, h]
          apply UInt8.toNat_inj.1
          simpa using h2
      rw [key l.length _ (num l) (by rw [Nat.add_comm, Nat.add_mul_mod_self_right])]
      exact fixB_num l
/-- How many bytes the first byte tells. -/
def wid (b : UInt8) : Nat := 9 - bl (255 - b.toNat)
theorem wid_bd (b : UInt8) : 1 ≤ wid b ∧ wid b ≤ 9 := by
  have : bl (255 - b.toNat) ≤ 8 := (bl_le 8 _).2 (by have := b.toNat_lt; omega)
  unfold wid; omega
/-- The first byte tells n. -/
theorem wid_range {b : UInt8} {n : Nat} (h : wid b = n) : hd n ≤ b.toNat ∧ b.toNat < hd n + 2 ^ (8 - n) + (if n = 9 then 1 else 0) ∧ (n = 9 → b.toNat = 255) := by
  have hb := b.toNat_lt
  have h9 := wid_bd b
  have h1 := bl_le (9 - n) (255 - b.toNat)
  have h2 := bl_le (8 - n) (255 - b.toNat)
  unfold wid at h
  have hx : bl (255 - b.toNat) ≤ 8 := (bl_le 8 _).2 (by omega)
  have h3 : 255 - b.toNat < 2 ^ (9 - n) := h1.1 (by omega)
  have h4 : n = 9 ∨ ¬ 255 - b.toNat < 2 ^ (8 - n) := by
    by_cases e : n = 9
    · exact .inl e
    · exact .inr fun h' => by have := h2.2 h'; omega
  have hn : n = 1 ∨ n = 2 ∨ n = 3 ∨ n = 4 ∨ n = 5 ∨ n = 6 ∨ n = 7 ∨ n = 8 ∨ n = 9 := by unfold wid at h9; omega
  rcases hn with rfl | rfl | rfl | rfl | rfl | rfl | rfl | rfl | rfl <;> simp [hd] at * <;> omega
theorem wid_of {b : UInt8} {n : Nat} (hn : 1 ≤ n ∧ n ≤ 8) (h1 : hd n ≤ b.toNat) (h2 : b.toNat < hd n + 2 ^ (8 - n)) : wid b = n := by
  have hb := b.toNat_lt
  have k1 := bl_le (9 - n) (255 - b.toNat)
  have k2 := bl_le (8 - n) (255 - b.toNat)
  unfold wid
  have e : n = 1 ∨ n = 2 ∨ n = 3 ∨ n = 4 ∨ n = 5 ∨ n = 6 ∨ n = 7 ∨ n = 8 := by omega
  rcases e with rfl | rfl | rfl | rfl | rfl | rfl | rfl | rfl <;> simp [hd] at * <;> omega
theorem wid_255 {b : UInt8} (h : b.toNat = 255) : wid b = 9 := by unfold wid; rw [h]; rw [bl_zero]
/-- The number in few bytes at the beginning, and how many these are. -/
def fewF : Bs → Option (Nat × Nat)
  | [] => none
  | b :: r => if r.length + 1 < wid b then none else if vsz (numS (b.toNat - hd (wid b)) (r.take (wid b - 1))) = wid b then some (numS (b.toNat - hd (wid b)) (r.take (wid b - 1)), wid b) else none
theorem hd_le (n : Nat) (h : 1 ≤ n ∧ n ≤ 9) : hd n + 2 ^ (8 - n) ≤ 256 := by
  have e : n = 1 ∨ n = 2 ∨ n = 3 ∨ n = 4 ∨ n = 5 ∨ n = 6 ∨ n = 7 ∨ n = 8 ∨ n = 9 := by omega
  rcases e with rfl | rfl | rfl | rfl | rfl | rfl | rfl | rfl | rfl <;> decide
/-- The high byte of a number has room for what tells how many there are. -/
theorem top_lt {x n : Nat} (hn : 1 ≤ n ∧ n ≤ 8) (h : x < 128 ^ n) : x / 256 ^ (n - 1) < 2 ^ (8 - n) := by
  rw [Nat.div_lt_iff_lt_mul (Nat.pow_pos (by decide))]
  have e : (2 : Nat) ^ (8 - n) * 256 ^ (n - 1) = 128 ^ n := by
    have e2 : n = 1 ∨ n = 2 ∨ n = 3 ∨ n = 4 ∨ n = 5 ∨ n = 6 ∨ n = 7 ∨ n = 8 := by omega
    rcases e2 with rfl | rfl | rfl | rfl | rfl | rfl | rfl | rfl <;> decide
  rw [e]; exact h
theorem varB_top {x : Nat} (hx : x < 18446744073709551616) : (vsz x = 9 ∧ x / 256 ^ (vsz x - 1) = 0) ∨ (vsz x ≤ 8 ∧ x / 256 ^ (vsz x - 1) < 2 ^ (8 - vsz x)) := by
  have hb := vsz_bd x
  by_cases h : vsz x = 9
  · refine .inl ⟨h, ?_⟩
    rw [h]
    exact Nat.div_eq_of_lt hx
  · refine .inr ⟨by omega, top_lt ⟨hb.1, by omega⟩ ((vsz_le hb.1 (by omega)).1 (Nat.le_refl _))⟩
theorem varB_first {x : Nat} (hx : x < 18446744073709551616) : (UInt8.ofNat (hd (vsz x) + x / 256 ^ (vsz x - 1))).toNat = hd (vsz x) + x / 256 ^ (vsz x - 1) ∧ wid (UInt8.ofNat (hd (vsz x) + x / 256 ^ (vsz x - 1))) = vsz x := by
  have hb := vsz_bd x
  have hh := hd_le (vsz x) hb
  rcases varB_top hx with ⟨h9, h0⟩ | ⟨h8, ht⟩
  · rw [h0, h9]
    exact ⟨by decide, wid_255 (by decide)⟩
  · have e : (UInt8.ofNat (hd (vsz x) + x / 256 ^ (vsz x - 1))).toNat = hd (vsz x) + x / 256 ^ (vsz x - 1) := by
      generalize x / 256 ^ (vsz x - 1) = q at *
      simp; omega
    exact ⟨e, wid_of ⟨hb.1, h8⟩ (by rw [e]; exact Nat.le_add_right _ _) (by rw [e]; exact Nat.add_lt_add_left ht _)⟩
theorem fewF_varB {x : Nat} (hx : x < 18446744073709551616) (t : Bs) : fewF (varB x ++ t) = some (x, vsz x) := by
  have hb := vsz_bd x
  obtain ⟨e1, e2⟩ := varB_first hx
  unfold varB
  rw [List.cons_append, fewF, e2, e1, if_neg (by simp [fixB_len]; omega)]
  have e3 : numS (hd (vsz x) + x / 256 ^ (vsz x - 1) - hd (vsz x)) ((fixB x (vsz x - 1) ++ t).take (vsz x - 1)) = x := by
    rw [List.take_left' (fixB_len _ _), numS_eq, num_fixB, fixB_len, Nat.add_sub_cancel_left, Nat.mul_comm]
    exact Nat.div_add_mod x (256 ^ (vsz x - 1))
  rw [e3, if_pos rfl]
theorem fewF_some {t : Bs} {x n : Nat} (h : fewF t = some (x, n)) : n ≤ t.length ∧ x < 18446744073709551616 ∧ vsz x = n ∧ t.take n = varB x := by
  cases t with
  | nil => cases h
  | cons b r =>
    rw [fewF] at h
    split at h
    · cases h
    · split at h
      · rename_i h1 h2
        injection h with h
        obtain ⟨h3, h4⟩ := Prod.mk.inj h
        subst h4
        rw [h3] at h2
        have hw := wid_bd b
        have hr := wid_range (b := b) rfl
        have hl : (r.take (wid b - 1)).length = wid b - 1 := by rw [List.length_take]; omega
        have hnl := num_lt (r.take (wid b - 1))
        rw [hl] at hnl
        rw [numS_eq, hl] at h3
        have hp : 0 < 256 ^ (wid b - 1) := Nat.pow_pos (by decide)
        have hdiv : x / 256 ^ (wid b - 1) = b.toNat - hd (wid b) := by rw [← h3, Nat.add_comm, Nat.add_mul_div_right _ _ hp, Nat.div_eq_of_lt hnl, Nat.zero_add]
        have hbt : b.toNat - hd (wid b) < 2 ^ (8 - wid b) ∨ (wid b = 9 ∧ b.toNat - hd (wid b) = 0) := by
          by_cases e : wid b = 9
          · refine .inr ⟨e, ?_⟩
            rw [hr.2.2 e, e]; decide
          · rw [if_neg e] at hr; exact .inl (by omega)
        refine ⟨by simp; omega, ?_, h2, ?_⟩
        · have hpw : (2 : Nat) ^ (8 - wid b) * 256 ^ (wid b - 1) ≤ 18446744073709551616 := by
            have e2 : wid b = 1 ∨ wid b = 2 ∨ wid b = 3 ∨ wid b = 4 ∨ wid b = 5 ∨ wid b = 6 ∨ wid b = 7 ∨ wid b = 8 ∨ wid b = 9 := by omega
            rcases e2 with e | e | e | e | e | e | e | e | e <;> rw [e] <;> decide
          rcases hbt with hbt | ⟨e, hbt⟩
          · have h5 : (b.toNat - hd (wid b)) * 256 ^ (wid b - 1) ≤ (2 ^ (8 - wid b) - 1) * 256 ^ (wid b - 1) := Nat.mul_le_mul_right _ (by omega)
            rw [show (2 ^ (8 - wid b) - 1) * 256 ^ (wid b - 1) = 2 ^ (8 - wid b) * 256 ^ (wid b - 1) - 256 ^ (wid b - 1) by rw [Nat.sub_mul, Nat.one_mul]] at h5
            have h6 : 256 ^ (wid b - 1) ≤ 2 ^ (8 - wid b) * 256 ^ (wid b - 1) := Nat.le_mul_of_pos_left _ (Nat.pow_pos (by decide))
            omega
          · rw [hbt] at h3
            rw [e] at hnl hpw h3
            omega
        · obtain ⟨m, hm⟩ : ∃ m, wid b = m + 1 := ⟨wid b - 1, by omega⟩
          unfold varB
          rw [h2, hdiv]
          have e1 : UInt8.ofNat (hd (wid b) + (b.toNat - hd (wid b))) = b := by
            rw [show hd (wid b) + (b.toNat - hd (wid b)) = b.toNat by omega]
            simp
          rw [e1]
          have e2 : fixB x (wid b - 1) = r.take (wid b - 1) := by
            have := fixB_num (r.take (wid b - 1))
            rw [hl] at this
            rw [← this]
            have key : ∀ (k : Nat) (y z : Nat), fixB (y * 256 ^ k + z) k = fixB z k := by
              intro k
              suffices ∀ (k : Nat) (j y z : Nat), j ≤ k → fixB (y * 256 ^ k + z) j = fixB z j from fun y z => this k k y z (Nat.le_refl _)
              intro k j
              induction j with
              | zero => intros; rfl
              | succ j ih =>
                intro y z hj
                simp only [fixB]
                rw [ih y z (by omega)]
                congr 1
                apply UInt8.toNat_inj.1
                have e : y * 256 ^ k + z = z + y * 256 ^ (k - j - 1) * 256 * 256 ^ j := by
                  have : 256 ^ k = 256 ^ (k - j - 1) * 256 * 256 ^ j := by
                    rw [← Nat.pow_succ, ← Nat.pow_add]; congr 1; omega
                  rw [this, Nat.add_comm]; simp [Nat.mul_assoc]
                rw [e]
                simp [Nat.add_mul_div_right _ _ (Nat.pow_pos (show 0 < 256 by decide))]
            rw [← h3]
            exact key _ _ _
          rw [e2, hm]
          simp
      · cases h
end Go.Lx
