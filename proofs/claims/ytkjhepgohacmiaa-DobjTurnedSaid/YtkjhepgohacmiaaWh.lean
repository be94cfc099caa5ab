/- The document's numbers and texts that are read, at the beginning of bytes. -/
import Derived.Test.YtkjhepgohacmiaaWg
namespace Go.Lx
open Go.Proofs
set_option linter.unusedVariables false
set_option linter.unusedSimpArgs false
set_option maxRecDepth 20000
set_option maxHeartbeats 4000000

theorem hd_facts : ∀ n : Nat, n < 10 → 1 ≤ n → (hd 1 = 0 ∧ hd 9 = 255 ∧ (n ≤ 8 → hd (n + 1) = hd n + 2 ^ (8 - n))) := by decide +kernel
theorem wid_loop {b : UInt8} {n : Nat} (hn : 1 ≤ n ∧ n ≤ 9) (hlo : n = 1 ∨ hd n ≤ b.toNat) (hhi : n = 9 ∨ b.toNat < hd (n + 1)) : wid b = n := by
  have hf := hd_facts n (by omega) hn.1
  have hb := b.toNat_lt
  by_cases h : n = 9
  · subst h
    exact wid_255 (by omega)
  · exact wid_of ⟨hn.1, by omega⟩ (by rcases hlo with rfl | h'; omega; exact h') (by have := hf.2.2 (by omega); omega)
/-- A number's beginning has room. -/
theorem numS_room {n v j : Nat} (hn : 1 ≤ n ∧ n ≤ 9) (hv : v < 2 ^ (8 - n) ∨ n = 9 ∧ v = 0) (hj : j ≤ n - 1) {l : Bs} (hl : l.length = j) : numS v l < 18446744073709551616 := by
  have hm := num_lt l
  rw [numS_eq, hl]
  rw [hl] at hm
  have hp : 256 ^ j ≤ 256 ^ (n - 1) := Nat.pow_le_pow_right (by decide) hj
  have hp0 : 0 < 256 ^ j := Nat.pow_pos (by decide)
  rcases hv with hv | ⟨rfl, rfl⟩
  · have h1 : (v + 1) * 256 ^ j ≤ 2 ^ (8 - n) * 256 ^ (n - 1) := Nat.mul_le_mul hv hp
    rw [Nat.add_mul, Nat.one_mul] at h1
    have e2 : n = 1 ∨ n = 2 ∨ n = 3 ∨ n = 4 ∨ n = 5 ∨ n = 6 ∨ n = 7 ∨ n = 8 ∨ n = 9 := by omega
    have h2 : 2 ^ (8 - n) * 256 ^ (n - 1) ≤ 18446744073709551616 := by rcases e2 with rfl | rfl | rfl | rfl | rfl | rfl | rfl | rfl | rfl <;> decide
    omega
  · have h2 : 256 ^ (9 - 1) = 18446744073709551616 := by decide
    omega
theorem wid_v (b : UInt8) : b.toNat - hd (wid b) < 2 ^ (8 - wid b) ∨ wid b = 9 ∧ b.toNat - hd (wid b) = 0 := by
  have hwr := wid_range (b := b) rfl
  by_cases h9 : wid b = 9
  · exact .inr ⟨h9, by rw [hwr.2.2 h9, h9]; decide⟩
  · have h1 := hwr.2.1
    rw [if_neg h9] at h1
    exact .inl (by omega)

end Go.Lx
