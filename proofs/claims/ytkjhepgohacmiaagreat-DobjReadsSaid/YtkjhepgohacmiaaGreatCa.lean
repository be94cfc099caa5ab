/- Check sums: plain laws. -/
import Derived.Test.YtkjhepgohacmiaaGreatXl
namespace Go.Lx
set_option linter.unusedVariables false
set_option linter.unusedSimpArgs false

def cstep (x : Nat) : Nat := if x % 2 = 1 then x / 2 ^^^ 2197175160 else x / 2
def cit (x : Nat) : Nat → Nat
  | 0 => x
  | k + 1 => cstep (cit x k)
def cbyte (x : Nat) (b : UInt8) : Nat := cit (x ^^^ b.toNat) 8
def cmore (x : Nat) (l : Bs) : Nat := l.foldl cbyte x
def crc (l : Bs) : Nat := 4294967295 - cmore 4294967295 l
theorem byte_lt (b : UInt8) : b.toNat < 256 := b.toNat_lt
theorem cstep_lt {x : Nat} (h : x < 4294967296) : cstep x < 4294967296 := by
  unfold cstep
  split
  · exact Nat.xor_lt_two_pow (n := 32) (by omega) (by omega)
  · omega
theorem cit_lt {x : Nat} (h : x < 4294967296) : ∀ k, cit x k < 4294967296
  | 0 => h
  | k + 1 => cstep_lt (cit_lt h k)
theorem xorb_lt {x : Nat} (h : x < 4294967296) (b : UInt8) : x ^^^ b.toNat < 4294967296 := Nat.xor_lt_two_pow (n := 32) h (by have := byte_lt b; omega)
theorem cbyte_lt {x : Nat} (h : x < 4294967296) (b : UInt8) : cbyte x b < 4294967296 := cit_lt (xorb_lt h b) 8
theorem cmore_lt : ∀ (l : Bs) {x : Nat}, x < 4294967296 → cmore x l < 4294967296
  | [], x, h => h
  | b :: l, x, h => cmore_lt l (cbyte_lt h b)
theorem crc_lt (l : Bs) : crc l < 4294967296 := by unfold crc; omega
theorem cmore_append (x : Nat) (l m : Bs) : cmore x (l ++ m) = cmore (cmore x l) m := by unfold cmore; rw [List.foldl_append]
theorem xor_cancel {a b c : Nat} (h : a ^^^ c = b ^^^ c) : a = b := by
  have := congrArg (· ^^^ c) h
  simpa [Nat.xor_assoc] using this
theorem xor_cancel' {a b c : Nat} (h : c ^^^ a = c ^^^ b) : a = b := by
  rw [Nat.xor_comm c a, Nat.xor_comm c b] at h
  exact xor_cancel h
theorem cstep_inj {x y : Nat} (hx : x < 4294967296) (hy : y < 4294967296) (h : cstep x = cstep y) : x = y := by
  unfold cstep at h
  have key : ∀ a b : Nat, a < 2147483648 → b < 2147483648 → a ^^^ 2197175160 ≠ b := fun a b ha hb e => by
    have : a ^^^ b < 2 ^ 31 := Nat.xor_lt_two_pow (by omega) (by omega)
    rw [← e, ← Nat.xor_assoc, Nat.xor_self, Nat.zero_xor] at this
    omega
  split at h <;> split at h
  · have := xor_cancel h; omega
  · exact absurd h (key _ _ (by omega) (by omega))
  · exact absurd h.symm (key _ _ (by omega) (by omega))
  · omega
theorem cit_inj {x y : Nat} (hx : x < 4294967296) (hy : y < 4294967296) : ∀ k, cit x k = cit y k → x = y
  | 0, h => h
  | k + 1, h => cit_inj hx hy k (cstep_inj (cit_lt hx k) (cit_lt hy k) h)
theorem cbyte_inj {x y : Nat} (hx : x < 4294967296) (hy : y < 4294967296) (b : UInt8) (h : cbyte x b = cbyte y b) : x = y :=
  xor_cancel (cit_inj (xorb_lt hx b) (xorb_lt hy b) 8 h)
theorem cbyte_byte {x : Nat} (hx : x < 4294967296) {a b : UInt8} (h : cbyte x a = cbyte x b) : a = b :=
  UInt8.toNat_inj.1 (xor_cancel' (cit_inj (xorb_lt hx a) (xorb_lt hx b) 8 h))
theorem cmore_inj : ∀ (l : Bs) {x y : Nat}, x < 4294967296 → y < 4294967296 → cmore x l = cmore y l → x = y
  | [], x, y, hx, hy, h => h
  | b :: l, x, y, hx, hy, h => cbyte_inj hx hy b (cmore_inj l (cbyte_lt hx b) (cbyte_lt hy b) h)
/-- A byte that is turned is told by the check sum. -/
theorem crc_turn {l : Bs} {k : Nat} {b : UInt8} (hk : k < l.length) (hb : l[k] ≠ b) : crc (l.set k b) ≠ crc l := by
  intro h
  have h1 := cmore_lt l (x := 4294967295) (by omega)
  have h2 := cmore_lt (l.set k b) (x := 4294967295) (by omega)
  unfold crc at h
  have e : cmore 4294967295 (l.set k b) = cmore 4294967295 l := by omega
  have el : l = l.take k ++ l[k] :: l.drop (k + 1) := by
    rw [← List.drop_eq_getElem_cons hk, List.take_append_drop]
  rw [List.set_eq_take_append_cons_drop, if_pos hk] at e
  have e2 : cmore 4294967295 l = cmore 4294967295 (l.take k ++ l[k] :: l.drop (k + 1)) := by rw [← el]
  rw [e2, cmore_append, cmore_append] at e
  have h3 := cmore_lt (l.take k) (x := 4294967295) (by omega)
  have e3 := cmore_inj (l.drop (k + 1)) (cbyte_lt h3 b) (cbyte_lt h3 l[k]) e
  exact hb (cbyte_byte h3 e3).symm

def four (x : Nat) : Bs := [UInt8.ofNat x, UInt8.ofNat (x / 256), UInt8.ofNat (x / 65536), UInt8.ofNat (x / 16777216)]
theorem four_len (x : Nat) : (four x).length = 4 := rfl
theorem four_inj {x y : Nat} (hx : x < 4294967296) (hy : y < 4294967296) (h : four x = four y) : x = y := by
  simp only [four, List.cons.injEq, and_true] at h
  obtain ⟨h1, h2, h3, h4⟩ := h
  have g : ∀ a b : Nat, UInt8.ofNat a = UInt8.ofNat b → a % 256 = b % 256 := fun a b h => by
    have := congrArg UInt8.toNat h
    simpa using this
  have := g _ _ h1; have := g _ _ h2; have := g _ _ h3; have := g _ _ h4
  omega
def sealS (l : Bs) : Bs := l ++ four (crc l)
theorem sealS_len (l : Bs) : (sealS l).length = l.length + 4 := by simp [sealS, four_len]
/-- What Open answers: what is sealed, and what is wrong. -/
def openS (l : Bs) : Bs × Int := if l.length < 4 then ([], 10) else if four (crc (l.take (l.length - 4))) ≠ l.drop (l.length - 4) then ([], 13) else (l.take (l.length - 4), 0)
theorem openS_seal (l : Bs) : openS (sealS l) = (l, 0) := by
  unfold openS
  rw [if_neg (by rw [sealS_len]; omega), sealS_len, show l.length + 4 - 4 = l.length by omega]
  unfold sealS
  rw [List.take_left, List.drop_left, if_neg (fun h => h rfl)]
theorem openS_ok {l t : Bs} (h : openS l = (t, 0)) : l = sealS t := by
  unfold openS at h
  split at h
  · cases h
  · split at h
    · cases h
    · rename_i h1 h2
      cases h
      unfold sealS
      rw [show four (crc (l.take (l.length - 4))) = l.drop (l.length - 4) from Classical.not_not.1 h2, List.take_append_drop]
theorem openS_err {l t : Bs} {e : Int} (h : openS l = (t, e)) : e = 0 ∨ e = 10 ∨ e = 13 := by
  unfold openS at h
  split at h
  · cases h; exact .inr (.inl rfl)
  · split at h
    · cases h; exact .inr (.inr rfl)
    · cases h; exact .inl rfl
/-- Sealed bytes of which one is turned are none. -/
theorem openS_turn {l : Bs} {k : Nat} {b : UInt8} (hk : k < (sealS l).length) (hb : (sealS l)[k] ≠ b) : openS ((sealS l).set k b) = ([], 13) := by
  unfold openS
  rw [List.length_set, if_neg (by rw [sealS_len]; omega), sealS_len, show l.length + 4 - 4 = l.length by omega, if_pos]
  intro h
  unfold sealS at h hb hk
  by_cases hkl : k < l.length
  · rw [List.set_append_left _ _ hkl, List.take_left' (by rw [List.length_set]), List.drop_left' (by rw [List.length_set])] at h
    have e := four_inj (crc_lt _) (crc_lt _) h
    rw [List.getElem_append_left hkl] at hb
    exact crc_turn hkl hb e
  · rw [List.set_append_right _ _ (by omega), List.take_left, List.drop_left] at h
    rw [List.getElem_append_right (by omega)] at hb
    have hk4 : k - l.length < (four (crc l)).length := by rw [four_len]; simp [four_len] at hk; omega
    have := congrArg (fun x : Bs => x[k - l.length]?) h
    simp only [List.getElem?_set_self hk4, List.getElem?_eq_getElem hk4] at this
    exact hb (Option.some.inj this)
end Go.Lx
