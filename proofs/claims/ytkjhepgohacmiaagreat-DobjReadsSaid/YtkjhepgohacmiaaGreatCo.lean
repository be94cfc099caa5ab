/- What is read is what was written: plain laws of the numbers' and texts' bytes. -/
import Derived.Test.YtkjhepgohacmiaaGreatWi
import Derived.Test.YtkjhepgohacmiaaGreatWc
namespace Go.Lx
set_option linter.unusedVariables false
set_option linter.unusedSimpArgs false

/-- What a reader without a place answers, and what is left then. -/
def RfR {α : Type} (f : Bs → Option (α × Nat)) (d : α) (s : Bs) (ok : Bool) (x : α) (s' : Bs) (ok' : Bool) : Prop :=
  (ok = true ∧ ∃ n, f s = some (x, n) ∧ s' = s.drop n ∧ ok' = true) ∨ ((ok = false ∨ f s = none) ∧ x = d ∧ s' = s ∧ ok' = false)
theorem textF_le {most : Nat} {s t : Bs} {n : Nat} (h : textF most s = some (t, n)) : n ≤ s.length := by
  unfold textF at h
  split at h
  · split at h
    · cases h; omega
    · cases h
  · cases h

/-- A way to tell things by bytes, and back. -/
structure Cod {α : Type} (f : Bs → Option (α × Nat)) (enc : α → Bs) (ok : α → Prop) : Prop where
  back : ∀ {t : Bs} {x : α} {n : Nat}, f t = some (x, n) → n ≤ t.length ∧ t.take n = enc x ∧ ok x
  fwd : ∀ {x : α} (r : Bs), ok x → f (enc x ++ r) = some (x, (enc x).length)
theorem Cod.cut {α : Type} {f : Bs → Option (α × Nat)} {enc : α → Bs} {ok : α → Prop} (c : Cod f enc ok) {t : Bs} {x : α} {n : Nat} (h : f t = some (x, n)) : t = enc x ++ t.drop n ∧ ok x := by
  obtain ⟨_, h2, h3⟩ := c.back h
  exact ⟨by rw [← h2, List.take_append_drop], h3⟩
theorem Cod.inj {α : Type} {f : Bs → Option (α × Nat)} {enc : α → Bs} {ok : α → Prop} (c : Cod f enc ok) {x y : α} {r q : Bs} (hx : ok x) (hy : ok y) (h : enc x ++ r = enc y ++ q) : x = y ∧ r = q := by
  have h1 := c.fwd r hx
  rw [h, c.fwd q hy] at h1
  simp only [Option.some.injEq, Prod.mk.injEq] at h1
  obtain ⟨rfl, _⟩ := h1
  exact ⟨rfl, List.append_cancel_left h⟩
theorem Cod.rdBack {α : Type} {f : Bs → Option (α × Nat)} {enc : α → Bs} {ok : α → Prop} (c : Cod f enc ok) {d : α} {s : Bs} {p : Nat} {e : Int} {x : α} {p' : Nat} {e' : Int} (h : RdR f d s p e x p' e') (he : e' = 0) : e = 0 ∧ ok x ∧ s.drop p = enc x ++ s.drop p' ∧ p' ≤ s.length := by
  obtain ⟨h0, ⟨h1, n, h2, _, h4⟩ | ⟨_, _, h3⟩⟩ := h
  · have := c.cut h2
    rw [h4, ← List.drop_drop]
    exact ⟨h1, this.2, this.1, by omega⟩
  · exact absurd he h3
theorem Cod.rdFwd {α : Type} {f : Bs → Option (α × Nat)} {enc : α → Bs} {ok : α → Prop} (c : Cod f enc ok) {d : α} {s : Bs} {p : Nat} {x x0 : α} {p' : Nat} {e' : Int} {r : Bs} (h : RdR f d s p 0 x p' e') (h0 : ok x0) (hs : s.drop p = enc x0 ++ r) : x = x0 ∧ e' = 0 ∧ s.drop p' = r := by
  have hf := c.fwd r h0
  rw [← hs] at hf
  obtain ⟨_, ⟨_, n, h2, h3, h4⟩ | ⟨h1 | h1, _, _⟩⟩ := h
  · rw [hf] at h2
    simp only [Option.some.injEq, Prod.mk.injEq] at h2
    obtain ⟨rfl, rfl⟩ := h2
    refine ⟨rfl, h3, ?_⟩
    rw [h4, ← List.drop_drop, hs, List.drop_left]
  · exact absurd rfl h1
  · rw [hf] at h1; cases h1
theorem Cod.rfBack {α : Type} {f : Bs → Option (α × Nat)} {enc : α → Bs} {ok : α → Prop} (c : Cod f enc ok) {d : α} {s s' : Bs} {o o' : Bool} {x : α} (h : RfR f d s o x s' o') (he : o' = true) : o = true ∧ ok x ∧ s = enc x ++ s' := by
  rcases h with ⟨h1, n, h2, h3, _⟩ | ⟨_, _, _, h3⟩
  · have := c.cut h2
    rw [h3]
    exact ⟨h1, this.2, this.1⟩
  · rw [h3] at he; cases he
theorem Cod.rfFwd {α : Type} {f : Bs → Option (α × Nat)} {enc : α → Bs} {ok : α → Prop} (c : Cod f enc ok) {d : α} {s s' : Bs} {o' : Bool} {x x0 : α} {r : Bs} (h : RfR f d s true x s' o') (h0 : ok x0) (hs : s = enc x0 ++ r) : x = x0 ∧ o' = true ∧ s' = r := by
  have hf := c.fwd r h0
  rw [← hs] at hf
  rcases h with ⟨_, n, h2, h3, h4⟩ | ⟨h1 | h1, _, _, _⟩
  · rw [hf] at h2
    simp only [Option.some.injEq, Prod.mk.injEq] at h2
    obtain ⟨rfl, rfl⟩ := h2
    refine ⟨rfl, h4, ?_⟩
    rw [h3, hs, List.drop_left]
  · cases h1
  · rw [hf] at h1; cases h1
theorem RfR.len {α : Type} {f : Bs → Option (α × Nat)} {d : α} {s s' : Bs} {o o' : Bool} {x : α} (h : RfR f d s o x s' o') : s'.length ≤ s.length := by
  rcases h with ⟨_, n, _, h3, _⟩ | ⟨_, _, h3, _⟩
  · rw [h3, List.length_drop]; omega
  · rw [h3]; exact Nat.le_refl _
theorem RfR.off {α : Type} {f : Bs → Option (α × Nat)} {d : α} {s s' : Bs} {o' : Bool} {x : α} (h : RfR f d s false x s' o') : x = d ∧ s' = s ∧ o' = false := by
  rcases h with ⟨h1, _⟩ | ⟨_, h2, h3, h4⟩
  · cases h1
  · exact ⟨h2, h3, h4⟩

theorem codFew : Cod fewF varB (fun x => x < 18446744073709551616) where
  back h := by
    obtain ⟨h1, h2, _, h4⟩ := fewF_some h
    exact ⟨h1, h4, h2⟩
  fwd r h := by rw [fewF_varB h, varB_len]
theorem codInt (most : Nat) (hm : most < 18446744073709551616) : Cod (intF most) varB (fun x => x ≤ most) where
  back {t x n} h := by
    unfold intF at h
    split at h
    · rename_i y m hy
      split at h
      · rename_i hle
        cases h
        obtain ⟨h1, h2, _⟩ := codFew.back hy
        exact ⟨h1, h2, hle⟩
      · cases h
    · cases h
  fwd {x} r h := by
    unfold intF
    rw [codFew.fwd r (Nat.lt_of_le_of_lt h hm)]
    simp only
    rw [if_pos h]
theorem codFix (n : Nat) : Cod (fixF n) (fun x => fixB x n) (fun x => x < 256 ^ n) where
  back {t x m} h := by
    unfold fixF at h
    split at h
    · cases h
    · rename_i hn
      cases h
      have hl : (t.take n).length = n := by rw [List.length_take]; omega
      refine ⟨by omega, ?_, ?_⟩
      · have := fixB_num (t.take n)
        rw [hl] at this
        exact this.symm
      · have := num_lt (t.take n)
        rw [hl] at this
        exact this
  fwd {x} r h := by
    unfold fixF
    have hl := fixB_len x n
    rw [if_neg (by rw [List.length_append, hl]; omega), List.take_left' hl, num_fixB, Nat.mod_eq_of_lt h, hl]
theorem codText (most : Nat) (hm : most < 18446744073709551616) : Cod (textF most) textB (fun s => s.length ≤ most) where
  back {t x n} h := by
    unfold textF at h
    split at h
    · rename_i y m hy
      split at h
      · rename_i hle
        simp only [Option.some.injEq, Prod.mk.injEq] at h
        obtain ⟨rfl, rfl⟩ := h
        obtain ⟨h1, h2, h3⟩ := (codInt most hm).back hy
        have hlen : ((t.drop m).take y).length = y := by rw [List.length_take, List.length_drop]; omega
        refine ⟨hle, ?_, by rw [hlen]; exact h3⟩
        unfold textB
        rw [hlen, ← h2, List.take_add]
      · cases h
    · cases h
  fwd {x} r h := by
    unfold textF textB
    rw [List.append_assoc, (codInt most hm).fwd _ h]
    simp only
    rw [if_pos (by simp), List.drop_left, List.take_left]
    simp
/-- A row of things, one behind the other. -/
theorem encs_inj {α : Type} {enc : α → Bs} {ok : α → Prop} (c : ∀ {x y : α} {r q : Bs}, ok x → ok y → enc x ++ r = enc y ++ q → x = y ∧ r = q) : ∀ {l m : List α} {r q : Bs}, (∀ x ∈ l, ok x) → (∀ x ∈ m, ok x) → l.length = m.length → l.flatMap enc ++ r = m.flatMap enc ++ q → l = m ∧ r = q
  | [], [], r, q, _, _, _, h => ⟨rfl, by simpa using h⟩
  | x :: l, y :: m, r, q, hl, hm, hlen, h => by
    simp only [List.flatMap_cons, List.append_assoc] at h
    obtain ⟨rfl, h2⟩ := c (hl x (by simp)) (hm y (by simp)) h
    obtain ⟨rfl, h3⟩ := encs_inj c (fun z hz => hl z (List.mem_cons_of_mem _ hz)) (fun z hz => hm z (List.mem_cons_of_mem _ hz)) (by simpa using hlen) h2
    exact ⟨rfl, h3⟩
  | [], y :: m, _, _, _, _, h, _ => by simp at h
  | x :: l, [], _, _, _, _, h, _ => by simp at h
theorem textB_len (s : Bs) : (textB s).length ≤ s.length + 9 := by
  have := varB_len s.length
  have := vsz_bd s.length
  simp only [textB, List.length_append]
  omega
theorem varB_le (x : Nat) : (varB x).length ≤ 9 := by
  have := varB_len x
  have := vsz_bd x
  omega
theorem D.convI {C : Cx} {W : World → Prop} {env : Env} {ty t t2 : TypeId} {pos : String} {af : Array Edge} {gd : Option (Nat × Bool)} {ds : Option Tmp} {x : Operand} {v : Int} [h1 : IntT C.P t .i64] [h2 : IntT C.P t2 .u64] (hx : ev env x = some (.int .i64 v)) (h0 : 0 ≤ v ∧ v < 9223372036854775808) :
    Det C W env ⟨ds, .convert t t2 x, ty, pos, af, gd⟩ (.int .u64 ((v.toNat : Nat) : Int)) := by
  have := D.convN (C := C) (W := W) (ds := ds) (ty := ty) (pos := pos) (af := af) (gd := gd) (t := t) (t2 := t2) (k := .u64) (k' := .i64) (a := v.toNat) rfl (by rw [hx, Int.toNat_of_nonneg h0.1])
  rwa [Nat.mod_eq_of_lt (show v.toNat < 2 ^ IntKind.u64.bits from Nat.lt_of_lt_of_le (show v.toNat < 9223372036854775808 by omega) (by decide))] at this
end Go.Lx
