import Derived.Test.YtakoppmiegjjlaaGreatDoorM14
import Derived.Test.YtakoppmiegjjlaaGreatDoorM4
set_option linter.unusedVariables false
set_option linter.unusedSimpArgs false
namespace Go.Lx
structure Ext where
  a : Int
  n : Int
  q : Int
  p : Int
  deriving DecidableEq, Inhabited
def encE1 (x : Ext) : List Value := [.int .i64 x.a, .int .i64 x.n, .int .i64 x.q, .int .i64 x.p]
def encE (l : List Ext) : List Value := l.flatMap encE1
def plS (q p : Int) : Prop := 0 ≤ q ∧ q < 1099511627776 ∧ 0 ≤ p ∧ p < 1099511627776
instance (q p : Int) : Decidable (plS q p) := by unfold plS; infer_instance
def mayE (x : Ext) : Prop := mayS (x.a, x.n) ∧ plS x.q x.p
instance (x : Ext) : Decidable (mayE x) := by unfold mayE; infer_instance
def inE (x : Ext) : Prop := 0 ≤ x.a ∧ 1 ≤ x.n ∧ x.a + x.n ≤ 65536 ∧ 0 ≤ x.q ∧ x.q < 1099511627776 ∧ 0 ≤ x.p ∧ x.p + x.n ≤ 1099511693312
theorem mayE.inE {x : Ext} (h : mayE x) : inE x := by unfold mayE mayS plS at h; unfold Lx.inE; dsimp only at h; omega
def Rise (lo : Int) : List Ext → Prop
  | [] => True
  | x :: l => lo ≤ x.a ∧ inE x ∧ Rise (x.a + x.n) l
def endE (lo : Int) : List Ext → Int
  | [] => lo
  | x :: l => endE (x.a + x.n) l
theorem rise_append : ∀ {lo : Int} {l m : List Ext}, Rise lo (l ++ m) ↔ Rise lo l ∧ Rise (endE lo l) m
  | lo, [], m => by simp [Rise, endE]
  | lo, x :: l, m => by
    simp only [List.cons_append, Rise, endE, rise_append (l := l)]
    constructor
    · rintro ⟨h1, h2, h3, h4⟩; exact ⟨⟨h1, h2, h3⟩, h4⟩
    · rintro ⟨⟨h1, h2, h3⟩, h4⟩; exact ⟨h1, h2, h3, h4⟩
theorem endE_append : ∀ {lo : Int} {l m : List Ext}, endE lo (l ++ m) = endE (endE lo l) m
  | lo, [], m => rfl
  | lo, x :: l, m => by simp only [List.cons_append, endE, endE_append (l := l)]
theorem Rise.mem : ∀ {lo : Int} {l : List Ext} {x : Ext}, Rise lo l → x ∈ l → inE x ∧ lo ≤ x.a
  | lo, y :: l, x, h, hx => by
    rcases List.mem_cons.1 hx with rfl | hx
    · exact ⟨h.2.1, h.1⟩
    · have := Rise.mem h.2.2 hx
      have h2 := h.2.1
      unfold inE at h2
      have h1 := h.1
      exact ⟨this.1, by omega⟩
def Fol (x y : Ext) : Prop := x.a + x.n = y.a ∧ x.q = y.q ∧ x.p + x.n = y.p
instance (x y : Ext) : Decidable (Fol x y) := by unfold Fol; infer_instance
def NF : List Ext → Prop
  | [] => True
  | [_] => True
  | x :: y :: l => ¬ Fol x y ∧ NF (y :: l)
theorem NF.tail {x : Ext} {l : List Ext} (h : NF (x :: l)) : NF l := by
  cases l with
  | nil => trivial
  | cons y l => exact h.2
theorem nf_snoc2 : ∀ {l : List Ext} {x y : Ext}, NF (l ++ [x, y]) ↔ NF (l ++ [x]) ∧ ¬ Fol x y
  | [], x, y => by simp [NF]
  | [z], x, y => by simp [NF]
  | z :: w :: l, x, y => by
    have := nf_snoc2 (l := w :: l) (x := x) (y := y)
    simp only [List.cons_append, NF] at this ⊢
    rw [this, and_assoc]
def atE (l : List Ext) (t : Int) (s : Int × Int) : Prop := ∃ x ∈ l, x.a ≤ t ∧ t < x.a + x.n ∧ s = (x.q, x.p + (t - x.a))
theorem atE_nil {t : Int} {s : Int × Int} : ¬ atE [] t s := fun ⟨_, h, _⟩ => by cases h
theorem atE_cons {x : Ext} {l : List Ext} {t : Int} {s : Int × Int} : atE (x :: l) t s ↔ (x.a ≤ t ∧ t < x.a + x.n ∧ s = (x.q, x.p + (t - x.a))) ∨ atE l t s := by simp [atE]
theorem atE_append {l m : List Ext} {t : Int} {s : Int × Int} : atE (l ++ m) t s ↔ atE l t s ∨ atE m t s := by
  unfold atE
  constructor
  · rintro ⟨x, hx, h⟩
    rcases List.mem_append.1 hx with h1 | h1
    · exact .inl ⟨x, h1, h⟩
    · exact .inr ⟨x, h1, h⟩
  · rintro (⟨x, hx, h⟩ | ⟨x, hx, h⟩)
    · exact ⟨x, List.mem_append.2 (.inl hx), h⟩
    · exact ⟨x, List.mem_append.2 (.inr hx), h⟩
theorem atE_one {x : Ext} {t : Int} {s : Int × Int} : atE [x] t s ↔ x.a ≤ t ∧ t < x.a + x.n ∧ s = (x.q, x.p + (t - x.a)) := by simp [atE]
theorem Rise.at_ge {lo : Int} {l : List Ext} (h : Rise lo l) {t : Int} {s : Int × Int} (ht : atE l t s) : lo ≤ t := by
  obtain ⟨x, hx, h1, _⟩ := ht
  have := (h.mem hx).2
  omega
theorem ext_unique : ∀ {lo : Int} (l m : List Ext), Rise lo l → Rise lo m → NF l → NF m → (∀ t s, atE l t s ↔ atE m t s) → l = m
  | lo, [], [], _, _, _, _, _ => rfl
  | lo, [], y :: m, _, hm, _, _, h => by
    have h1 := hm.2.1
    unfold inE at h1
    exact absurd ((h y.a (y.q, y.p)).2 (atE_cons.2 (.inl ⟨by omega, by omega, by simp⟩))) atE_nil
  | lo, x :: l, [], hl, _, _, _, h => by
    have h1 := hl.2.1
    unfold inE at h1
    exact absurd ((h x.a (x.q, x.p)).1 (atE_cons.2 (.inl ⟨by omega, by omega, by simp⟩))) atE_nil
  | lo, x :: l, y :: m, hl, hm, hnl, hnm, h => by
    have hx := hl.2.1
    have hy := hm.2.1
    unfold inE at hx hy
    have e1 : x.a = y.a := by
      have h1 := (h x.a (x.q, x.p)).1 (atE_cons.2 (.inl ⟨by omega, by omega, by simp⟩))
      have h2 := (h y.a (y.q, y.p)).2 (atE_cons.2 (.inl ⟨by omega, by omega, by simp⟩))
      have g1 : y.a ≤ x.a := by
        rcases atE_cons.1 h1 with h1 | h1
        · omega
        · have := hm.2.2.at_ge h1; omega
      have g2 : x.a ≤ y.a := by
        rcases atE_cons.1 h2 with h2 | h2
        · omega
        · have := hl.2.2.at_ge h2; omega
      omega
    have e2 : x.q = y.q ∧ x.p = y.p := by
      have h1 := (h x.a (x.q, x.p)).1 (atE_cons.2 (.inl ⟨by omega, by omega, by simp⟩))
      rcases atE_cons.1 h1 with ⟨_, _, h1⟩ | h1
      · rw [e1] at h1
        simp at h1
        exact h1
      · have := hm.2.2.at_ge h1; omega
    have key : ∀ {lo : Int} {x y : Ext} {l m : List Ext}, Rise lo (x :: l) → Rise lo (y :: m) → NF (x :: l) → x.a = y.a → x.q = y.q → x.p = y.p → (∀ t s, atE (y :: m) t s → atE (x :: l) t s) → ¬ x.n < y.n := by
      intro lo x y l m hl hm hn ea eq ep h hlt
      have hx := hl.2.1
      unfold inE at hx
      have h1 := h (x.a + x.n) (x.q, x.p + x.n) (atE_cons.2 (.inl ⟨by omega, by omega, by rw [eq, ep, ea]; congr 1; omega⟩))
      rcases atE_cons.1 h1 with h1 | h1
      · omega
      · cases l with
        | nil => exact atE_nil h1
        | cons z l =>
          have hz := hl.2.2
          have hzi := hz.2.1
          unfold inE at hzi
          rcases atE_cons.1 h1 with ⟨h2, h3, h4⟩ | h1
          · have h5 := hz.1
            have e : z.a = x.a + x.n := by omega
            rw [e] at h4
            simp at h4
            exact hn.1 ⟨e.symm, h4.1, by omega⟩
          · have := hz.2.2.at_ge h1
            have h5 := hz.1
            omega
    have e3 : x.n = y.n := by
      rcases Int.lt_trichotomy x.n y.n with q | q | q
      · exact absurd q (key hl hm hnl e1 e2.1 e2.2 (fun t s h' => (h t s).2 h'))
      · exact q
      · exact absurd q (key hm hl hnm e1.symm e2.1.symm e2.2.symm (fun t s h' => (h t s).1 h'))
    have exy : x = y := by
      cases x; cases y
      simp only at e1 e2 e3
      obtain ⟨e2, e4⟩ := e2
      subst e1 e2 e3 e4
      rfl
    subst exy
    rw [ext_unique l m hl.2.2 hm.2.2 hnl.tail hnm.tail fun t s => ?_]
    have hge : ∀ {l : List Ext}, Rise (x.a + x.n) l → atE l t s → ¬ (x.a ≤ t ∧ t < x.a + x.n ∧ s = (x.q, x.p + (t - x.a))) := fun hr ha hb => by
      have := hr.at_ge ha
      omega
    constructor
    · intro ht
      exact (atE_cons.1 ((h t s).1 (atE_cons.2 (.inr ht)))).resolve_left (hge hl.2.2 ht)
    · intro ht
      exact (atE_cons.1 ((h t s).2 (atE_cons.2 (.inr ht)))).resolve_left (hge hm.2.2 ht)
theorem take_succ_snoc {α : Type} {l : List α} {i : Nat} {x : α} (h : l[i]? = some x) : l.take (i + 1) = l.take i ++ [x] := by
  rw [List.take_add_one, h]; rfl
structure JnI (lo : Int) (l : List Ext) (i : Nat) (o : List Ext) : Prop where
  hi : i ≤ l.length
  len : o.length ≤ i
  rise : Rise lo o
  nf : NF o
  fin : endE lo o = endE lo (l.take i)
  at_ : ∀ t s, atE o t s ↔ atE (l.take i) t s
variable {lo : Int} {l o : List Ext} {i : Nat} {x y : Ext}
theorem JnI.start : JnI lo l 0 [] := ⟨Nat.zero_le _, Nat.le_refl _, trivial, trivial, rfl, fun t s => Iff.rfl⟩
theorem Rise.at_i (h : Rise lo l) (hx : l[i]? = some x) : endE lo (l.take i) ≤ x.a ∧ inE x := by
  have hl := (List.getElem?_eq_some_iff.1 hx).1
  have e : l = l.take i ++ x :: l.drop (i + 1) := by
    have h1 : l[i] = x := (List.getElem?_eq_some_iff.1 hx).2
    rw [← h1, ← List.drop_eq_getElem_cons hl, List.take_append_drop]
  rw [e] at h
  have h2 := (rise_append.1 h).2
  exact ⟨h2.1, h2.2.1⟩
theorem JnI.push (h : JnI lo l i o) (hl : Rise lo l) (hx : l[i]? = some x) (hn : ∀ y, o[o.length - 1]? = some y → ¬ Fol y x) : JnI lo l (i + 1) (o ++ [x]) := by
  have hxi := hl.at_i hx
  refine ⟨(List.getElem?_eq_some_iff.1 hx).1, by have := h.len; simp; omega, rise_append.2 ⟨h.rise, by rw [h.fin]; exact hxi.1, hxi.2, trivial⟩, ?_, ?_, fun t s => ?_⟩
  · rcases List.eq_nil_or_concat o with rfl | ⟨o', y, rfl⟩
    · trivial
    · rw [List.concat_eq_append] at h hn ⊢
      rw [List.append_assoc]
      exact nf_snoc2.2 ⟨h.nf, hn y (by simp)⟩
  · rw [endE_append, take_succ_snoc hx, endE_append]; rfl
  · rw [take_succ_snoc hx, atE_append, atE_append, h.at_ t s]
theorem JnI.merge (h : JnI lo l i o) (hl : Rise lo l) (hx : l[i]? = some x) (hy : o[o.length - 1]? = some y) (hf : Fol y x) : JnI lo l (i + 1) (o.set (o.length - 1) ⟨y.a, y.n + x.n, y.q, y.p⟩) := by
  have hxi := hl.at_i hx
  have hl0 := (List.getElem?_eq_some_iff.1 hy).1
  rcases List.eq_nil_or_concat o with rfl | ⟨o', z, rfl⟩
  · cases hy
  rw [List.concat_eq_append] at *
  have e1 : (o' ++ [z]).length - 1 = o'.length := by simp
  rw [e1] at hy ⊢
  simp at hy
  subst hy
  have e2 : (o' ++ [z]).set o'.length ⟨z.a, z.n + x.n, z.q, z.p⟩ = o' ++ [⟨z.a, z.n + x.n, z.q, z.p⟩] := by simp
  rw [e2]
  have hr := rise_append.1 h.rise
  have hz := hr.2.2.1
  obtain ⟨f1, f2, f3⟩ := hf
  have hx2 := hxi.2
  have hnew : inE ⟨z.a, z.n + x.n, z.q, z.p⟩ := by unfold inE at hz hx2 ⊢; dsimp only; omega
  refine ⟨(List.getElem?_eq_some_iff.1 hx).1, ?_, rise_append.2 ⟨hr.1, hr.2.1, hnew, trivial⟩, ?_, ?_, fun t s => ?_⟩
  · have := h.len; simp at this ⊢; omega
  · rcases List.eq_nil_or_concat o' with rfl | ⟨o'', w, rfl⟩
    · trivial
    · rw [List.concat_eq_append] at h ⊢
      have h1 := h.nf
      rw [List.append_assoc] at h1 ⊢
      have h2 := nf_snoc2.1 h1
      exact nf_snoc2.2 ⟨h2.1, fun q => h2.2 ⟨q.1, q.2.1, q.2.2⟩⟩
  · rw [endE_append, take_succ_snoc hx, endE_append]
    show z.a + (z.n + x.n) = x.a + x.n
    omega
  · rw [take_succ_snoc hx, atE_append, atE_append, ← h.at_ t s, atE_append, atE_one, atE_one, atE_one, or_assoc]
    unfold inE at hz hx2
    dsimp only
    apply or_congr_right
    constructor
    · rintro ⟨h1, h2, h3⟩
      by_cases q : t < z.a + z.n
      · exact .inl ⟨h1, q, h3⟩
      · exact .inr ⟨by omega, by omega, by rw [h3, f2]; congr 1; omega⟩
    · rintro (⟨h1, h2, h3⟩ | ⟨h1, h2, h3⟩)
      · exact ⟨h1, by omega, h3⟩
      · exact ⟨by omega, by omega, by rw [h3, f2]; congr 1; omega⟩
end Go.Lx
namespace Go.Lx
def cstep (x : Nat) : Nat := if x % 2 = 1 then x / 2 ^^^ 2197175160 else x / 2
def cit (x : Nat) : Nat → Nat
  | 0 => x
  | k + 1 => cstep (cit x k)
def cbyte (x : Nat) (b : UInt8) : Nat := cit (x ^^^ b.toNat) 8
def cmore (x : Nat) (l : Bs) : Nat := l.foldl cbyte x
def crc (l : Bs) : Nat := 4294967295 - cmore 4294967295 l
theorem byte_lt (b : UInt8) : b.toNat < 256 := b.toNat_lt
theorem cstep_lt {x : Nat} (h : x < 4294967296) : cstep x < 4294967296 := by
  unfold cstep
  split
  · exact Nat.xor_lt_two_pow (n := 32) (by omega) (by omega)
  · omega
theorem cit_lt {x : Nat} (h : x < 4294967296) : ∀ k, cit x k < 4294967296
  | 0 => h
  | k + 1 => cstep_lt (cit_lt h k)
theorem xorb_lt {x : Nat} (h : x < 4294967296) (b : UInt8) : x ^^^ b.toNat < 4294967296 := Nat.xor_lt_two_pow (n := 32) h (by have := byte_lt b; omega)
theorem cbyte_lt {x : Nat} (h : x < 4294967296) (b : UInt8) : cbyte x b < 4294967296 := cit_lt (xorb_lt h b) 8
theorem cmore_lt : ∀ (l : Bs) {x : Nat}, x < 4294967296 → cmore x l < 4294967296
  | [], x, h => h
  | b :: l, x, h => cmore_lt l (cbyte_lt h b)
theorem crc_lt (l : Bs) : crc l < 4294967296 := by unfold crc; omega
theorem cmore_append (x : Nat) (l m : Bs) : cmore x (l ++ m) = cmore (cmore x l) m := by unfold cmore; rw [List.foldl_append]
def four (x : Nat) : Bs := [UInt8.ofNat x, UInt8.ofNat (x / 256), UInt8.ofNat (x / 65536), UInt8.ofNat (x / 16777216)]
theorem four_len (x : Nat) : (four x).length = 4 := rfl
def sealS (l : Bs) : Bs := l ++ four (crc l)
theorem sealS_len (l : Bs) : (sealS l).length = l.length + 4 := by simp [sealS, four_len]
def openS (l : Bs) : Bs × Int := if l.length < 4 then ([], 10) else if four (crc (l.take (l.length - 4))) ≠ l.drop (l.length - 4) then ([], 13) else (l.take (l.length - 4), 0)
theorem openS_ok {l t : Bs} (h : openS l = (t, 0)) : l = sealS t := by
  unfold openS at h
  split at h
  · cases h
  · split at h
    · cases h
    · rename_i h1 h2
      cases h
      unfold sealS
      rw [show four (crc (l.take (l.length - 4))) = l.drop (l.length - 4) from Classical.not_not.1 h2, List.take_append_drop]
end Go.Lx
namespace Go.Lx
structure Stp {α : Type} (enc : α → Bs) (ok : α → Prop) (s : Bs) (o : Prop) (x : α) (s' : Bs) (o' : Prop) : Prop where
  back : o' → o ∧ ok x ∧ s = enc x ++ s'
  fwd : ∀ y q, o → ok y → s = enc y ++ q → x = y ∧ o' ∧ s' = q
theorem Cod.stp {α : Type} {f : Bs → Option (α × Nat)} {enc : α → Bs} {ok : α → Prop} (c : Cod f enc ok) {d : α} {s : Bs} {p : Nat} {e : Int} {x : α} {p' : Nat} {e' : Int} (h : RdR f d s p e x p' e') : Stp enc ok (s.drop p) (e = 0) x (s.drop p') (e' = 0) :=
  ⟨fun he => let ⟨a, b, c, _⟩ := c.rdBack h he; ⟨a, b, c⟩, fun y q he hy hq => by subst he; exact c.rdFwd h hy hq⟩
theorem Cod.stq {α : Type} {f : Bs → Option (α × Nat)} {enc : α → Bs} {ok : α → Prop} (c : Cod f enc ok) {d : α} {s s' : Bs} {o o' : Bool} {x : α} (h : RfR f d s o x s' o') : Stp enc ok s (o = true) x s' (o' = true) :=
  ⟨fun he => c.rfBack h he, fun y q ho hy hq => by subst ho; exact c.rfFwd h hy hq⟩
section
variable {α β : Type} {eA : α → Bs} {kA : α → Prop} {eB : β → Bs} {kB : β → Prop} {s s1 s2 : Bs} {o o1 o2 : Prop}
theorem Stp.seq {x : α} {y : β} (h : Stp eA kA s o x s1 o1) (k : Stp eB kB s1 o1 y s2 o2) : Stp (fun z : α × β => eA z.1 ++ eB z.2) (fun z => kA z.1 ∧ kB z.2) s o (x, y) s2 o2 := by
  refine ⟨fun he => ?_, fun z q ho hz hq => ?_⟩
  · obtain ⟨a1, a2, a3⟩ := k.back he
    obtain ⟨b1, b2, b3⟩ := h.back a1
    exact ⟨b1, ⟨b2, a2⟩, by rw [b3, a3, List.append_assoc]⟩
  · rw [List.append_assoc] at hq
    obtain ⟨a1, a2, a3⟩ := h.fwd z.1 _ ho hz.1 hq
    obtain ⟨b1, b2, b3⟩ := k.fwd z.2 _ a2 hz.2 a3
    exact ⟨by rw [a1, b1], b2, b3⟩
theorem Stp.map {x : α} (h : Stp eA kA s o x s1 o1) (f : α → β) (g : β → α) (h1 : ∀ a, kA a → kB (f a) ∧ eB (f a) = eA a) (h2 : ∀ b, kB b → kA (g b) ∧ eA (g b) = eB b ∧ f (g b) = b) : Stp eB kB s o (f x) s1 o1 := by
  refine ⟨fun he => ?_, fun z q ho hz hq => ?_⟩
  · obtain ⟨a1, a2, a3⟩ := h.back he
    obtain ⟨b1, b2⟩ := h1 _ a2
    exact ⟨a1, b1, by rw [b2]; exact a3⟩
  · obtain ⟨b1, b2, b3⟩ := h2 _ hz
    rw [← b2] at hq
    obtain ⟨a1, a2, a3⟩ := h.fwd _ _ ho b1 hq
    exact ⟨by rw [a1, b3], a2, a3⟩
structure Rws (eA : α → Bs) (kA : α → Prop) (s : Bs) (o : Prop) (l : List α) (s' : Bs) (o' : Prop) : Prop where
  back : o' → o ∧ (∀ x ∈ l, kA x) ∧ s = l.flatMap eA ++ s'
  fwd : ∀ (L : List α) (q : Bs), o → (∀ x ∈ L, kA x) → s = L.flatMap eA ++ q → l.length ≤ L.length → o' ∧ l = L.take l.length ∧ s' = (L.drop l.length).flatMap eA ++ q
theorem Rws.nil : Rws eA kA s o [] s o := ⟨fun h => ⟨h, fun _ h => (by cases h), by simp⟩, fun L q ho _ hq _ => ⟨ho, by simp, by simpa using hq⟩⟩
theorem Rws.snoc {l : List α} {x : α} (h : Rws eA kA s o l s1 o1) (k : Stp eA kA s1 o1 x s2 o2) : Rws eA kA s o (l ++ [x]) s2 o2 := by
  refine ⟨fun he => ?_, fun L q hE hL hq hlen => ?_⟩
  · obtain ⟨a1, a2, a3⟩ := k.back he
    obtain ⟨b1, b2, b3⟩ := h.back a1
    refine ⟨b1, fun y hy => ?_, ?_⟩
    · rcases List.mem_append.1 hy with q | q
      · exact b2 y q
      · obtain rfl : y = x := by simpa using q
        exact a2
    · rw [b3, a3]
      simp
  · rw [List.length_append, List.length_singleton] at hlen
    obtain ⟨a1, a2, a3⟩ := h.fwd L q hE hL hq (by omega)
    have hi : l.length < L.length := by omega
    have hd : L.drop l.length = L[l.length] :: L.drop (l.length + 1) := List.drop_eq_getElem_cons hi
    rw [hd, List.flatMap_cons, List.append_assoc] at a3
    obtain ⟨b1, b2, b3⟩ := k.fwd _ _ a1 (hL _ (List.getElem_mem hi)) a3
    refine ⟨b2, ?_, by rw [List.length_append, List.length_singleton]; exact b3⟩
    rw [List.length_append, List.length_singleton, List.take_succ_eq_append_getElem hi, ← a2, b1]
def cntB (eA : α → Bs) (l : List α) : Bs := varB l.length ++ l.flatMap eA
theorem Rws.cnt {m n : Nat} {l : List α} (hc : Stp varB (fun x => x ≤ m) s o n s1 o1) (h : Rws eA kA s1 o1 l s2 o2) (hle : l.length ≤ n) (hex : o2 → l.length = n) : Stp (cntB eA) (fun l => l.length ≤ m ∧ ∀ x ∈ l, kA x) s o l s2 o2 := by
  refine ⟨fun he => ?_, fun L q ho hz hq => ?_⟩
  · obtain ⟨a1, a2, a3⟩ := h.back he
    obtain ⟨b1, b2, b3⟩ := hc.back a1
    have := hex he
    exact ⟨b1, ⟨by omega, a2⟩, by rw [b3, a3, cntB, this, List.append_assoc]⟩
  · unfold cntB at hq
    rw [List.append_assoc] at hq
    obtain ⟨a1, a2, a3⟩ := hc.fwd _ _ ho hz.1 hq
    obtain ⟨b1, b2, b3⟩ := h.fwd L q a2 hz.2 a3 (by omega)
    have hl : l.length = L.length := by rw [hex b1, a1]
    rw [hl, List.take_length] at b2
    rw [hl, List.drop_length] at b3
    exact ⟨b2, b1, by simpa using b3⟩
structure Inj (eA : α → Bs) (kA : α → Prop) : Prop where
  inj : ∀ {x y : α} {r q : Bs}, kA x → kA y → eA x ++ r = eA y ++ q → x = y ∧ r = q
theorem Inj.seq (h : Inj eA kA) (k : Inj eB kB) : Inj (fun z : α × β => eA z.1 ++ eB z.2) (fun z => kA z.1 ∧ kB z.2) := ⟨fun {x y r q} hx hy hq => by
  rw [List.append_assoc, List.append_assoc] at hq
  obtain ⟨a1, a2⟩ := h.inj hx.1 hy.1 hq
  obtain ⟨b1, b2⟩ := k.inj hx.2 hy.2 a2
  exact ⟨by cases x; cases y; simp only at a1 b1; rw [a1, b1], b2⟩⟩
theorem Inj.cnt {m : Nat} (hm : m < 18446744073709551616) (h : Inj eA kA) : Inj (cntB eA) (fun l => l.length ≤ m ∧ ∀ x ∈ l, kA x) := ⟨fun {x y r q} hx hy hq => by
  unfold cntB at hq
  rw [List.append_assoc, List.append_assoc] at hq
  obtain ⟨a1, a2⟩ := (codInt m hm).inj hx.1 hy.1 hq
  exact encs_inj (fun a b c => h.inj a b c) hx.2 hy.2 a1 a2⟩
theorem Inj.map (h : Inj eA kA) (f : α → β) (g : β → α) (h2 : ∀ b, kB b → kA (g b) ∧ eA (g b) = eB b ∧ f (g b) = b) : Inj eB kB := ⟨fun {x y r q} hx hy hq => by
  obtain ⟨a1, a2, a3⟩ := h2 x hx
  obtain ⟨b1, b2, b3⟩ := h2 y hy
  rw [← a2, ← b2] at hq
  obtain ⟨c1, c2⟩ := h.inj a1 b1 hq
  exact ⟨by rw [← a3, ← b3, c1], c2⟩⟩
end
theorem flatMap_len {α : Type} (f : α → Bs) (b : Nat) (l : List α) (h : ∀ x, (f x).length ≤ b) : (l.flatMap f).length ≤ b * l.length := by
  induction l with
  | nil => simp
  | cons x l ih =>
    have := h x
    rw [List.flatMap_cons, List.length_append, List.length_cons, Nat.mul_add, Nat.mul_one]
    omega
structure Dob where
  k : Nat
  ep : Int
  sq : Int
  up : Int
  ps : List Ext
  cs : List Sp
  d : Bs
def zD : Dob := ⟨0, 0, 0, 0, [], [], []⟩
def PutE (x : Ext) : Prop := x.q = 0 ∧ x.p = 0
instance (x : Ext) : Decidable (PutE x) := by unfold PutE; infer_instance
def MayP (sq : Int) (x : Ext) : Prop := mayS (x.a, x.n) ∧ (PutE x ∨ 1 ≤ x.q ∧ x.q < sq ∧ 0 ≤ x.p ∧ x.p < 65536)
instance (sq : Int) (x : Ext) : Decidable (MayP sq x) := by unfold MayP; infer_instance
def OrdP (sq : Int) (l : List Ext) (n : Nat) : Prop := ∀ i x, i < n → l[i]? = some x → MayP sq x ∧ ∀ y, 0 < i → l[i - 1]? = some y → y.a + y.n ≤ x.a
theorem OrdP.step {sq : Int} {l : List Ext} {k : Nat} {x : Ext} (h : OrdP sq l k) (hx : l[k]? = some x) (hm : MayP sq x) (hy : ∀ y, 0 < k → l[k - 1]? = some y → y.a + y.n ≤ x.a) : OrdP sq l (k + 1) := by
  intro j z hj hz
  by_cases e : j = k
  · subst e; rw [hx] at hz; cases hz; exact ⟨hm, hy⟩
  · exact h j z (by omega) hz
def endP (l : List Ext) : Nat → Int
  | 0 => 0
  | i + 1 => match l[i]? with
    | some x => x.a + x.n
    | none => 0
theorem endP_at {l : List Ext} {i : Nat} {y : Ext} (hi : 0 < i) (hy : l[i - 1]? = some y) : endP l i = y.a + y.n := by
  obtain ⟨j, rfl⟩ : ∃ j, i = j + 1 := ⟨i - 1, by omega⟩
  rw [Nat.add_sub_cancel] at hy
  simp only [endP, hy]
theorem endP_succ {l : List Ext} {i : Nat} {y : Ext} (hy : l[i]? = some y) : endP l (i + 1) = y.a + y.n := endP_at (Nat.succ_pos i) hy
theorem OrdP.stepE {sq : Int} {l : List Ext} {k : Nat} {x : Ext} (h : OrdP sq l k) (hx : l[k]? = some x) (hm : MayP sq x) (he : endP l k ≤ x.a) : OrdP sq l (k + 1) :=
  h.step hx hm fun y h0 hy => by rw [endP_at h0 hy] at he; exact he
theorem OrdP.endE {sq : Int} {l : List Ext} {n k : Nat} {x : Ext} (h : OrdP sq l n) (hk : k < n) (hx : l[k]? = some x) : endP l k ≤ x.a := by
  obtain ⟨h1, h2⟩ := h k x hk hx
  rcases Nat.eq_zero_or_pos k with h0 | h0
  · subst h0
    have := h1.1.1
    simpa [endP] using this
  · obtain ⟨y, hy⟩ := Qx (l := l) (k := k - 1) (by have := lt_of_get hx; omega)
    rw [endP_at h0 hy]
    exact h2 y h0 hy
def spansOf (l : List Ext) : List Sp := l.map fun x => (x.a, x.n)
def NumsD (o : Dob) : Prop := (1 ≤ o.ep ∧ o.ep < 1099511627776) ∧ (1 ≤ o.sq ∧ o.sq < 1099511627776) ∧ 0 ≤ o.up ∧ o.up < 1099511627776
def LaidP (o : Dob) : Prop := o.ps.length ≤ 1024 ∧ o.cs.length ≤ 1024 ∧ OrdP o.sq o.ps o.ps.length ∧ SetOK o.cs o.cs.length ∧ ∀ t, inS (spansOf o.ps) t → ¬ inS o.cs t
def secs (l : List Ext) : Int := (l.map (·.n)).sum
theorem secs_nil : secs [] = 0 := rfl
theorem secs_snoc (l : List Ext) (x : Ext) : secs (l ++ [x]) = secs l + x.n := by simp [secs]
theorem Qw {α : Type} {l : List α} {k : Nat} {x : α} (hx : l[k]? = some x) : l.take (k + 1) = l.take k ++ [x] := by
  rw [List.take_add_one, hx]; rfl
theorem OrdP.secs {sq : Int} {l : List Ext} (h : OrdP sq l l.length) : ∀ i, i ≤ l.length → 0 ≤ secs (l.take i) ∧ secs (l.take i) ≤ endP l i ∧ endP l i ≤ 65536
  | 0, _ => by simp [secs_nil, endP]
  | i + 1, hi => by
    obtain ⟨x, hx⟩ := Qx (l := l) (k := i) (by omega)
    obtain ⟨h1, h2, h3⟩ := OrdP.secs h i (by omega)
    have h4 := (h i x (by omega) hx).1.1
    have h5 := h.endE (by omega) hx
    unfold mayS at h4
    rw [Qw hx, secs_snoc, endP_succ hx]
    simp only at h4
    omega
def kdD : Bs := [68, 79, 66, 49]
theorem dM : Cod (intF 1099511627776) varB (fun x => x ≤ 1099511627776) := codInt 1099511627776 (by decide)
theorem dC : Cod (intF 1024) varB (fun x => x ≤ 1024) := codInt 1024 (by decide)
def ptB (x : Ext) : Bs := ((varB x.a.toNat ++ varB x.n.toNat) ++ varB x.q.toNat) ++ varB x.p.toNat
def csB (x : Sp) : Bs := varB x.1.toNat ++ varB x.2.toNat
def OkP (x : Ext) : Prop := (0 ≤ x.a ∧ x.a ≤ 1099511627776) ∧ (0 ≤ x.n ∧ x.n ≤ 1099511627776) ∧ (0 ≤ x.q ∧ x.q ≤ 1099511627776) ∧ 0 ≤ x.p ∧ x.p ≤ 1099511627776
def OkC (x : Sp) : Prop := (0 ≤ x.1 ∧ x.1 ≤ 1099511627776) ∧ 0 ≤ x.2 ∧ x.2 ≤ 1099511627776
def ptOf (z : ((Nat × Nat) × Nat) × Nat) : Ext := ⟨z.1.1.1, z.1.1.2, z.1.2, z.2⟩
def ofPt (x : Ext) : ((Nat × Nat) × Nat) × Nat := (((x.a.toNat, x.n.toNat), x.q.toNat), x.p.toNat)
def csOf (z : Nat × Nat) : Sp := ((z.1 : Int), (z.2 : Int))
def ofCs (x : Sp) : Nat × Nat := (x.1.toNat, x.2.toNat)
theorem Ext.eq' {x y : Ext} (h1 : x.a = y.a) (h2 : x.n = y.n) (h3 : x.q = y.q) (h4 : x.p = y.p) : x = y := by
  cases x; cases y; simp only at *; subst h1 h2 h3 h4; rfl
theorem of_ptOf (b : Ext) (h : OkP b) : (((((ofPt b).1.1.1 ≤ 1099511627776 ∧ (ofPt b).1.1.2 ≤ 1099511627776) ∧ (ofPt b).1.2 ≤ 1099511627776) ∧ (ofPt b).2 ≤ 1099511627776)) ∧ (((varB (ofPt b).1.1.1 ++ varB (ofPt b).1.1.2) ++ varB (ofPt b).1.2) ++ varB (ofPt b).2) = ptB b ∧ ptOf (ofPt b) = b := by
  obtain ⟨h1, h2, h3, h4⟩ := h
  refine ⟨?_, rfl, ?_⟩
  · unfold ofPt; simp only; omega
  · unfold ofPt ptOf; exact Ext.eq' (by simp only; omega) (by simp only; omega) (by simp only; omega) (by simp only; omega)
theorem of_csOf (b : Sp) (h : OkC b) : ((ofCs b).1 ≤ 1099511627776 ∧ (ofCs b).2 ≤ 1099511627776) ∧ (varB (ofCs b).1 ++ varB (ofCs b).2) = csB b ∧ csOf (ofCs b) = b := by
  obtain ⟨h1, h2⟩ := h
  refine ⟨?_, rfl, ?_⟩
  · unfold ofCs; simp only; omega
  · unfold ofCs csOf; exact Prod.ext (by simp only; omega) (by simp only; omega)
theorem stpPt {s s1 s2 s3 s4 : Bs} {o o1 o2 o3 o4 : Prop} {a n q p : Nat} (h1 : Stp varB (fun x => x ≤ 1099511627776) s o a s1 o1) (h2 : Stp varB (fun x => x ≤ 1099511627776) s1 o1 n s2 o2) (h3 : Stp varB (fun x => x ≤ 1099511627776) s2 o2 q s3 o3) (h4 : Stp varB (fun x => x ≤ 1099511627776) s3 o3 p s4 o4) : Stp ptB OkP s o ⟨a, n, q, p⟩ s4 o4 :=
  (((h1.seq h2).seq h3).seq h4).map (eB := ptB) (kB := OkP) ptOf ofPt (fun z h => by
    obtain ⟨⟨⟨a1, a2⟩, a3⟩, a4⟩ := h
    refine ⟨?_, ?_⟩
    · unfold OkP ptOf; simp only; omega
    · simp only [ptB, ptOf, Int.toNat_natCast]) of_ptOf
theorem stpCs {s s1 s2 : Bs} {o o1 o2 : Prop} {a n : Nat} (h1 : Stp varB (fun x => x ≤ 1099511627776) s o a s1 o1) (h2 : Stp varB (fun x => x ≤ 1099511627776) s1 o1 n s2 o2) : Stp csB OkC s o ((a : Int), (n : Int)) s2 o2 :=
  (h1.seq h2).map (eB := csB) (kB := OkC) csOf ofCs (fun z h => by
    obtain ⟨a1, a2⟩ := h
    refine ⟨?_, ?_⟩
    · unfold OkC csOf; simp only; omega
    · simp only [csB, csOf, Int.toNat_natCast]) of_csOf
abbrev Zh := ((((((Nat × Nat) × Nat) × Nat) × List Ext) × List Sp) × Nat)
def hdE (z : Zh) : Bs := (((((fixB z.1.1.1.1.1.1 8 ++ varB z.1.1.1.1.1.2) ++ varB z.1.1.1.1.2) ++ varB z.1.1.1.2) ++ cntB ptB z.1.1.2) ++ cntB csB z.1.2) ++ fixB z.2 4
def okZ (z : Zh) : Prop := (((((z.1.1.1.1.1.1 < 256 ^ 8 ∧ z.1.1.1.1.1.2 ≤ 1099511627776) ∧ z.1.1.1.1.2 ≤ 1099511627776) ∧ z.1.1.1.2 ≤ 1099511627776) ∧ (z.1.1.2.length ≤ 1024 ∧ ∀ x ∈ z.1.1.2, OkP x)) ∧ (z.1.2.length ≤ 1024 ∧ ∀ x ∈ z.1.2, OkC x)) ∧ z.2 < 256 ^ 4
theorem injM : Inj varB (fun x => x ≤ 1099511627776) := ⟨fun a b c => dM.inj a b c⟩
theorem injPt : Inj ptB OkP := (((injM.seq injM).seq injM).seq injM).map ptOf ofPt of_ptOf
theorem injCs : Inj csB OkC := (injM.seq injM).map csOf ofCs of_csOf
theorem injZ : Inj hdE okZ :=
  have h8 : Inj (fun x => fixB x 8) (fun x => x < 256 ^ 8) := ⟨fun a b c => (codFix 8).inj a b c⟩
  have h4 : Inj (fun x => fixB x 4) (fun x => x < 256 ^ 4) := ⟨fun a b c => (codFix 4).inj a b c⟩
  ⟨fun {x y r q} hx hy hq => ((((((h8.seq injM).seq injM).seq injM).seq (injPt.cnt (m := 1024) (by decide))).seq (injCs.cnt (m := 1024) (by decide))).seq h4).inj hx hy hq⟩
def zO (o : Dob) : Zh := ((((((o.k, o.ep.toNat), o.sq.toNat), o.up.toNat), o.ps), o.cs), crc o.d)
def obO (z : Zh) (d : Bs) : Dob := ⟨z.1.1.1.1.1.1, z.1.1.1.1.1.2, z.1.1.1.1.2, z.1.1.1.2, z.1.1.2, z.1.2, d⟩
def headD (o : Dob) : Bs := kdD ++ hdE (zO o)
def dobB (o : Dob) : Bs := o.d ++ (sealS (headD o) ++ fixB (sealS (headD o)).length 4)
open Classical in
noncomputable def chkD (o : Dob) : Int := if NumsD o ∧ LaidP o then if (o.d.length : Int) = 64 * secs o.ps then if (dobB o).length ≤ 65536 then 0 else 31 else 30 else 1
theorem chkD_ok {o : Dob} (h : chkD o = 0) : NumsD o ∧ LaidP o ∧ (o.d.length : Int) = 64 * secs o.ps ∧ (dobB o).length ≤ 65536 := by
  unfold chkD at h
  split at h
  · rename_i h1
    split at h
    · rename_i h2
      split at h
      · rename_i h3; exact ⟨h1.1, h1.2, h2, h3⟩
      · cases h
    · cases h
  · cases h
theorem ptB_len (x : Ext) : (ptB x).length ≤ 36 := by
  have h1 := Qv x.a.toNat
  have h2 := Qv x.n.toNat
  have h3 := Qv x.q.toNat
  have h4 := Qv x.p.toNat
  simp only [ptB, List.length_append]
  omega
theorem csB_len (x : Sp) : (csB x).length ≤ 18 := by
  have h1 := Qv x.1.toNat
  have h2 := Qv x.2.toNat
  simp only [csB, List.length_append]
  omega
theorem headD_len (o : Dob) : (headD o).length ≤ 70 + 36 * o.ps.length + 18 * o.cs.length := by
  have h1 := Qv o.ep.toNat
  have h2 := Qv o.sq.toNat
  have h3 := Qv o.up.toNat
  have h4 := Qv o.ps.length
  have h5 := Qv o.cs.length
  have h6 := flatMap_len ptB 36 o.ps ptB_len
  have h7 := flatMap_len csB 18 o.cs csB_len
  have h8 := fixB_len o.k 8
  have h9 := fixB_len (crc o.d) 4
  have h0 : kdD.length = 4 := rfl
  simp only [headD, hdE, zO, cntB, List.length_append]
  omega
theorem okZ_of {o : Dob} (h1 : NumsD o) (h2 : LaidP o) (hk : o.k < 18446744073709551616) : okZ (zO o) := by
  obtain ⟨⟨a1, a2⟩, ⟨a3, a4⟩, a5, a6⟩ := h1
  obtain ⟨b1, b2, b3, b4, b5⟩ := h2
  refine ⟨⟨⟨⟨⟨⟨hk, ?_⟩, ?_⟩, ?_⟩, b1, fun x hx => ?_⟩, b2, fun x hx => ?_⟩, crc_lt o.d⟩
  · simp only [zO]; omega
  · simp only [zO]; omega
  · simp only [zO]; omega
  · obtain ⟨i, hi⟩ := List.mem_iff_getElem?.1 hx
    obtain ⟨⟨c1, c2⟩, _⟩ := b3 i x (lt_of_get hi) hi
    unfold mayS at c1
    unfold PutE at c2
    simp only at c1
    unfold OkP
    omega
  · have := b4.mem rfl hx
    unfold mayS at this
    unfold OkC
    omega
theorem headD_obO {z : Zh} {d : Bs} (h : z.2 = crc d) : headD (obO z d) = kdD ++ hdE z := by
  unfold headD
  congr 2
  simp only [zO, obO, Int.toNat_natCast, ← h]
def DecH (d : Bs) (h : Bs × Int) (o : Dob) (e : Int) : Prop :=
  (h.2 ≠ 0 ∧ e = h.2 ∧ o = zD) ∨ (h.2 = 0 ∧ (∀ r, h.1 ≠ kdD ++ r) ∧ e = 14 ∧ o = zD) ∨
  (∃ r, h.2 = 0 ∧ h.1 = kdD ++ r ∧ (((∀ z, okZ z → chkD (obO z d) = 0 → r ≠ hdE z) ∧ e = 12 ∧ o = zD) ∨ ∃ z, okZ z ∧ chkD (obO z d) = 0 ∧ r = hdE z ∧ ((z.2 ≠ crc d ∧ e = 13 ∧ o = zD) ∨ (z.2 = crc d ∧ e = 0 ∧ o = obO z d))))
def DecD (s : Bs) (o : Dob) (e : Int) : Prop :=
  (s.length < 4 ∧ e = 10 ∧ o = zD) ∨ (4 ≤ s.length ∧ s.length - 4 < num (s.drop (s.length - 4)) ∧ e = 10 ∧ o = zD) ∨
  (∃ from_, 4 ≤ s.length ∧ from_ + num (s.drop (s.length - 4)) = s.length - 4 ∧ DecH (s.take from_) (openS ((s.drop from_).take (s.length - 4 - from_))) o e)
theorem DecH.unique {d : Bs} {h : Bs × Int} {o p : Dob} {e f : Int} (a : DecH d h o e) (b : DecH d h p f) : o = p ∧ e = f := by
  rcases a with ⟨a1, a2, a3⟩ | ⟨a1, a2, a3, a4⟩ | ⟨r, a1, a2, a3⟩ <;> rcases b with ⟨b1, b2, b3⟩ | ⟨b1, b2, b3, b4⟩ | ⟨q, b1, b2, b3⟩
  · exact ⟨a3.trans b3.symm, a2.trans b2.symm⟩
  · exact absurd b1 a1
  · exact absurd b1 a1
  · exact absurd a1 b1
  · exact ⟨a4.trans b4.symm, a3.trans b3.symm⟩
  · exact absurd b2 (a2 q)
  · exact absurd a1 b1
  · exact absurd a2 (b2 r)
  · obtain rfl : r = q := List.append_cancel_left (a2.symm.trans b2)
    rcases a3 with ⟨c1, c2, c3⟩ | ⟨z, c1, c2, c3, c4⟩ <;> rcases b3 with ⟨d1, d2, d3⟩ | ⟨y, d1, d2, d3, d4⟩
    · exact ⟨c3.trans d3.symm, c2.trans d2.symm⟩
    · exact absurd d3 (c1 y d1 d2)
    · exact absurd c3 (d1 z c1 c2)
    · obtain ⟨rfl, _⟩ := injZ.inj (r := []) (q := []) c1 d1 (by rw [← c3, ← d3])
      rcases c4 with ⟨e1, e2, e3⟩ | ⟨e1, e2, e3⟩ <;> rcases d4 with ⟨f1, f2, f3⟩ | ⟨f1, f2, f3⟩
      · exact ⟨e3.trans f3.symm, e2.trans f2.symm⟩
      · exact absurd f1 e1
      · exact absurd e1 f1
      · exact ⟨e3.trans f3.symm, e2.trans f2.symm⟩
theorem DecD.unique {s : Bs} {o p : Dob} {e f : Int} (a : DecD s o e) (b : DecD s p f) : o = p ∧ e = f := by
  rcases a with ⟨a1, a2, a3⟩ | ⟨a1, a2, a3, a4⟩ | ⟨r, a1, a2, a3⟩ <;> rcases b with ⟨b1, b2, b3⟩ | ⟨b1, b2, b3, b4⟩ | ⟨q, b1, b2, b3⟩ <;> first| (exfalso; omega) | skip
  · exact ⟨a3.trans b3.symm, a2.trans b2.symm⟩
  · exact ⟨a4.trans b4.symm, a3.trans b3.symm⟩
  · obtain rfl : r = q := by omega
    exact a3.unique b3
theorem num_back {l : Bs} (h : l.length = 4) : l = fixB (num l) 4 := by
  have := fixB_num l
  rw [h] at this
  exact this.symm
theorem num_fwd {x : Nat} (h : x < 4294967296) : num (fixB x 4) = x := by
  rw [num_fixB, Nat.mod_eq_of_lt h]
theorem parts_of {s : Bs} {i n : Nat} (h : i ≤ n) : s = s.take i ++ ((s.drop i).take (n - i) ++ s.drop n) := by
  have h1 : s.drop n = (s.drop i).drop (n - i) := by rw [List.drop_drop]; congr 1; omega
  rw [h1, List.take_append_drop, List.take_append_drop]
theorem DecD.good {s : Bs} {o : Dob} (h : DecD s o 0) : chkD o = 0 ∧ s = dobB o ∧ o.k < 18446744073709551616 := by
  rcases h with ⟨_, h, _⟩ | ⟨_, _, h, _⟩ | ⟨fr, h1, h2, h3⟩
  · cases h
  · cases h
  · rcases h3 with ⟨a, b, _⟩ | ⟨_, _, b, _⟩ | ⟨r, a1, a2, ⟨_, b, _⟩ | ⟨z, b1, b2, b3, ⟨_, b, _⟩ | ⟨c1, _, c2⟩⟩⟩
    · exact absurd b.symm a
    · cases b
    · cases b
    · cases b
    · subst c2
      refine ⟨b2, ?_, b1.1.1.1.1.1.1⟩
      have hm : (s.drop fr).take (s.length - 4 - fr) = sealS (headD (obO z (s.take fr))) := by
        refine openS_ok ?_
        rw [headD_obO c1, ← b3, ← a2, ← a1]
      have hml : (sealS (headD (obO z (s.take fr)))).length = num (s.drop (s.length - 4)) := by
        rw [← hm, List.length_take, List.length_drop]
        omega
      have h4 : (s.drop (s.length - 4)).length = 4 := by rw [List.length_drop]; omega
      show s = s.take fr ++ (sealS (headD (obO z (s.take fr))) ++ fixB (sealS (headD (obO z (s.take fr)))).length 4)
      rw [hml, ← num_back h4, ← hm]
      exact parts_of (by omega)
end Go.Lx
