/- Which bytes a manifest is: plain laws. -/
import Derived.Test.YtlbcedllbobpaaaMo
namespace Go.Lx
open Go.Proofs
set_option linter.unusedVariables false
set_option linter.unusedSimpArgs false

def OkS (x : Sn3) : Prop := x.n.length ≤ 64 ∧ 0 ≤ x.q ∧ x.q ≤ 1099511627776 ∧ 0 ≤ x.u ∧ x.u ≤ 1099511627776
/-- What is told ahead of the snapshots. -/
structure Hd where
  v : Bs
  k : Nat
  s : Nat
  z : Nat
  b : Bs
  bq : Nat
  n : Nat
def hdB (h : Hd) : Bs := textB h.v ++ (fixB h.k 8 ++ (varB h.s ++ (varB h.z ++ (textB h.b ++ (varB h.bq ++ varB h.n)))))
def OkH (h : Hd) : Prop := h.v.length ≤ 64 ∧ h.k < 18446744073709551616 ∧ h.s ≤ 1099511627776 ∧ h.z ≤ 65536 ∧ h.b.length ≤ 64 ∧ h.bq ≤ 1099511627776 ∧ h.n ≤ 100
def hdOf (m : Man) : Hd := ⟨m.v, m.k, m.s.toNat, m.z.toNat, m.b, m.bq.toNat, m.sn.length⟩
def manOf (h : Hd) (l : List Sn3) : Man := ⟨h.v, h.k, h.s, h.z, h.b, h.bq, l⟩
def GoodM (m : Man) : Prop := IsChkM m 0 ∧ m.k < 18446744073709551616
theorem hdB_of (m : Man) : hdB (hdOf m) = headM m := rfl
theorem GoodM.nums {m : Man} (h : GoodM m) : 0 ≤ m.s ∧ m.s < 1099511627776 ∧ 1 ≤ m.z ∧ m.z ≤ 65536 ∧ 0 ≤ m.bq ∧ m.bq < 1099511627776 ∧ m.v.length ≤ 32 ∧ m.b.length ≤ 32 ∧ m.sn.length ≤ 100 := by
  obtain ⟨h1, h2, h3, h4, h5, h6, h7, h8⟩ := h.1.names
  unfold nmS at h4
  rcases h3 with ⟨q, r⟩ | ⟨q, _, r⟩
  · rw [q, r]
    exact ⟨h4.1, h4.2, h5, h6, by decide, by decide, h2.2.2, by simp, h8⟩
  · unfold nmS at r
    exact ⟨h4.1, h4.2, h5, h6, r.1, r.2, h2.2.2, q.2.2, h8⟩
theorem GoodM.hd {m : Man} (h : GoodM m) : OkH (hdOf m) := by
  have := h.nums
  have := h.2
  unfold OkH hdOf
  simp only
  omega
theorem GoodM.sns {m : Man} (h : GoodM m) : ∀ x ∈ m.sn, OkS x := fun x hx => by
  obtain ⟨j, hj⟩ := List.mem_iff_getElem?.1 hx
  have hl := lt_of_get' hj
  obtain ⟨h1, _, _, _, _, _, h7, _⟩ := h.1.names
  have a1 := h1 j x hl hj
  have a2 := h7 j x hl hj
  unfold nmS at a2
  unfold OkS
  exact ⟨a1.2.1, by omega, by omega, by omega, by omega⟩
theorem GoodM.back {m : Man} (h : GoodM m) : manOf (hdOf m) m.sn = m := by
  have := h.nums
  unfold manOf hdOf
  simp only
  rw [Int.toNat_of_nonneg (by omega), Int.toNat_of_nonneg (by omega), Int.toNat_of_nonneg (by omega)]
theorem manB_of (h : Hd) (l : List Sn3) (hn : h.n = l.length) : manB (manOf h l) = hdB h ++ l.flatMap snB := by
  unfold manB headM hdB manOf
  simp only [Int.toNat_natCast, hn]
theorem c64 : (1099511627776 : Nat) < 18446744073709551616 := by decide
theorem cT : Cod (textF 64) textB (fun s => s.length ≤ 64) := codText 64 (by decide)
theorem cI : Cod (intF 1099511627776) varB (fun x => x ≤ 1099511627776) := codInt 1099511627776 (by decide)
theorem cZ : Cod (intF 65536) varB (fun x => x ≤ 65536) := codInt 65536 (by decide)
theorem cN : Cod (intF 100) varB (fun x => x ≤ 100) := codInt 100 (by decide)
theorem cK : Cod (fixF 8) (fun x => fixB x 8) (fun x => x < 256 ^ 8) := codFix 8
theorem snB_inj {x y : Sn3} {r q : Bs} (hx : OkS x) (hy : OkS y) (h : snB x ++ r = snB y ++ q) : x = y ∧ r = q := by
  unfold snB at h
  simp only [List.append_assoc] at h
  obtain ⟨h1, h⟩ := cT.inj hx.1 hy.1 h
  obtain ⟨h2, h⟩ := cI.inj (show x.q.toNat ≤ 1099511627776 by have := hx.2; omega) (show y.q.toNat ≤ 1099511627776 by have := hy.2; omega) h
  obtain ⟨h3, h⟩ := cI.inj (show x.u.toNat ≤ 1099511627776 by have := hx.2; omega) (show y.u.toNat ≤ 1099511627776 by have := hy.2; omega) h
  exact ⟨Sn3.eq h1 (by have := hx.2; have := hy.2; omega) (by have := hx.2; have := hy.2; omega), h⟩
theorem hdB_inj {x y : Hd} {r q : Bs} (hx : OkH x) (hy : OkH y) (h : hdB x ++ r = hdB y ++ q) : x = y ∧ r = q := by
  obtain ⟨a1, a2, a3, a4, a5, a6, a7⟩ := hx
  obtain ⟨b1, b2, b3, b4, b5, b6, b7⟩ := hy
  unfold hdB at h
  simp only [List.append_assoc] at h
  obtain ⟨h1, h⟩ := cT.inj a1 b1 h
  obtain ⟨h2, h⟩ := cK.inj (show x.k < 256 ^ 8 from a2) b2 h
  obtain ⟨h3, h⟩ := cI.inj a3 b3 h
  obtain ⟨h4, h⟩ := cZ.inj a4 b4 h
  obtain ⟨h5, h⟩ := cT.inj a5 b5 h
  obtain ⟨h6, h⟩ := cI.inj a6 b6 h
  obtain ⟨h7, hz⟩ := cN.inj a7 b7 h
  cases x; cases y
  simp only at *
  subst h1 h2 h3 h4 h5 h6 h7
  exact ⟨rfl, hz⟩
theorem manB_inj {m n : Man} (hm : GoodM m) (hn : GoodM n) (h : manB m = manB n) : m = n := by
  have h' : hdB (hdOf m) ++ m.sn.flatMap snB = hdB (hdOf n) ++ n.sn.flatMap snB := h
  obtain ⟨h1, h2⟩ := hdB_inj hm.hd hn.hd h'
  have hl : m.sn.length = n.sn.length := congrArg Hd.n h1
  obtain ⟨h3, _⟩ := encs_inj (enc := snB) (ok := OkS) (r := []) (q := []) (fun a b c => snB_inj a b c) hm.sns hn.sns hl (by simpa using h2)
  rw [← hm.back, ← hn.back, h1, h3]
/-- What Decode answers. -/
def DecR (s : Bs) (m : Man) (e : Int) : Prop :=
  ((openS s).2 ≠ 0 ∧ e = (openS s).2 ∧ m = zM) ∨ ((openS s).2 = 0 ∧ (∀ r, (openS s).1 ≠ mgc ++ r) ∧ e = 14 ∧ m = zM) ∨
  (∃ r, (openS s).2 = 0 ∧ (openS s).1 = mgc ++ r ∧ ((r = manB m ∧ GoodM m ∧ e = 0) ∨ ((∀ m', GoodM m' → r ≠ manB m') ∧ e = 12 ∧ m = zM)))
theorem DecR.unique {s : Bs} {m n : Man} {e f : Int} (h : DecR s m e) (k : DecR s n f) : m = n ∧ e = f := by
  rcases h with ⟨a, b, c⟩ | ⟨a, b, c, d⟩ | ⟨r, a, b, c⟩ <;> rcases k with ⟨a', b', c'⟩ | ⟨a', b', c', d'⟩ | ⟨r', a', b', c'⟩
  · exact ⟨c.trans c'.symm, b.trans b'.symm⟩
  · exact absurd a' a
  · exact absurd a' a
  · exact absurd a a'
  · exact ⟨d.trans d'.symm, c.trans c'.symm⟩
  · exact absurd b' (b r')
  · exact absurd a a'
  · exact absurd b (b' r)
  · have : r = r' := List.append_cancel_left (b.symm.trans b')
    subst this
    rcases c with ⟨c1, c2, c3⟩ | ⟨c1, c2, c3⟩ <;> rcases c' with ⟨d1, d2, d3⟩ | ⟨d1, d2, d3⟩
    · exact ⟨manB_inj c2 d2 (c1.symm.trans d1), c3.trans d3.symm⟩
    · exact absurd c1 (d1 m c2)
    · exact absurd d1 (c1 n d2)
    · exact ⟨c3.trans d3.symm, c2.trans d2.symm⟩

/-! ### reading, step by step -/
/-- What is known of a part that was read, with an error's number. -/
structure Rdg {α : Type} (enc : α → Bs) (ok : α → Prop) (r : Bs) (p : Nat) (e : Int) (x : α) (p' : Nat) (e' : Int) : Prop where
  le : p' ≤ r.length
  back : e' = 0 → e = 0 ∧ ok x ∧ r.drop p = enc x ++ r.drop p'
  fwd : ∀ y q, e = 0 → ok y → r.drop p = enc y ++ q → x = y ∧ e' = 0 ∧ r.drop p' = q
theorem Cod.rdg {α : Type} {f : Bs → Option (α × Nat)} {enc : α → Bs} {ok : α → Prop} (c : Cod f enc ok) {d : α} {s : Bs} {p : Nat} {e : Int} {x : α} {p' : Nat} {e' : Int} (h : RdR f d s p e x p' e') : Rdg enc ok s p e x p' e' :=
  ⟨h.1, fun he => let ⟨a, b, c, _⟩ := c.rdBack h he; ⟨a, b, c⟩, fun y q he hy hq => by subst he; exact c.rdFwd h hy hq⟩
/-- Of a part that was read out of what is left. -/
structure Rfg {α : Type} (enc : α → Bs) (ok ok' : α → Prop) (s : Bs) (o : Bool) (x : α) (s' : Bs) (o' : Bool) : Prop where
  back : o' = true → o = true ∧ ok x ∧ s = enc x ++ s'
  fwd : ∀ y q, o = true → ok' y → s = enc y ++ q → x = y ∧ o' = true ∧ s' = q
  off : o = false → o' = false
theorem Cod.rfg {α : Type} {f : Bs → Option (α × Nat)} {enc : α → Bs} {ok : α → Prop} (c : Cod f enc ok) {d : α} {s s' : Bs} {o o' : Bool} {x : α} (h : RfR f d s o x s' o') : Rfg enc ok ok s o x s' o' :=
  ⟨fun he => c.rfBack h he, fun y q ho hy hq => by subst ho; exact c.rfFwd h hy hq, fun ho => by subst ho; exact h.off.2.2⟩
theorem rdgHead {r : Bs} {v b : Bs} {k s z bq n p1 p2 p3 p4 p5 p6 p7 : Nat} {e1 e2 e3 e4 e5 e6 e7 : Int} (h1 : RdR (textF 64) [] r 0 0 v p1 e1) (h2 : RdR (fixF 8) 0 r p1 e1 k p2 e2) (h3 : RdR (intF 1099511627776) 0 r p2 e2 s p3 e3) (h4 : RdR (intF 65536) 0 r p3 e3 z p4 e4)
    (h5 : RdR (textF 64) [] r p4 e4 b p5 e5) (h6 : RdR (intF 1099511627776) 0 r p5 e5 bq p6 e6) (h7 : RdR (intF 100) 0 r p6 e6 n p7 e7) : Rdg hdB OkH r 0 0 ⟨v, k, s, z, b, bq, n⟩ p7 e7 := by
  have g1 := cT.rdg h1
  have g2 := cK.rdg h2
  have g3 := cI.rdg h3
  have g4 := cZ.rdg h4
  have g5 := cT.rdg h5
  have g6 := cI.rdg h6
  have g7 := cN.rdg h7
  refine ⟨g7.le, fun he => ?_, fun y q _ hy hq => ?_⟩
  · obtain ⟨x6, o7, t7⟩ := g7.back he
    obtain ⟨x5, o6, t6⟩ := g6.back x6
    obtain ⟨x4, o5, t5⟩ := g5.back x5
    obtain ⟨x3, o4, t4⟩ := g4.back x4
    obtain ⟨x2, o3, t3⟩ := g3.back x3
    obtain ⟨x1, o2, t2⟩ := g2.back x2
    obtain ⟨_, o1, t1⟩ := g1.back x1
    refine ⟨rfl, ⟨o1, o2, o3, o4, o5, o6, o7⟩, ?_⟩
    rw [t1, t2, t3, t4, t5, t6, t7]
    simp [hdB]
  · obtain ⟨b1, b2, b3, b4, b5, b6, b7⟩ := hy
    unfold hdB at hq
    simp only [List.append_assoc] at hq
    obtain ⟨r1, f1, q1⟩ := g1.fwd _ _ rfl b1 hq
    obtain ⟨r2, f2, q2⟩ := g2.fwd y.k _ f1 (show y.k < 256 ^ 8 from b2) q1
    obtain ⟨r3, f3, q3⟩ := g3.fwd _ _ f2 b3 q2
    obtain ⟨r4, f4, q4⟩ := g4.fwd _ _ f3 b4 q3
    obtain ⟨r5, f5, q5⟩ := g5.fwd _ _ f4 b5 q4
    obtain ⟨r6, f6, q6⟩ := g6.fwd _ _ f5 b6 q5
    obtain ⟨r7, f7, q7⟩ := g7.fwd _ _ f6 b7 q6
    refine ⟨?_, f7, q7⟩
    cases y
    simp only at *
    subst r1 r2 r3 r4 r5 r6 r7
    rfl
theorem rdgSn {r : Bs} {xn : Bs} {q u p p1 p2 p3 : Nat} {e e1 e2 e3 : Int} (h1 : RdR (textF 64) [] r p e xn p1 e1) (h2 : RdR (intF 1099511627776) 0 r p1 e1 q p2 e2) (h3 : RdR (intF 1099511627776) 0 r p2 e2 u p3 e3) : Rdg snB OkS r p e ⟨xn, q, u⟩ p3 e3 := by
  have g1 := cT.rdg h1
  have g2 := cI.rdg h2
  have g3 := cI.rdg h3
  refine ⟨g3.le, fun he => ?_, fun y t hE hy hq => ?_⟩
  · obtain ⟨x2, o3, t3⟩ := g3.back he
    obtain ⟨x1, o2, t2⟩ := g2.back x2
    obtain ⟨x0, o1, t1⟩ := g1.back x1
    refine ⟨x0, ⟨o1, by simp only; omega, by simp only; omega, by simp only; omega, by simp only; omega⟩, ?_⟩
    rw [t1, t2, t3]
    simp [snB]
  · unfold snB at hq
    simp only [List.append_assoc] at hq
    obtain ⟨r1, f1, q1⟩ := g1.fwd _ _ hE hy.1 hq
    obtain ⟨r2, f2, q2⟩ := g2.fwd _ _ f1 (show y.q.toNat ≤ 1099511627776 by have := hy.2; omega) q1
    obtain ⟨r3, f3, q3⟩ := g3.fwd _ _ f2 (show y.u.toNat ≤ 1099511627776 by have := hy.2; omega) q2
    exact ⟨Sn3.eq r1 (by have := hy.2; simp only; omega) (by have := hy.2; simp only; omega), f3, q3⟩
/-- Of a row of things that was read. -/
structure Rows {α : Type} (enc : α → Bs) (ok : α → Prop) (r : Bs) (p : Nat) (e : Int) (l : List α) (p' : Nat) (e' : Int) : Prop where
  le : p' ≤ r.length
  back : e' = 0 → e = 0 ∧ (∀ x ∈ l, ok x) ∧ r.drop p = l.flatMap enc ++ r.drop p'
  fwd : ∀ (L : List α) (q : Bs), e = 0 → (∀ x ∈ L, ok x) → r.drop p = L.flatMap enc ++ q → l.length ≤ L.length → e' = 0 ∧ l = L.take l.length ∧ r.drop p' = (L.drop l.length).flatMap enc ++ q
theorem Rows.nil {α : Type} {enc : α → Bs} {ok : α → Prop} {r : Bs} {p : Nat} {e : Int} (hp : p ≤ r.length) : Rows enc ok r p e [] p e :=
  ⟨hp, fun he => ⟨he, fun _ h => (by cases h), by simp⟩, fun L q he _ hq _ => ⟨he, by simp, by simpa using hq⟩⟩
theorem Rows.snoc {α : Type} {enc : α → Bs} {ok : α → Prop} {r : Bs} {p p' p2 : Nat} {e e' e2 : Int} {l : List α} {x : α} (h : Rows enc ok r p e l p' e') (k : Rdg enc ok r p' e' x p2 e2) : Rows enc ok r p e (l ++ [x]) p2 e2 := by
  refine ⟨k.le, fun he => ?_, fun L q hE hL hq hlen => ?_⟩
  · obtain ⟨a1, a2, a3⟩ := k.back he
    obtain ⟨b1, b2, b3⟩ := h.back a1
    refine ⟨b1, fun y hy => ?_, ?_⟩
    · rcases List.mem_append.1 hy with q | q
      · exact b2 y q
      · obtain rfl : y = x := by simpa using q
        exact a2
    · rw [b3, a3]
      simp
  · rw [List.length_append, List.length_singleton] at hlen
    obtain ⟨a1, a2, a3⟩ := h.fwd L q hE hL hq (by omega)
    obtain ⟨y, hy⟩ := get_lt' (l := L) (k := l.length) (by omega)
    have hd : L.drop l.length = y :: L.drop (l.length + 1) := by
      obtain ⟨hi, he⟩ := List.getElem?_eq_some_iff.1 hy
      rw [List.drop_eq_getElem_cons hi, he]
    rw [hd, List.flatMap_cons, List.append_assoc] at a3
    obtain ⟨b1, b2, b3⟩ := k.fwd y _ a1 (hL y (List.mem_of_getElem? hy)) a3
    refine ⟨b2, ?_, by rw [List.length_append, List.length_singleton]; exact b3⟩
    rw [List.length_append, List.length_singleton, ← take_snoc' hy, ← a2, b1]
/-- All of it was read. -/
theorem dec_ok {r : Bs} {h : Hd} {l : List Sn3} {p q : Nat} {e f : Int} (h1 : Rdg hdB OkH r 0 0 h p e) (h2 : Rows snB OkS r p e l q f) (hn : l.length = h.n) (hf : f = 0 ∧ q = r.length) : r = manB (manOf h l) ∧ h.k < 18446744073709551616 := by
  obtain ⟨a1, a2, a3⟩ := h2.back hf.1
  obtain ⟨_, b2, b3⟩ := h1.back a1
  rw [List.drop_zero, a3, hf.2, List.drop_length, List.append_nil] at b3
  exact ⟨by rw [manB_of h l hn.symm]; exact b3, b2.2.1⟩
theorem dec_no {r : Bs} {h : Hd} {l : List Sn3} {p q : Nat} {e f : Int} (h1 : Rdg hdB OkH r 0 0 h p e) (h2 : Rows snB OkS r p e l q f) (hn : l.length = h.n) (hf : ¬ (f = 0 ∧ q = r.length ∧ IsChkM (manOf h l) 0)) : ∀ m', GoodM m' → r ≠ manB m' := fun m' hm hr => by
  have hr' : r.drop 0 = hdB (hdOf m') ++ m'.sn.flatMap snB := by rw [List.drop_zero, hr]; rfl
  obtain ⟨a1, a2, a3⟩ := h1.fwd _ _ rfl hm.hd hr'
  have hl : l.length = m'.sn.length := by rw [hn, a1]; rfl
  obtain ⟨b1, b2, b3⟩ := h2.fwd m'.sn [] a2 hm.sns (by simpa using a3) (by omega)
  rw [hl, List.take_length] at b2
  rw [hl, List.drop_length] at b3
  have hq : q = r.length := by
    have h3 := h2.le
    have h4 := congrArg List.length b3
    simp at h4
    omega
  refine hf ⟨b1, hq, ?_⟩
  rw [a1, b2, hm.back]
  exact hm.1
end Go.Lx
