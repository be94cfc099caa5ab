/- Texts Kr Ku Lb, merged: a claim has at most 60 files. -/
import Derived.Test.YtgmfmcammaighaaGreatM29
import Derived.Test.YtgmfmcammaighaaGreatM26
/- It does not count in how many calls objects are folded: plain laws. -/
namespace Go.Lx
open Go.Proofs
set_option linter.unusedVariables false
set_option linter.unusedSimpArgs false

/-- Two states of which the numbers are the same. -/
def AlikeK (c d : Ck) : Prop := c.k = d.k ∧ c.sq = d.sq ∧ c.ep = d.ep ∧ c.up = d.up ∧ c.sz = d.sz ∧ c.nt = d.nt
theorem AlikeK.may {c d : Ck} (h : AlikeK c d) (o : Dob) : mayK c o = mayK d o := mayK_eq h.1 h.2.1 h.2.2.1 h.2.2.2.1 h.2.2.2.2.1
end Go.Lx

/- Where a sector is behind objects that are applied one by one: plain laws. -/
namespace Go.Lx
open Go.Proofs
set_option linter.unusedVariables false
set_option linter.unusedSimpArgs false

theorem OrdP.lt {sq : Int} {l : List Ext} {n : Nat} (h : OrdP sq l n) : ∀ {i j : Nat} {x y : Ext}, j < i → i < n → l[j]? = some y → l[i]? = some x → y.a + y.n ≤ x.a
  | 0, _, _, _, h1, _, _, _ => absurd h1 (Nat.not_lt_zero _)
  | k + 1, j, x, y, h1, h2, hy, hx => by
    obtain ⟨_, h3⟩ := h (k + 1) x h2 hx
    rcases Nat.lt_or_ge j k with g | g
    · obtain ⟨z, hz⟩ := get_lt (l := l) (k := k) (by have := lt_of_get hx; omega)
      have h4 := h.lt g (by omega) hy hz
      have h5 := h3 z (Nat.succ_pos k) hz
      have h6 := (h k z (by omega) hz).1.1
      unfold mayS at h6
      dsimp only at h6
      omega
    · obtain rfl : j = k := by omega
      exact h3 y (Nat.succ_pos j) hy
theorem stepS_off {sq p t : Int} {σ : Sig} {x : Ext} (h : ¬ (x.a ≤ t ∧ t < x.a + x.n)) : stepS sq σ p x t = σ t := by
  unfold stepS
  split
  · unfold updE; dsimp only; rw [if_neg h]
  · unfold movS; dsimp only; rw [if_neg (fun g => h ⟨g.1, g.2.1⟩)]
theorem partsN_off {σ : Sig} {sq t : Int} {l : List Ext} {m : Nat} : ∀ {n : Nat}, m ≤ n → (∀ (j : Nat) y, m ≤ j → j < n → l[j]? = some y → ¬ (y.a ≤ t ∧ t < y.a + y.n)) → partsN σ sq l n t = partsN σ sq l m t
  | 0, h, _ => by obtain rfl : m = 0 := by omega
                  rfl
  | n + 1, h, hn => by
    rcases Nat.lt_or_ge n m with g | g
    · obtain rfl : m = n + 1 := by omega
      rfl
    · rw [← partsN_off g (fun j y h1 h2 h3 => hn j y h1 (by omega) h3)]
      cases hx : l[n]? with
      | none => simp only [partsN, hx]
      | some x => rw [partsN_succ hx, stepS_off (hn n x g (by omega) hx)]
theorem cuts_in : ∀ (l : List Sp) {σ : Sig} {t : Int}, (∃ y ∈ l, y.1 ≤ t ∧ t < y.1 + y.2) → (l.foldl cutE σ) t = none
  | [], _, _, ⟨y, hy, _⟩ => by cases hy
  | c :: l, σ, t, ⟨y, hy, h⟩ => by
    rw [List.foldl_cons]
    cases hs : (l.foldl cutE (cutE σ c)) t with
    | none => rfl
    | some s =>
      exfalso
      rcases List.mem_cons.1 hy with rfl | g
      · have := cuts_some l hs
        unfold cutE at this
        rw [if_pos h] at this
        cases this
      · rw [cuts_in l ⟨y, g, h⟩] at hs
        cases hs
theorem cuts_off : ∀ (l : List Sp) {σ : Sig} {t : Int}, (∀ y ∈ l, ¬ (y.1 ≤ t ∧ t < y.1 + y.2)) → (l.foldl cutE σ) t = σ t
  | [], _, _, _ => rfl
  | c :: l, σ, t, h => by
    rw [List.foldl_cons, cuts_off l (fun y hy => h y (List.mem_cons_of_mem _ hy))]
    unfold cutE
    rw [if_neg (h c List.mem_cons_self)]
/-- What an object tells of a sector. -/
def OfR (o : Dob) (t r : Int) : Prop :=
  (∃ (i : Nat) (x : Ext), o.ps[i]? = some x ∧ x.a ≤ t ∧ t < x.a + x.n ∧ (0 < x.q ∧ r = -2 ∨ x.q ≤ 0 ∧ r = secs (o.ps.take i) + t - x.a)) ∨
  ((∀ x ∈ o.ps, ¬ (x.a ≤ t ∧ t < x.a + x.n)) ∧ ((∃ y ∈ o.cs, y.1 ≤ t ∧ t < y.1 + y.2) ∧ r = -3 ∨ (∀ y ∈ o.cs, ¬ (y.1 ≤ t ∧ t < y.1 + y.2)) ∧ r = -1))
theorem OfR.last {o : Dob} {t r : Int} (hO : chkD o = 0) (h : OfR o t r) (σ : Sig) :
    (r = -2 ∧ (applyS σ o t = σ t ∨ ∃ p, applyS σ o t = some (o.sq, p))) ∨ (r = -3 ∧ applyS σ o t = none) ∨ (r = -1 ∧ applyS σ o t = σ t) ∨ (0 ≤ r ∧ applyS σ o t = some (o.sq, r)) := by
  obtain ⟨_, _, hP, _, hd⟩ := (chkD_ok hO).2.1
  unfold applyS
  rcases h with ⟨i, x, hx, h1, h2, h3⟩ | ⟨h1, h2⟩
  · have hil := lt_of_get hx
    have hin : inS (spansOf o.ps) t := ⟨(x.a, x.n), List.mem_map.2 ⟨x, List.mem_of_getElem? hx, rfl⟩, h1, h2⟩
    have hcut : (o.cs.foldl cutE σ) t = σ t := cuts_off _ (fun y hy g => hd t hin ⟨y, hy, g⟩)
    have e1 : partsN (o.cs.foldl cutE σ) o.sq o.ps o.ps.length t = partsN (o.cs.foldl cutE σ) o.sq o.ps (i + 1) t := partsN_off (by omega) (fun j y g1 g2 hy g => by
      have := hP.lt (i := j) (j := i) (by omega) g2 hx hy
      omega)
    have e2 : partsN (o.cs.foldl cutE σ) o.sq o.ps i t = σ t := by
      rw [partsN_off (m := 0) (Nat.zero_le _) (fun j y g1 g2 hy g => by
        have := hP.lt (i := i) (j := j) g2 hil hy hx
        omega)]
      exact hcut
    have hp := hP.secs i (by omega)
    rw [e1, partsN_succ hx]
    have hm := (hP i x hil hx).1.2
    rcases h3 with ⟨h3, rfl⟩ | ⟨h3, rfl⟩
    · refine .inl ⟨rfl, ?_⟩
      unfold stepS
      rw [if_neg (fun g => by have := g.1; omega)]
      unfold movS
      dsimp only
      split
      · exact .inr ⟨_, rfl⟩
      · exact .inl e2
    · refine .inr (.inr (.inr ⟨by omega, ?_⟩))
      unfold stepS
      rw [if_pos (hm.resolve_right (fun g => by omega))]
      unfold updE
      dsimp only
      rw [if_pos ⟨h1, h2⟩]
      congr 2
      omega
  · have e : partsN (o.cs.foldl cutE σ) o.sq o.ps o.ps.length t = (o.cs.foldl cutE σ) t := partsN_off (m := 0) (Nat.zero_le _) (fun j y _ _ hy => h1 y (List.mem_of_getElem? hy))
    rw [e]
    rcases h2 with ⟨h2, rfl⟩ | ⟨h2, rfl⟩
    · exact .inr (.inl ⟨rfl, cuts_in _ h2⟩)
    · exact .inr (.inr (.inl ⟨rfl, cuts_off _ h2⟩))
end Go.Lx

/- Rows of objects in memory; ends of spans; what applying objects keeps: plain laws. -/
namespace Go.Lx
open Go.Proofs
set_option linter.unusedVariables false
set_option linter.unusedSimpArgs false

/-! ### a pack of assertions, as one -/
def pack (L : List Assn) : Assn where
  holds w F := Sep L w F
  loc := fun h k => h.loc k
  dom := fun h hb => h.dom hb
variable {C : Cx} {A : List Assn} {w : World}
theorem Sep.unpack {L : List Assn} {F : Nat → Prop} (h : Sep (pack L :: A) w F) : Sep (L ++ A) w F := by
  obtain ⟨F1, F2, h1, h2, hd, hF⟩ := h
  have e : F = fun b => F1 b ∨ F2 b := by funext b; exact propext (hF b)
  rw [e]
  exact Sep.append h1 h2 hd
theorem Sep.pack {L : List Assn} {F : Nat → Prop} (h : Sep (L ++ A) w F) : Sep (pack L :: A) w F := by
  obtain ⟨F1, F2, h1, h2, hd, hF⟩ := h.split
  exact ⟨F1, F2, h1, h2, hd, hF⟩
theorem Conf.unpack {L : List Assn} (h : Conf C (Lx.pack L :: A) w) : Conf C (L ++ A) w := ⟨h.os, h.tape, h.output, h.size, h.drawn, h.keep, let ⟨F, s, f⟩ := h.sep; ⟨F, s.unpack, f⟩⟩
theorem Conf.packed {L : List Assn} (h : Conf C (L ++ A) w) : Conf C (Lx.pack L :: A) w := ⟨h.os, h.tape, h.output, h.size, h.drawn, h.keep, let ⟨F, s, f⟩ := h.sep; ⟨F, s.pack, f⟩⟩
theorem Conf.packNil (h : Conf C A w) : Conf C (Lx.pack [] :: A) w := Conf.packed (L := []) h
theorem Conf.packSnoc {L : List Assn} {p : Assn} (h : Conf C (p :: Lx.pack L :: A) w) : Conf C (Lx.pack (L ++ [p]) :: A) w := by
  have h1 := (h.perm (List.Perm.swap _ _ _)).unpack
  refine Conf.packed ?_
  rw [List.append_assoc]
  exact h1
theorem Conf.packRd {L : List Assn} {i k : Nat} {T sz n c : Nat} {a : Option Addr} {xs : List Value} (h : Conf C A w) (hi : A[i]? = some (Lx.pack L)) (hk : L[k]? = some (own T sz (.slice a n c) n xs)) : Rd w sz a n c xs := by
  obtain ⟨F, hp, _⟩ := h.get hi
  obtain ⟨F1, h1, _⟩ := Sep.get hk hp
  exact (own_rd h1).1
def ptOwn (T : Nat) (x : Ob) : Assn := own T 4 (.slice x.a x.o.ps.length x.c) x.o.ps.length (encE x.o.ps)
theorem Conf.ptRd {T i : Nat} {l : List Ob} {x : Ob} (h : Conf C A w) (hi : A[i]? = some (Lx.pack (l.map (ptOwn T)))) (hx : x ∈ l) : Rd w 4 x.a x.o.ps.length x.c (encE x.o.ps) := by
  obtain ⟨k, hk⟩ := List.mem_iff_getElem?.1 hx
  exact Conf.packRd h hi (k := k) (by rw [List.getElem?_map, hk]; rfl)
theorem encOb_snoc (l : List Ob) (x : Ob) : encOb l ++ encOb1 x = encOb (l ++ [x]) := by
  unfold encOb
  rw [List.flatMap_append]
  simp
theorem encOb_snoc' (l : List Ob) (x : Ob) : encOb l ++ [.int .u64 ((x.o.k : Nat) : Int), .int .i64 x.o.ep, .int .i64 x.o.sq, .int .i64 x.o.up, .slice x.a x.o.ps.length x.c, .slice x.b x.o.cs.length x.d, .string ⟨x.o.d.toArray⟩] = encOb (l ++ [x]) := encOb_snoc l x
theorem Conf.ptSnoc {T : Nat} {l : List Ob} {x : Ob} (h : Conf C (ptOwn T x :: Lx.pack (l.map (ptOwn T)) :: A) w) : Conf C (Lx.pack ((l ++ [x]).map (ptOwn T)) :: A) w := by
  rw [List.map_append]
  exact h.packSnoc
theorem Rd.obF {w : World} {a : Option Addr} {n c m : Nat} {xs : List Ob} {x : Ob} (h : Rd w 7 a n c (encOb xs)) (hx : xs[m]? = some x) (j : Nat) (u : Value) (hu : (encOb1 x)[j]? = some u) : w.cell? (el a (m * 7 + j)) = some u := by
  have := h.ob hx j u hu
  rwa [el_add] at this

/-! ### the sector behind all spans -/
def endX (l : List Sp) : Int := l.foldl (fun n y => max n (y.1 + y.2)) 0
theorem endX_snoc (l : List Sp) (y : Sp) : endX (l ++ [y]) = max (endX l) (y.1 + y.2) := by
  unfold endX
  rw [List.foldl_append]
  rfl
theorem foldMax_gt (z : Int) : ∀ (l : List Sp) (n : Int), z < l.foldl (fun n y => max n (y.1 + y.2)) n ↔ z < n ∨ ∃ y ∈ l, z < y.1 + y.2
  | [], n => by simp
  | y :: l, n => by
    rw [List.foldl_cons, foldMax_gt z l]
    constructor
    · rintro (h | ⟨x, hx, h⟩)
      · rcases Int.lt_or_le z n with g | g
        · exact .inl g
        · exact .inr ⟨y, List.mem_cons_self, by omega⟩
      · exact .inr ⟨x, List.mem_cons_of_mem _ hx, h⟩
    · rintro (h | ⟨x, hx, h⟩)
      · exact .inl (by omega)
      · rcases List.mem_cons.1 hx with rfl | g
        · exact .inl (by omega)
        · exact .inr ⟨x, g, h⟩
theorem endX_gt {z : Int} (hz : 0 ≤ z) (l : List Sp) : z < endX l ↔ ∃ y ∈ l, z < y.1 + y.2 := by
  unfold endX
  rw [foldMax_gt]
  constructor
  · rintro (h | h)
    · omega
    · exact h
  · exact .inr

/-! ### what applying objects keeps -/
theorem partsN_oks {σ : Sig} {sq : Int} {l : List Ext} (hk : OkS σ) (hq : 0 ≤ sq ∧ sq < 1099511627776) (hP : OrdP sq l l.length) : ∀ n, n ≤ l.length → OkS (partsN σ sq l n)
  | 0, _ => hk
  | n + 1, hn => by
    obtain ⟨x, hx⟩ := get_lt (l := l) (k := n) hn
    have ih := partsN_oks hk hq hP n (by omega)
    have hxl := (hP n x (by omega) hx).1.1
    have hs := hP.secs n (by omega)
    unfold mayS at hxl
    dsimp only at hxl
    rw [partsN_succ hx]
    intro t s h
    rcases stepS_some h with ⟨h1, h2, rfl⟩ | h1
    · dsimp only; omega
    · exact ih t s h1
theorem applyS_ok {σ : Sig} {o : Dob} (hk : OkS σ) (hO : chkD o = 0) : OkS (applyS σ o) := by
  obtain ⟨hN, hL, _, _⟩ := chkD_ok hO
  exact partsN_oks (fun t s h => hk t s (cuts_some _ h)) ⟨by have := hN.2.1; omega, hN.2.1.2⟩ hL.2.2.1 _ (Nat.le_refl _)
theorem sigN_ok {c : Ck} {L : List Dob} (hc : OkS (sigC c)) : ∀ {n : Nat}, okN c L n → n ≤ L.length → OkS (sigN c L n)
  | 0, _, _ => hc
  | n + 1, h, hn => by
    obtain ⟨o, ho⟩ := get_lt (l := L) (k := n) hn
    rw [sigN_succ ho]
    exact applyS_ok (sigN_ok hc (fun j p hj hp => h j p (by omega) hp) (by omega)) (mayK_ok (h n o (by omega) ho)).1
theorem find_map0 {σ : Sig} {z : Int} {I : List Ext} (h : IsFind σ (0, z) I) (ho : ∀ t : Int, t < 0 ∨ z ≤ t → σ t = none) : IsMap I σ := ⟨h.rise, h.nf, fun t p => by
  rw [h.at_]
  dsimp only
  constructor
  · exact fun g => g.1
  · intro g
    refine ⟨g, ?_⟩
    by_cases ht : t < 0 ∨ z ≤ t
    · rw [ho t ht] at g; cases g
    · omega⟩
theorem alike_k (c s : Ck) (L : List Dob) (i : Nat) (hs : s = foldN c L i) (o : Dob) : mayK ⟨c.k, s.ep, s.sq, s.up, c.sz, c.m, c.r, c.nt⟩ o = mayK s o := by
  have e := foldN_same c L i
  rw [← hs] at e
  exact mayK_eq e.1.symm rfl rfl rfl e.2.1.symm
end Go.Lx
