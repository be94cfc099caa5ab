/- Tables: plain laws; rows of rows in memory. -/
import Derived.Test.YtapkpicloanbcaaGq
import Derived.Test.YtapkpicloanbcaaXn
import Derived.Test.YtapkpicloanbcaaXg
namespace Go.Lx
set_option linter.unusedVariables false
set_option linter.unusedSimpArgs false

/-! ### a pack of assertions, as one -/
def pack (L : List Assn) : Assn where
  holds w F := Sep L w F
  loc := fun h k => h.loc k
  dom := fun h hb => h.dom hb
variable {C : Cx} {A : List Assn} {w : World}
theorem Sep.unpack {L : List Assn} {F : Nat → Prop} (h : Sep (pack L :: A) w F) : Sep (L ++ A) w F := by
  obtain ⟨F1, F2, h1, h2, hd, hF⟩ := h
  have e : F = fun b => F1 b ∨ F2 b := by funext b; exact propext (hF b)
  rw [e]
  exact Sep.append h1 h2 hd
theorem Sep.pack {L : List Assn} {F : Nat → Prop} (h : Sep (L ++ A) w F) : Sep (pack L :: A) w F := by
  obtain ⟨F1, F2, h1, h2, hd, hF⟩ := h.split
  exact ⟨F1, F2, h1, h2, hd, hF⟩
theorem Conf.unpack {L : List Assn} (h : Conf C (Lx.pack L :: A) w) : Conf C (L ++ A) w := ⟨h.os, h.tape, h.output, h.size, h.drawn, h.keep, let ⟨F, s, f⟩ := h.sep; ⟨F, s.unpack, f⟩⟩
theorem Conf.packed {L : List Assn} (h : Conf C (L ++ A) w) : Conf C (Lx.pack L :: A) w := ⟨h.os, h.tape, h.output, h.size, h.drawn, h.keep, let ⟨F, s, f⟩ := h.sep; ⟨F, s.pack, f⟩⟩
theorem perm_set {α : Type} : ∀ (L : List α) (k : Nat) (p : α), k < L.length → (p :: L.eraseIdx k).Perm (L.set k p)
  | [], k, p, h => by simp at h
  | x :: L, 0, p, _ => by simp
  | x :: L, k + 1, p, h => by
    simp only [List.eraseIdx_cons_succ, List.set_cons_succ]
    exact (List.Perm.swap _ _ _).trans ((perm_set L k p (by simpa using h)).cons x)
/-- One is put back into the pack. -/
theorem Conf.putIn {L : List Assn} {p : Assn} {k : Nat} (hk : k < L.length) (h : Conf C (p :: Lx.pack (L.eraseIdx k) :: A) w) : Conf C (Lx.pack (L.set k p) :: A) w := by
  have h1 := (h.perm (List.Perm.swap _ _ _)).unpack
  have h2 : Conf C (p :: (L.eraseIdx k ++ A)) w := h1.perm List.perm_middle
  exact Conf.packed (h2.perm ((perm_set L k p hk).append_right A))
/-- One is taken out of the pack. -/
theorem Conf.takeOut {L : List Assn} {p : Assn} {k : Nat} (hk : L[k]? = some p) (h : Conf C (Lx.pack L :: A) w) : Conf C (p :: Lx.pack (L.eraseIdx k) :: A) w := by
  obtain ⟨hl, hp⟩ := List.getElem?_eq_some_iff.1 hk
  have e : L.set k p = L := by rw [← hp]; simp
  have h1 := h.unpack
  have h2 : Conf C (p :: (L.eraseIdx k ++ A)) w := h1.perm (by
    have := (perm_set L k p hl).symm
    rw [e] at this
    exact this.append_right A)
  exact (Conf.packed (h2.perm List.perm_middle.symm)).perm (List.Perm.swap _ _ _)
/-- One of the pack is exchanged for something new. -/
theorem Conf.swapIn {L : List Assn} {p : Assn} {k : Nat} (hk : k < L.length) (h : Conf C (p :: Lx.pack L :: A) w) : Conf C (Lx.pack (L.set k p) :: A) w := by
  refine Conf.putIn hk ?_
  have h1 := (h.perm (List.Perm.swap _ _ _)).takeOut (List.getElem?_eq_getElem hk)
  exact (h1.drop.perm (List.Perm.swap _ _ _))
theorem Conf.packRd {L : List Assn} {i k : Nat} {T sz n c : Nat} {a : Option Addr} {xs : List Value} (h : Conf C A w) (hi : A[i]? = some (Lx.pack L)) (hk : L[k]? = some (own T sz (.slice a n c) n xs)) : Rd w sz a n c xs := by
  obtain ⟨F, hp, _⟩ := h.get hi
  obtain ⟨F1, h1, _⟩ := Sep.get hk hp
  exact (own_rd h1).1

/-! ### rows of Bools -/
structure Br where
  a : Option Addr
  c : Nat
  b : List Bool
def Br.v (r : Br) : Value := .slice r.a r.b.length r.c
def Br.own (T : Nat) (r : Br) : Assn := Lx.own T 1 (.slice r.a r.b.length r.c) r.b.length (encB r.b)
def encR1 (r : Br) : List Value := [r.v]
def encR (l : List Br) : List Value := l.flatMap encR1
def nilBr : Br := ⟨none, 0, []⟩
theorem Rd.br {w : World} {a : Option Addr} {n c m : Nat} {xs : List Br} {x : Br} (h : Rd w 1 a n c (encR xs)) (hx : xs[m]? = some x) : w.cell? (el a (m * 1)) = some (.slice x.a x.b.length x.c) := by
  have := Rd.elem (f := encR1) h (fun _ => rfl) hx 0 _ rfl
  rw [el_add] at this
  exact this
theorem encR_set (l : List Br) (k : Nat) (r : Br) (h : k < l.length) : putAt (encR l) (k * 1) [.slice r.a r.b.length r.c] = encR (l.set k r) := putAt_flat encR1 1 (fun _ => rfl) r l k h
theorem encR_same {l : List Br} {k : Nat} {r : Br} (h : l[k]? = some r) : putAt (encR l) (k * 1) [.slice r.a r.b.length r.c] = encR l := by
  rw [encR_set l k r (lt_of_get' h)]
  congr 1
  obtain ⟨hk, rfl⟩ := List.getElem?_eq_some_iff.1 h
  simp
theorem encR_made (n : Nat) : (madeCells #[Value.slice none 0 0] (n * 1)).toList = encR (List.replicate n nilBr) := by
  rw [Nat.mul_one, toList_madeCells_one]
  unfold encR
  induction n with
  | zero => rfl
  | succ n ih => rw [List.replicate_succ, List.replicate_succ, List.flatMap_cons, ← ih]; rfl
theorem own_map_set (T : Nat) (l : List Br) (k : Nat) (r : Br) : (l.map (Br.own T)).set k (Br.own T r) = (l.set k r).map (Br.own T) := by rw [List.map_set]
theorem sep_nils (T : Nat) : ∀ n, Sep ((List.replicate n nilBr).map (Br.own T)) w (fun _ => False)
  | 0 => fun _ h => h
  | n + 1 => ⟨fun _ => False, fun _ => False, ⟨⟨rfl, .inl ⟨rfl, rfl⟩⟩, fun b => by simp [Value.ownBlock, nilBr]⟩, sep_nils T n, fun _ h => h.elim, fun b => by simp⟩
theorem Conf.nils (h : Conf C A w) (T n : Nat) : Conf C (Lx.pack ((List.replicate n nilBr).map (Br.own T)) :: A) w :=
  ⟨h.os, h.tape, h.output, h.size, h.drawn, h.keep, let ⟨F, s, f⟩ := h.sep; ⟨F, ⟨fun _ => False, F, sep_nils T n, s, fun _ h => h.elim, fun b => by simp⟩, f⟩⟩

theorem Conf.rowIn {T n i : Nat} {rows : List Br} {r : Br} (hi : i < rows.length) (hn : r.b.length = n) (h : Conf C (own T 1 (.slice r.a n r.c) n (encB r.b) :: Lx.pack (rows.map (Br.own T)) :: A) w) : Conf C (Lx.pack ((rows.set i r).map (Br.own T)) :: A) w := by
  subst hn
  have := Conf.swapIn (k := i) (p := Br.own T r) (by simpa using hi) h
  rwa [own_map_set] at this
theorem Conf.rowOut {T i : Nat} {rows : List Br} {r : Br} (hr : rows[i]? = some r) (h : Conf C (Lx.pack (rows.map (Br.own T)) :: A) w) : Conf C (own T 1 (.slice r.a r.b.length r.c) r.b.length (encB r.b) :: Lx.pack ((rows.map (Br.own T)).eraseIdx i) :: A) w :=
  Conf.takeOut (p := Br.own T r) (by rw [List.getElem?_map, hr]; rfl) h
theorem Conf.rowBack {T n i : Nat} {rows : List Br} {r : Br} (hi : i < rows.length) (hn : r.b.length = n) (h : Conf C (own T 1 (.slice r.a n r.c) n (encB r.b) :: Lx.pack ((rows.map (Br.own T)).eraseIdx i) :: A) w) : Conf C (Lx.pack ((rows.set i r).map (Br.own T)) :: A) w := by
  subst hn
  have := Conf.putIn (k := i) (p := Br.own T r) (by simpa using hi) h
  rwa [own_map_set] at this
theorem Conf.rowRd {T i k : Nat} {rows : List Br} {r : Br} (h : Conf C A w) (hi : A[i]? = some (Lx.pack (rows.map (Br.own T)))) (hr : rows[k]? = some r) : Rd w 1 r.a r.b.length r.c (encB r.b) :=
  Conf.packRd h hi (by rw [List.getElem?_map, hr]; rfl)
theorem Rd.usV {a : Option Addr} {n c m : Nat} {xs : List Us} {s z v : Int} (h : Rd w 3 a n c (encU xs)) (hx : xs[m]? = some ⟨s, z, v⟩) : w.cell? (el a (m * 3 + 2)) = some (.int .i64 v) := (Rd.usAt h hx).2.2

theorem Rd.extQ {w : World} {a : Option Addr} {n c m : Nat} {xs : List Ext} {x : Ext} (h : Rd w 4 a n c (encE xs)) (hx : xs[m]? = some x) : w.cell? (el a (m * 4 + 2)) = some (.int .i64 x.q) := by
  have := Rd.ext h hx 2 _ rfl
  rw [el_add] at this
  exact this
theorem Rd.extP {w : World} {a : Option Addr} {n c m : Nat} {xs : List Ext} {x : Ext} (h : Rd w 4 a n c (encE xs)) (hx : xs[m]? = some x) : w.cell? (el a (m * 4 + 3)) = some (.int .i64 x.p) := by
  have := Rd.ext h hx 3 _ rfl
  rw [el_add] at this
  exact this

/-! ### tables -/
def InX (l : List Ext) (s : Int) (t : Nat) : Prop := ∃ x ∈ l, x.q = s ∧ x.p ≤ t ∧ (t : Int) < x.p + x.n
instance (l : List Ext) (s : Int) (t : Nat) : Decidable (InX l s t) := by unfold InX; infer_instance
def cnt (l : List Ext) (s : Int) : Nat → Nat
  | 0 => 0
  | t + 1 => cnt l s t + if InX l s t then 1 else 0
theorem cnt_le (l : List Ext) (s : Int) : ∀ t, cnt l s t ≤ t
  | 0 => Nat.le_refl _
  | t + 1 => by have := cnt_le l s t; simp only [cnt]; split <;> omega
def resU (l : List Ext) (u : Us) : Us := ⟨u.s, u.z, cnt l u.s u.z.toNat⟩
def tbE (z : List Us) : List Ext → Int
  | [] => 0
  | x :: l => if ¬ rightE x then 1 else if ∀ u ∈ z, u.s ≠ x.q then 15 else if ∃ u ∈ z, u.s = x.q ∧ x.p + x.n > u.z then 31 else tbE z l
/-- What Table answers. -/
def IsTb (z : List Us) (l : List Ext) (e : Int) (o : List Us) : Prop :=
  (IsChk z e ∧ e ≠ 0 ∧ o = []) ∨ (UsOK z z.length ∧ e = tbE z l ∧ e ≠ 0 ∧ o = []) ∨ (UsOK z z.length ∧ tbE z l = 0 ∧ e = 0 ∧ o = z.map (resU l))
theorem IsTb.unique {z : List Us} {l : List Ext} {e f : Int} {o p : List Us} (h : IsTb z l e o) (k : IsTb z l f p) : e = f ∧ o = p := by
  have hu : UsOK z z.length → IsChk z 0 := fun h => .inl ⟨rfl, h⟩
  rcases h with ⟨h1, h2, h3⟩ | ⟨h1, h2, h3, h4⟩ | ⟨h1, h2, h3, h4⟩ <;> rcases k with ⟨k1, k2, k3⟩ | ⟨k1, k2, k3, k4⟩ | ⟨k1, k2, k3, k4⟩
  · exact ⟨h1.unique k1, h3.trans k3.symm⟩
  · exact absurd (h1.unique (hu k1)) h2
  · exact absurd (h1.unique (hu k1)) h2
  · exact absurd (k1.unique (hu h1)) k2
  · exact ⟨h2.trans k2.symm, h4.trans k4.symm⟩
  · exact absurd (h2.trans k2) h3
  · exact absurd (k1.unique (hu h1)) k2
  · exact absurd (k2.trans h2) k3
  · exact ⟨h3.trans k3.symm, h4.trans k4.symm⟩
/-- The extents ahead of the i-th are as they should be. -/
def OkTo (z : List Us) (l : List Ext) (i : Nat) : Prop := ∀ j x, j < i → l[j]? = some x → rightE x ∧ (∃ u ∈ z, u.s = x.q) ∧ ¬ ∃ u ∈ z, u.s = x.q ∧ x.p + x.n > u.z
theorem OkTo.nil (z : List Us) (l : List Ext) : OkTo z l 0 := fun j x hj => by omega
theorem OkTo.step {z : List Us} {l : List Ext} {i : Nat} {x : Ext} (h : OkTo z l i) (hx : l[i]? = some x) (h1 : rightE x) (h2 : ∃ u ∈ z, u.s = x.q) (h3 : ¬ ∃ u ∈ z, u.s = x.q ∧ x.p + x.n > u.z) : OkTo z l (i + 1) := by
  intro j y hj hy
  rcases Nat.lt_or_ge j i with h' | h'
  · exact h j y h' hy
  · obtain rfl : j = i := by omega
    rw [hx] at hy; cases hy
    exact ⟨h1, h2, h3⟩
theorem tbE_drop {z : List Us} {l : List Ext} : ∀ {i : Nat}, OkTo z l i → i ≤ l.length → tbE z l = tbE z (l.drop i)
  | 0, _, _ => by simp
  | i + 1, h, hi => by
    have h' : OkTo z l i := fun j x hj hx => h j x (by omega) hx
    rw [tbE_drop h' (by omega)]
    obtain ⟨x, hx⟩ := get_lt' (l := l) (k := i) (by omega)
    obtain ⟨h1, ⟨u, hu, hus⟩, h3⟩ := h i x (by omega) hx
    rw [drop_get hx, tbE, if_neg (by simpa using h1), if_neg (fun hn => hn u hu hus), if_neg h3]
theorem tbE_bad {z : List Us} {l : List Ext} {i : Nat} {x : Ext} (h : OkTo z l i) (hx : l[i]? = some x) : tbE z l = if ¬ rightE x then 1 else if ∀ u ∈ z, u.s ≠ x.q then 15 else if ∃ u ∈ z, u.s = x.q ∧ x.p + x.n > u.z then 31 else tbE z (l.drop (i + 1)) := by
  rw [tbE_drop h (by have := lt_of_get' hx; omega), drop_get hx, tbE]
theorem tbE_all {z : List Us} {l : List Ext} (h : OkTo z l l.length) : tbE z l = 0 := by
  rw [tbE_drop h (Nat.le_refl _), List.drop_length, tbE]
/-- What stands in the rows: which sectors the extents reach. -/
def LvI (z : List Us) (l : List Ext) (live : List Br) : Prop :=
  live.length = z.length ∧ ∀ (j : Nat) (u : Us) (r : Br), z[j]? = some u → live[j]? = some r → r.b.length = u.z.toNat ∧ ∀ t, t < u.z.toNat → r.b[t]? = some (decide (InX l u.s t))
theorem InX.snoc {l : List Ext} {x : Ext} {s : Int} {t : Nat} : InX (l ++ [x]) s t ↔ InX l s t ∨ (x.q = s ∧ x.p ≤ t ∧ (t : Int) < x.p + x.n) := by
  unfold InX
  simp only [List.mem_append, List.mem_singleton]
  constructor
  · rintro ⟨y, h1 | rfl, h2⟩
    · exact .inl ⟨y, h1, h2⟩
    · exact .inr h2
  · rintro (⟨y, h1, h2⟩ | h)
    · exact ⟨y, .inl h1, h2⟩
    · exact ⟨x, .inr rfl, h⟩
theorem LvI.congr {z : List Us} {l m : List Ext} {live : List Br} (h : LvI z l live) (hm : ∀ s t, InX l s t ↔ InX m s t) : LvI z m live :=
  ⟨h.1, fun j u r hu hr => ⟨(h.2 j u r hu hr).1, fun t ht => by rw [(h.2 j u r hu hr).2 t ht]; congr 1; exact decide_eq_decide.2 (hm _ _)⟩⟩
theorem LvI.cut0 {z : List Us} {l : List Ext} {live : List Br} (x : Ext) (h : LvI z l live) : LvI z (l ++ [cut x 0]) live :=
  h.congr fun s t => by rw [InX.snoc]; unfold cut; dsimp only; constructor; exact .inl; rintro (h | ⟨_, h1, h2⟩); exact h; omega
theorem LvI.cutN {z : List Us} {l : List Ext} {live : List Br} {x : Ext} {k : Int} (h : LvI z (l ++ [cut x k]) live) (hk : k = x.n) : LvI z (l ++ [x]) live := by subst hk; exact h
theorem LvI.mark {z : List Us} (hok : UsOK z z.length) {l : List Ext} {live : List Br} {x : Ext} {k p : Nat} {i : Nat} {u : Us} {r : Br} (h : LvI z (l ++ [cut x k]) live) (hu : z[i]? = some u) (hr : live[i]? = some r) (hq : u.s = x.q) (hp : (p : Int) = x.p + k) (hlt : p < u.z.toNat) :
    LvI z (l ++ [cut x ((k + 1 : Nat) : Int)]) (live.set i ⟨r.a, r.c, r.b.set p true⟩) := by
  have hil := lt_of_get' hr
  refine ⟨by rw [List.length_set]; exact h.1, fun j v s hv hs => ?_⟩
  by_cases e : i = j
  · subst e
    rw [hu] at hv; cases hv
    rw [List.getElem?_set_self hil] at hs
    cases hs
    obtain ⟨h1, h2⟩ := h.2 i u r hu hr
    refine ⟨by simpa using h1, fun t ht => ?_⟩
    by_cases e2 : p = t
    · subst e2
      rw [List.getElem?_set_self (by omega)]
      congr 1
      refine (decide_eq_true ?_).symm
      rw [InX.snoc]
      exact .inr ⟨by unfold cut; exact hq.symm, by unfold cut; dsimp only; omega, by unfold cut; dsimp only; omega⟩
    · rw [List.getElem?_set_ne e2, h2 t ht]
      congr 1
      refine decide_eq_decide.2 ?_
      rw [InX.snoc, InX.snoc]
      unfold cut; dsimp only
      constructor
      · rintro (h | ⟨a, b, c⟩); exact .inl h; exact .inr ⟨a, b, by omega⟩
      · rintro (h | ⟨a, b, c⟩); exact .inl h; exact .inr ⟨a, b, by omega⟩
  · rw [List.getElem?_set_ne e] at hs
    obtain ⟨h1, h2⟩ := h.2 j v s hv hs
    refine ⟨h1, fun t ht => ?_⟩
    rw [h2 t ht]
    congr 1
    refine decide_eq_decide.2 ?_
    rw [InX.snoc, InX.snoc]
    unfold cut; dsimp only
    have hne : x.q ≠ v.s := fun hq2 => by
      have := hok.inj (List.mem_of_getElem? hu) (List.mem_of_getElem? hv) (by rw [hq, hq2])
      subst this
      rcases Nat.lt_or_ge i j with hij | hij
      · have := hok.lt _ _ _ _ hij hu hv; omega
      · have := hok.lt _ _ _ _ (show j < i by omega) hv hu; omega
    constructor
    · rintro (h | ⟨a, _⟩); exact .inl h; exact absurd a hne
    · rintro (h | ⟨a, _⟩); exact .inl h; exact absurd a hne
/-- The rows are made. -/
def MkI (z : List Us) (i : Nat) (live : List Br) : Prop := live.length = z.length ∧ ∀ (j : Nat) (u : Us) (r : Br), j < i → z[j]? = some u → live[j]? = some r → r.b = List.replicate u.z.toNat false
theorem MkI.nil (z : List Us) : MkI z 0 (List.replicate z.length nilBr) := ⟨by simp, fun j u r hj => by omega⟩
theorem MkI.step {z : List Us} {i : Nat} {live : List Br} {u : Us} {a : Option Addr} {c : Nat} (h : MkI z i live) (hu : z[i]? = some u) : MkI z (i + 1) (live.set i ⟨a, c, List.replicate u.z.toNat false⟩) := by
  refine ⟨by rw [List.length_set]; exact h.1, fun j v r hj hv hr => ?_⟩
  have hi := lt_of_get' hu
  by_cases e : i = j
  · subst e
    rw [hu] at hv; cases hv
    rw [List.getElem?_set_self (by rw [h.1]; exact hi)] at hr
    cases hr; rfl
  · rw [List.getElem?_set_ne e] at hr
    exact h.2 j v r (by omega) hv hr
theorem MkI.live {z : List Us} {live : List Br} (h : MkI z z.length live) : LvI z [] live := by
  refine ⟨h.1, fun j u r hu hr => ?_⟩
  have e := h.2 j u r (lt_of_get' hu) hu hr
  rw [e]
  refine ⟨by simp, fun t ht => ?_⟩
  rw [List.getElem?_replicate, if_pos ht]
  congr 1
theorem encU_setv (o : List Us) (k : Nat) (u : Us) (v : Int) (h : o[k]? = some u) : putAt (encU o) (k * 3 + 2) [.int .i64 v] = encU (o.set k ⟨u.s, u.z, v⟩) := by
  have hk := lt_of_get' h
  rw [putAt_one _ _ _ (by rw [encU_len]; omega)]
  exact set_flat encU1 3 (fun _ => rfl) 2 (by omega) (.int .i64 v) ⟨u.s, u.z, v⟩ u rfl o k h
/-- The table, as far as it is told. -/
def outU (z : List Us) (l : List Ext) (i : Nat) : List Us := (z.take i).map (resU l) ++ z.drop i
theorem outU_get {z : List Us} {l : List Ext} {i : Nat} {u : Us} (h : z[i]? = some u) : (outU z l i)[i]? = some u := by
  have hi := lt_of_get' h
  unfold outU
  rw [List.getElem?_append_right (by simp; omega)]
  simp [Nat.min_eq_left (by omega : i ≤ z.length), h]
theorem outU_len (z : List Us) (l : List Ext) (i : Nat) : (outU z l i).length = z.length := by
  unfold outU; simp; omega
theorem outU_step {z : List Us} {l : List Ext} {i : Nat} {u : Us} (h : z[i]? = some u) : (outU z l i).set i (resU l u) = outU z l (i + 1) := by
  have hi := lt_of_get' h
  unfold outU
  rw [List.set_append_right _ _ (by simp; omega), drop_get h, take_snoc' h]
  simp [Nat.min_eq_left (by omega : i ≤ z.length)]
theorem outU_all (z : List Us) (l : List Ext) : outU z l z.length = z.map (resU l) := by unfold outU; simp
end Go.Lx
