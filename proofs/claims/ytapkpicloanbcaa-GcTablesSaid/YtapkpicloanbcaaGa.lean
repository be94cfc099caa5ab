/- Plain laws on uses: which may be, which come ahead, which are taken. -/
import Derived.Test.YtapkpicloanbcaaXc
namespace Go.Lx
set_option linter.unusedVariables false
set_option linter.unusedSimpArgs false

structure Us where
  s : Int
  z : Int
  v : Int
  deriving DecidableEq, Inhabited
def encU1 (u : Us) : List Value := [.int .i64 u.s, .int .i64 u.z, .int .i64 u.v]
def encU (l : List Us) : List Value := l.flatMap encU1
theorem get_lt' {α : Type} {l : List α} {k : Nat} (h : k < l.length) : ∃ x, l[k]? = some x := ⟨l[k], List.getElem?_eq_getElem h⟩
theorem lt_of_get' {α : Type} {l : List α} {k : Nat} {x : α} (h : l[k]? = some x) : k < l.length := (List.getElem?_eq_some_iff.1 h).1
theorem Rd.us {w : World} {a : Option Addr} {n c m : Nat} {xs : List Us} {x : Us} (h : Rd w 3 a n c (encU xs)) (hx : xs[m]? = some x) : ∀ j u, [Value.int .i64 x.s, .int .i64 x.z, .int .i64 x.v][j]? = some u → w.cell? ((el a (m * 3)).add j) = some u := Rd.elem (f := encU1) h (fun _ => rfl) hx
theorem Rd.usLen {w : World} {a : Option Addr} {n c : Nat} {xs : List Us} (h : Rd w 3 a n c (encU xs)) : xs.length = n := by
  have := h.len
  rw [encU, flat_len encU1 3 (fun _ => rfl)] at this
  omega
theorem Rd.usAt {w : World} {a : Option Addr} {n c m : Nat} {xs : List Us} {x : Us} (h : Rd w 3 a n c (encU xs)) (hx : xs[m]? = some x) : w.cell? (el a (m * 3)) = some (.int .i64 x.s) ∧ w.cell? (el a (m * 3 + 1)) = some (.int .i64 x.z) ∧ w.cell? (el a (m * 3 + 2)) = some (.int .i64 x.v) := by
  have h0 := Rd.us h hx 0 _ rfl
  have h1 := Rd.us h hx 1 _ rfl
  have h2 := Rd.us h hx 2 _ rfl
  rw [el_add] at h0 h1 h2
  exact ⟨h0, h1, h2⟩
theorem encU_one (l : List Us) : ∀ u ∈ encU l, u.oneCell' = true := by
  intro u hu
  simp only [encU, List.mem_flatMap] at hu
  obtain ⟨x, _, hx⟩ := hu
  simp [encU1] at hx
  rcases hx with rfl | rfl | rfl <;> rfl
theorem encU_len (l : List Us) : (encU l).length = l.length * 3 := flat_len encU1 3 (fun _ => rfl) l
theorem encU_snoc (o : List Us) (u : Us) : encU o ++ [.int .i64 u.s, .int .i64 u.z, .int .i64 u.v] = encU (o ++ [u]) := by simp [encU, encU1]

def seqS (n : Int) : Prop := 1 ≤ n ∧ n < 1099511627776
instance (n : Int) : Decidable (seqS n) := by unfold seqS; infer_instance
def mayU (u : Us) : Prop := seqS u.s ∧ 0 ≤ u.z ∧ u.z ≤ 1024 ∧ 0 ≤ u.v ∧ u.v ≤ u.z
instance (u : Us) : Decidable (mayU u) := by unfold mayU; infer_instance
def UsOK (l : List Us) (n : Nat) : Prop := ∀ k x, k < n → l[k]? = some x → mayU x ∧ ∀ y, 0 < k → l[k - 1]? = some y → y.s < x.s
theorem UsOK.step {l : List Us} {k : Nat} {x : Us} (h : UsOK l k) (hx : l[k]? = some x) (hm : mayU x) (hy : ∀ y, 0 < k → l[k - 1]? = some y → y.s < x.s) : UsOK l (k + 1) := by
  intro j z hj hz
  rcases Nat.lt_or_ge j k with h1 | h1
  · exact h j z h1 hz
  · obtain rfl : j = k := by omega
    rw [hx] at hz; cases hz
    exact ⟨hm, hy⟩
theorem UsOK.nil (l : List Us) : UsOK l 0 := fun k x hk => by omega
/-- What is wrong with uses. -/
def IsChk (l : List Us) (e : Int) : Prop :=
  (e = 0 ∧ UsOK l l.length) ∨ ∃ i x, l[i]? = some x ∧ UsOK l i ∧ ((e = 1 ∧ (¬ mayU x ∨ ∃ y, 0 < i ∧ l[i - 1]? = some y ∧ x.s < y.s)) ∨ (e = 16 ∧ mayU x ∧ ∃ y, 0 < i ∧ l[i - 1]? = some y ∧ x.s = y.s))
theorem IsChk.not_ok {l : List Us} {i : Nat} {x : Us} {e : Int} (hx : l[i]? = some x) (h : (e = 1 ∧ (¬ mayU x ∨ ∃ y, 0 < i ∧ l[i - 1]? = some y ∧ x.s < y.s)) ∨ (e = 16 ∧ mayU x ∧ ∃ y, 0 < i ∧ l[i - 1]? = some y ∧ x.s = y.s)) {n : Nat} (hn : i < n) : ¬ UsOK l n := fun hok => by
  have hk := hok i x hn hx
  rcases h with ⟨_, h | ⟨y, h0, hy, hlt⟩⟩ | ⟨_, _, y, h0, hy, he⟩
  · exact h hk.1
  · have := hk.2 y h0 hy; omega
  · have := hk.2 y h0 hy; omega
theorem IsChk.unique {l : List Us} {e f : Int} (h : IsChk l e) (k : IsChk l f) : e = f := by
  rcases h with ⟨rfl, h⟩ | ⟨i, x, hx, hi, hc⟩ <;> rcases k with ⟨rfl, k⟩ | ⟨j, y, hy, hj, hd⟩
  · rfl
  · exact absurd h (IsChk.not_ok hy hd (lt_of_get' hy))
  · exact absurd k (IsChk.not_ok hx hc (lt_of_get' hx))
  · rcases Nat.lt_trichotomy i j with h1 | h1 | h1
    · exact absurd hj (IsChk.not_ok hx hc h1)
    · subst h1
      rw [hx] at hy
      cases hy
      rcases hc with ⟨rfl, hc⟩ | ⟨rfl, hm, y1, h0, hy1, he⟩ <;> rcases hd with ⟨rfl, hd⟩ | ⟨rfl, hm', y2, h0', hy2, he'⟩
      · rfl
      · rcases hc with hc | ⟨y1, _, hy1, hlt⟩
        · exact absurd hm' hc
        · rw [hy2] at hy1; cases hy1; omega
      · rcases hd with hd | ⟨y2, _, hy2, hlt⟩
        · exact absurd hm hd
        · rw [hy2] at hy1; cases hy1; omega
      · rfl
    · exact absurd hi (IsChk.not_ok hy hd h1)
theorem IsChk.ok {l : List Us} (h : IsChk l 0) : UsOK l l.length := by
  rcases h with ⟨_, h⟩ | ⟨i, x, _, _, ⟨h, _⟩ | ⟨h, _⟩⟩
  · exact h
  · cases h
  · cases h
theorem UsOK.at_ {l : List Us} (h : UsOK l l.length) {k : Nat} {x : Us} (hx : l[k]? = some x) : mayU x := (h k x (lt_of_get' hx) hx).1
theorem UsOK.mem {l : List Us} (h : UsOK l l.length) {x : Us} (hx : x ∈ l) : mayU x := by
  obtain ⟨k, hk⟩ := List.mem_iff_getElem?.1 hx
  exact h.at_ hk
theorem UsOK.lt {l : List Us} (h : UsOK l l.length) : ∀ (k j : Nat) (x y : Us), j < k → l[j]? = some x → l[k]? = some y → x.s < y.s
  | 0, j, x, y, hj, _, _ => by omega
  | k + 1, j, x, y, hj, hx, hy => by
    have hk := lt_of_get' hy
    obtain ⟨z, hz⟩ := get_lt' (l := l) (k := k) (by omega)
    have h1 := (h (k + 1) y hk hy).2 z (by omega) (by simpa using hz)
    rcases Nat.lt_or_ge j k with h2 | h2
    · have := UsOK.lt h k j x z h2 hx hz; omega
    · obtain rfl : j = k := by omega
      rw [hx] at hz; cases hz; exact h1
/-- Uses with one number are one. -/
theorem UsOK.inj {l : List Us} (h : UsOK l l.length) {x y : Us} (hx : x ∈ l) (hy : y ∈ l) (he : x.s = y.s) : x = y := by
  obtain ⟨j, hj⟩ := List.mem_iff_getElem?.1 hx
  obtain ⟨k, hk⟩ := List.mem_iff_getElem?.1 hy
  rcases Nat.lt_trichotomy j k with h1 | h1 | h1
  · have := h.lt k j x y h1 hj hk; omega
  · subst h1; rw [hj] at hk; cases hk; rfl
  · have := h.lt j k y x h1 hk hj; omega

/-! ### ahead -/
def pA (u v : Us) : Int := u.v * max v.z 1
def ahead (u v : Us) : Prop := pA u v < pA v u ∨ (pA u v = pA v u ∧ u.s < v.s)
instance (u v : Us) : Decidable (ahead u v) := by unfold ahead; infer_instance
theorem ahead_irrefl (u : Us) : ¬ ahead u u := by unfold ahead; omega
theorem ahead_asymm {u v : Us} (h : ahead u v) : ¬ ahead v u := by unfold ahead at *; omega
theorem ahead_total {u v : Us} (h : u.s ≠ v.s) : ahead u v ∨ ahead v u := by unfold ahead; omega
theorem mul_cancel {a b c : Int} (hc : 0 < c) (h : a * c ≤ b * c) : a ≤ b := Int.le_of_mul_le_mul_right h hc
theorem mx_pos (u : Us) : 0 < max u.z 1 := by omega
theorem pA_trans {u v w : Us} (h1 : pA u v ≤ pA v u) (h2 : pA v w ≤ pA w v) : pA u w ≤ pA w u ∧ (pA u v < pA v u ∨ pA v w < pA w v → pA u w < pA w u) := by
  unfold pA at *
  have pu := mx_pos u
  have pv := mx_pos v
  have pw := mx_pos w
  generalize max u.z 1 = a at *
  generalize max v.z 1 = b at *
  generalize max w.z 1 = c at *
  -- u.v * b ≤ v.v * a, v.v * c ≤ w.v * b
  have e1 : u.v * b * c ≤ v.v * a * c := Int.mul_le_mul_of_nonneg_right h1 (by omega)
  have e2 : v.v * c * a ≤ w.v * b * a := Int.mul_le_mul_of_nonneg_right h2 (by omega)
  have r1 : u.v * b * c = u.v * c * b := by rw [Int.mul_assoc, Int.mul_comm b c, ← Int.mul_assoc]
  have r2 : v.v * a * c = v.v * c * a := by rw [Int.mul_assoc, Int.mul_comm a c, ← Int.mul_assoc]
  have r3 : w.v * b * a = w.v * a * b := by rw [Int.mul_assoc, Int.mul_comm b a, ← Int.mul_assoc]
  have e3 : u.v * c * b ≤ w.v * a * b := by omega
  refine ⟨mul_cancel pv e3, fun hs => ?_⟩
  rcases hs with hs | hs
  · have e1' : u.v * b * c < v.v * a * c := Int.mul_lt_mul_of_pos_right hs pw
    exact Int.lt_of_mul_lt_mul_right (a := b) (by omega) (by omega)
  · have e2' : v.v * c * a < w.v * b * a := Int.mul_lt_mul_of_pos_right hs pu
    exact Int.lt_of_mul_lt_mul_right (a := b) (by omega) (by omega)
theorem ahead_trans {u v w : Us} (h1 : ahead u v) (h2 : ahead v w) : ahead u w := by
  unfold ahead at *
  have k1 : pA u v ≤ pA v u := by omega
  have k2 : pA v w ≤ pA w v := by omega
  obtain ⟨t1, t2⟩ := pA_trans k1 k2
  by_cases q : pA u v < pA v u ∨ pA v w < pA w v
  · exact .inl (t2 q)
  · by_cases q2 : pA u w < pA w u
    · exact .inl q2
    · exact .inr ⟨by omega, by omega⟩

/-! ### which are taken -/
def lowU (pc : Int) (u : Us) : Prop := u.v = 0 ∨ u.v * 100 < u.z * pc
instance (pc : Int) (u : Us) : Decidable (lowU pc u) := by unfold lowU; infer_instance
/-- What comes next, of those that are low and not taken. -/
def Least (l : List Us) (pc : Int) (T : List Us) (b : Us) : Prop := b ∈ l ∧ lowU pc b ∧ b ∉ T ∧ ∀ u ∈ l, lowU pc u → u ∉ T → u ≠ b → ahead b u
theorem Least.unique {l : List Us} {pc : Int} {T : List Us} {b c : Us} (h : Least l pc T b) (k : Least l pc T c) : b = c := by
  by_cases e : b = c
  · exact e
  · exact absurd (k.2.2.2 b h.1 h.2.1 h.2.2.1 e) (ahead_asymm (h.2.2.2 c k.1 k.2.1 k.2.2.1 (Ne.symm e)))
def Picks (l : List Us) (pc : Int) (T : List Us) : Prop := ∀ i b, T[i]? = some b → Least l pc (T.take i) b
theorem Picks.nil (l : List Us) (pc : Int) : Picks l pc [] := fun i b h => by cases h
theorem Picks.snoc {l : List Us} {pc : Int} {T : List Us} {b : Us} (h : Picks l pc T) (hb : Least l pc T b) : Picks l pc (T ++ [b]) := by
  intro i c hc
  have hi := lt_of_get' hc
  simp at hi
  rcases Nat.lt_or_ge i T.length with h1 | h1
  · rw [List.getElem?_append_left h1] at hc
    rw [List.take_append_of_le_length (by omega)]
    exact h i c hc
  · obtain rfl : i = T.length := by omega
    simp at hc
    subst hc
    simpa using hb
theorem Picks.prefix {l : List Us} {pc : Int} {T U : List Us} (h : Picks l pc T) (k : Picks l pc U) : ∀ i, i ≤ T.length → i ≤ U.length → T.take i = U.take i
  | 0, _, _ => by simp
  | i + 1, h1, h2 => by
    have ih := Picks.prefix h k i (by omega) (by omega)
    obtain ⟨b, hb⟩ := get_lt' (l := T) (k := i) (by omega)
    obtain ⟨c, hc⟩ := get_lt' (l := U) (k := i) (by omega)
    have lb := h i b hb
    have lc := k i c hc
    rw [ih] at lb
    have e := lb.unique lc
    subst e
    rw [List.take_add_one, List.take_add_one, ih, hb, hc]
def sumV : List Us → Int
  | [] => 0
  | u :: l => u.v + sumV l
theorem sumV_append (a b : List Us) : sumV (a ++ b) = sumV a + sumV b := by
  induction a with
  | nil => simp [sumV]
  | cons x a ih => simp only [List.cons_append, sumV, ih]; omega
theorem sumV_nonneg {l : List Us} (h : ∀ u ∈ l, 0 ≤ u.v) : 0 ≤ sumV l := by
  induction l with
  | nil => simp [sumV]
  | cons x a ih =>
    have h1 := h x (List.mem_cons_self ..)
    have h2 := ih (fun u hu => h u (List.mem_cons_of_mem _ hu))
    simp only [sumV]; omega
/-- Which are taken. -/
structure Vic (l : List Us) (pc most : Int) (T : List Us) : Prop where
  picks : Picks l pc T
  sum : sumV T ≤ most
  stop : (∀ u ∈ l, lowU pc u → u ∈ T) ∨ ∃ b, Least l pc T b ∧ most - sumV T < b.v
theorem Picks.mem {l : List Us} {pc : Int} {T : List Us} (h : Picks l pc T) {u : Us} (hu : u ∈ T) : u ∈ l ∧ lowU pc u := by
  obtain ⟨i, hi⟩ := List.mem_iff_getElem?.1 hu
  exact ⟨(h i u hi).1, (h i u hi).2.1⟩
theorem Vic.short {l : List Us} {pc most : Int} {T U : List Us} (hl : UsOK l l.length) (h : Vic l pc most T) (k : Vic l pc most U) (hle : T.length < U.length) : False := by
  have hp := h.picks.prefix k.picks T.length (Nat.le_refl _) (by omega)
  rw [List.take_length] at hp
  obtain ⟨b, hb⟩ := get_lt' hle
  have lb := k.picks _ b hb
  rw [← hp] at lb
  rcases h.stop with hs | ⟨c, lc, hc⟩
  · exact lb.2.2.1 (hs b lb.1 lb.2.1)
  · have e := lb.unique lc
    subst e
    have e1 : U = T ++ b :: U.drop (T.length + 1) := by
      conv => lhs; rw [← List.take_append_drop T.length U, ← hp]
      rw [List.drop_eq_getElem_cons hle]
      have := (List.getElem?_eq_some_iff.1 hb).2
      rw [this]
    have hs := k.sum
    rw [e1, sumV_append] at hs
    simp only [sumV] at hs
    have hn : 0 ≤ sumV (U.drop (T.length + 1)) := sumV_nonneg (fun u hu => by
      have := hl.mem (k.picks.mem (List.mem_of_mem_drop hu)).1
      unfold mayU at this; omega)
    omega
theorem Vic.unique {l : List Us} {pc most : Int} {T U : List Us} (hl : UsOK l l.length) (h : Vic l pc most T) (k : Vic l pc most U) : T = U := by
  have e : T.length = U.length := by
    rcases Nat.lt_trichotomy T.length U.length with h1 | h1 | h1
    · exact (h.short hl k h1).elim
    · exact h1
    · exact (k.short hl h h1).elim
  have := h.picks.prefix k.picks T.length (Nat.le_refl _) (by omega)
  rw [List.take_length, e, List.take_length] at this
  exact this
/-- Out of a sorted list of those that are low. -/
theorem picks_of_sorted {l S : List Us} {pc : Int} (hl : UsOK l l.length) (hp : ∀ u, u ∈ S ↔ u ∈ l ∧ lowU pc u) (hs : ∀ (i j : Nat) (x y : Us), i < j → S[i]? = some x → S[j]? = some y → ahead x y) (k : Nat) : ∀ b, S[k]? = some b → Least l pc (S.take k) b := by
  intro b hb
  refine ⟨((hp b).1 (List.mem_of_getElem? hb)).1, ((hp b).1 (List.mem_of_getElem? hb)).2, fun hm => ?_, fun u hu hlu hnu hne => ?_⟩
  · obtain ⟨i, hi⟩ := List.mem_iff_getElem?.1 hm
    rw [List.getElem?_take] at hi
    split at hi
    · rename_i hik
      exact ahead_irrefl b (hs i k b b hik hi hb)
    · cases hi
  · obtain ⟨j, hj⟩ := List.mem_iff_getElem?.1 ((hp u).2 ⟨hu, hlu⟩)
    rcases Nat.lt_trichotomy j k with h1 | h1 | h1
    · exact absurd (List.mem_of_getElem? (i := j) (by rw [List.getElem?_take, if_pos h1]; exact hj)) hnu
    · subst h1; rw [hb] at hj; cases hj; exact absurd rfl hne
    · exact hs k j b u h1 hb hj
theorem picks_take {l S : List Us} {pc : Int} (hl : UsOK l l.length) (hp : ∀ u, u ∈ S ↔ u ∈ l ∧ lowU pc u) (hs : ∀ (i j : Nat) (x y : Us), i < j → S[i]? = some x → S[j]? = some y → ahead x y) (k : Nat) : Picks l pc (S.take k) := by
  intro i b hb
  rw [List.getElem?_take] at hb
  split at hb
  · rename_i hik
    have := picks_of_sorted hl hp hs i b hb
    rw [List.take_take, Nat.min_eq_left (by omega)]
    exact this
  · cases hb

theorem UsOK.nodup {l : List Us} (h : UsOK l l.length) : l.Nodup := by
  rw [List.nodup_iff_pairwise_ne, List.pairwise_iff_getElem]
  intro i j hi hj hij
  intro e
  have := h.lt j i l[i] l[j] hij (List.getElem?_eq_getElem hi) (List.getElem?_eq_getElem hj)
  rw [e] at this
  omega
theorem sorted_strict {l S : List Us} {pc : Int} (hl : UsOK l l.length) (hp : S.Perm (l.filter fun u => decide (lowU pc u))) (hs : ∀ (i j : Nat) (x y : Us), i < j → S[i]? = some x → S[j]? = some y → ¬ ahead y x) :
    (∀ u, u ∈ S ↔ u ∈ l ∧ lowU pc u) ∧ ∀ (i j : Nat) (x y : Us), i < j → S[i]? = some x → S[j]? = some y → ahead x y := by
  have hm : ∀ u, u ∈ S ↔ u ∈ l ∧ lowU pc u := fun u => by rw [hp.mem_iff, List.mem_filter]; simp
  refine ⟨hm, fun i j x y hij hx hy => ?_⟩
  have hnd : S.Nodup := hp.nodup_iff.2 (hl.nodup.filter _)
  have hne : x ≠ y := by
    rw [List.nodup_iff_pairwise_ne, List.pairwise_iff_getElem] at hnd
    have hi := lt_of_get' hx
    have hj := lt_of_get' hy
    have := hnd i j hi hj hij
    rw [(List.getElem?_eq_some_iff.1 hx).2, (List.getElem?_eq_some_iff.1 hy).2] at this
    exact this
  have hxl := ((hm x).1 (List.mem_of_getElem? hx)).1
  have hyl := ((hm y).1 (List.mem_of_getElem? hy)).1
  have hse : x.s ≠ y.s := fun e => hne (hl.inj hxl hyl e)
  rcases ahead_total hse with h | h
  · exact h
  · exact absurd h (hs i j x y hij hx hy)
theorem take_snoc' {α : Type} {l : List α} {i : Nat} {x : α} (h : l[i]? = some x) : l.take (i + 1) = l.take i ++ [x] := by
  rw [List.take_add_one, h]; rfl
def IsVic (l : List Us) (pc most e : Int) (T : List Us) : Prop :=
  (IsChk l e ∧ e ≠ 0 ∧ T = []) ∨ (UsOK l l.length ∧ e = 1 ∧ (pc < 0 ∨ 100 < pc ∨ most < 0) ∧ T = []) ∨ (UsOK l l.length ∧ e = 0 ∧ (0 ≤ pc ∧ pc ≤ 100 ∧ 0 ≤ most) ∧ Vic l pc most T)
theorem UsOK.chk {l : List Us} {e : Int} (h : UsOK l l.length) (k : IsChk l e) : e = 0 := IsChk.unique k (.inl ⟨rfl, h⟩)
theorem IsVic.unique {l : List Us} {pc most e f : Int} {T U : List Us} (h : IsVic l pc most e T) (k : IsVic l pc most f U) : e = f ∧ T = U := by
  rcases h with ⟨h1, h2, rfl⟩ | ⟨h1, rfl, h2, rfl⟩ | ⟨h1, rfl, h2, h3⟩ <;> rcases k with ⟨k1, k2, rfl⟩ | ⟨k1, rfl, k2, rfl⟩ | ⟨k1, rfl, k2, k3⟩
  · exact ⟨h1.unique k1, rfl⟩
  · exact absurd (k1.chk h1) h2
  · exact absurd (k1.chk h1) h2
  · exact absurd (h1.chk k1) k2
  · exact ⟨rfl, rfl⟩
  · omega
  · exact absurd (h1.chk k1) k2
  · omega
  · exact ⟨rfl, h3.unique h1 k3⟩

/-! ### the document's way: the one that comes ahead of all that are left -/
def cntF : List Bool → Nat
  | [] => 0
  | b :: l => (if b then 0 else 1) + cntF l
theorem cntF_set : ∀ {l : List Bool} {k : Nat}, l[k]? = some false → cntF (l.set k true) + 1 = cntF l
  | b :: l, 0, h => by
    simp at h
    subst h
    simp [cntF]
    omega
  | b :: l, k + 1, h => by
    have := cntF_set (l := l) (k := k) (by simpa using h)
    simp only [List.set_cons_succ, cntF]
    omega
theorem cntF_made (n : Nat) : cntF (List.replicate n false) = n := by
  induction n with
  | zero => rfl
  | succ n ih => rw [List.replicate_succ]; simp only [cntF, ih]; simp; omega
/-- The best of the first ones. -/
def Best (l : List Us) (pc : Int) (T : List Us) (i : Nat) (r : Int) : Prop :=
  (r = -1 ∧ ∀ j u, j < i → l[j]? = some u → lowU pc u → u ∈ T) ∨ ∃ (k : Nat) (b : Us), r = k ∧ k < i ∧ l[k]? = some b ∧ lowU pc b ∧ b ∉ T ∧ ∀ j u, j < i → l[j]? = some u → lowU pc u → u ∉ T → u ≠ b → ahead b u
theorem Best.least {l : List Us} {pc : Int} {T : List Us} {k : Nat} {b : Us} (hk : l[k]? = some b) (h1 : lowU pc b) (h2 : b ∉ T) (h3 : ∀ j u, j < l.length → l[j]? = some u → lowU pc u → u ∉ T → u ≠ b → ahead b u) : Least l pc T b :=
  ⟨List.mem_of_getElem? hk, h1, h2, fun u hu hl hn hne => by
    obtain ⟨j, hj⟩ := List.mem_iff_getElem?.1 hu
    exact h3 j u (lt_of_get' hj) hj hl hn hne⟩
structure PickI (l : List Us) (pc most : Int) (T : List Us) (tk : List Bool) : Prop where
  picks : Picks l pc T
  sum : sumV T ≤ most
  len : tk.length = l.length
  mem : ∀ (i : Nat) (u : Us), l[i]? = some u → (tk[i]? = some true ↔ u ∈ T)
  cnt : T.length + cntF tk = l.length
theorem PickI.start {l : List Us} {pc most : Int} (h : 0 ≤ most) : PickI l pc most [] (List.replicate l.length false) :=
  ⟨Picks.nil l pc, h, List.length_replicate, (fun i u hu => by
    rw [List.getElem?_replicate]
    constructor
    · intro h; split at h <;> cases h
    · exact fun h => absurd h (by simp)), (by rw [cntF_made]; simp)⟩
theorem PickI.take {l : List Us} {pc most : Int} {T : List Us} {tk : List Bool} {k : Nat} {b : Us} (h : PickI l pc most T tk) (hl : UsOK l l.length) (hk : l[k]? = some b) (hb : Least l pc T b) (hs : b.v ≤ most - sumV T) : PickI l pc most (T ++ [b]) (tk.set k true) := by
  have hkl := lt_of_get' hk
  have htk : tk[k]? = some false := by
    obtain ⟨v, hv⟩ := get_lt' (l := tk) (k := k) (by rw [h.len]; exact hkl)
    cases v with
    | false => exact hv
    | true => exact absurd ((h.mem k b hk).1 hv) hb.2.2.1
  refine ⟨h.picks.snoc hb, by rw [sumV_append]; simp only [sumV]; omega, by rw [List.length_set]; exact h.len, fun i u hu => ?_, ?_⟩
  · by_cases e : i = k
    · subst e
      rw [hk] at hu; cases hu
      rw [List.getElem?_set_self (by rw [h.len]; exact hkl)]
      simp
    · rw [List.getElem?_set_ne (Ne.symm e), h.mem i u hu]
      have hne : u ≠ b := fun e2 => by
        subst e2
        rcases Nat.lt_or_gt_of_ne e with h1 | h1
        · have := hl.lt k i u u h1 hu hk; omega
        · have := hl.lt i k u u h1 hk hu; omega
      simp [hne]
  · have := cntF_set htk
    have := h.cnt
    simp only [List.length_append, List.length_cons, List.length_nil]
    omega
end Go.Lx
