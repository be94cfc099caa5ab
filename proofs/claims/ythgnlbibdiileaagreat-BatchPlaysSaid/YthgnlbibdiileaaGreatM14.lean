/- Texts Ba Bl Xv, merged: a claim has at most 60 files. -/
import Derived.Test.YthgnlbibdiileaaGreatM7
import Derived.Test.YthgnlbibdiileaaGreatM8
import Derived.Test.YthgnlbibdiileaaGreatM13
import Derived.Test.YthgnlbibdiileaaGreatM3
import Derived.Shelf.SlMaps.Clone
import Derived.Lib.Builder
import Derived.Lib.UnsafeStr
/- Plain laws of batches: which spans sectors are, what a record says of them, what a call answers. -/
namespace Go.Lx
set_option linter.unusedVariables false
set_option linter.unusedSimpArgs false

abbrev Md := Int → Option Bs
/-- The sectors with bytes (false), or those that are cut (true), as a set. -/
structure SetsM (M : Md) (c : Bool) (o : List Sp) : Prop where
  set : SetOK o o.length
  mem : ∀ t, inS o t ↔ ∃ b, M t = some b ∧ decide (b = []) = c
theorem SetsM.unique {M : Md} {c : Bool} {o p : List Sp} (h : SetsM M c o) (k : SetsM M c p) : o = p :=
  set_unique o p h.set k.set fun t => (h.mem t).trans (k.mem t).symm

/-- Spans out of keys that rise, so far. -/
structure KsI (ss : List Int) (p : Int → Bool) (i : Nat) (o : List Sp) : Prop where
  hi : i ≤ ss.length
  len : o.length ≤ i
  set : SetOK o o.length
  mem : ∀ t, inS o t ↔ ∃ k, k < i ∧ ss[k]? = some t ∧ p t = true
  le : ∀ y ∈ o, ∀ k t, i ≤ k → ss[k]? = some t → y.1 + y.2 ≤ t
section
variable {ss : List Int} {p : Int → Bool} {i : Nat} {o : List Sp} {t : Int}
theorem KsI.start : KsI ss p 0 [] := ⟨Nat.zero_le _, Nat.le_refl _, SetOK.nil _, fun t => ⟨fun h => absurd h (inS_nil t), fun ⟨k, hk, _⟩ => absurd hk (Nat.not_lt_zero k)⟩, fun _ h => (by cases h)⟩
theorem ks_mem (hx : ss[i]? = some t) (u : Int) : (∃ k, k < i + 1 ∧ ss[k]? = some u ∧ p u = true) ↔ (∃ k, k < i ∧ ss[k]? = some u ∧ p u = true) ∨ (u = t ∧ p t = true) := by
  constructor
  · rintro ⟨k, hk, h1, h2⟩
    by_cases e : k = i
    · subst e; rw [hx] at h1; cases h1; exact .inr ⟨rfl, h2⟩
    · exact .inl ⟨k, by omega, h1, h2⟩
  · rintro (⟨k, hk, h1, h2⟩ | ⟨rfl, h2⟩)
    · exact ⟨k, by omega, h1, h2⟩
    · exact ⟨i, by omega, hx, h2⟩
theorem KsI.skip (h : KsI ss p i o) (hx : ss[i]? = some t) (hp : p t = false) : KsI ss p (i + 1) o := by
  refine ⟨lt_of_get hx, by have := h.len; omega, h.set, fun u => ?_, fun y hy k u hk hu => h.le y hy k u (by omega) hu⟩
  rw [h.mem u, ks_mem hx u]
  exact ⟨.inl, fun hh => hh.resolve_right fun hh => by rw [hp] at hh; exact Bool.false_ne_true hh.2⟩
theorem KsI.push (h : KsI ss p i o) (hs : ∀ (i j : Nat) (x y : Int), i < j → ss[i]? = some x → ss[j]? = some y → x < y) (hx : ss[i]? = some t) (hp : p t = true) (hb : 0 ≤ t ∧ t < 65536) (he : ∀ y, o[o.length - 1]? = some y → y.1 + y.2 ≠ t) : KsI ss p (i + 1) (o ++ [(t, 1)]) := by
  have hlt : ∀ x ∈ o, x.1 + x.2 < t := by
    rcases Nat.eq_zero_or_pos o.length with h0 | h0
    · have : o = [] := List.length_eq_zero_iff.1 h0
      subst this
      intro x hx; cases hx
    · obtain ⟨y, hy⟩ := get_lt (l := o) (k := o.length - 1) (by omega)
      have h1 := h.le y (List.mem_of_getElem? hy) i t (Nat.le_refl _) hx
      have h2 := he y hy
      exact h.set.lastEnds hy (by omega)
  refine ⟨lt_of_get hx, by have := h.len; simp; omega, h.set.snoc hlt (by unfold mayS; dsimp only; omega), fun u => ?_, fun y hy k u hk hu => ?_⟩
  · rw [inS_append, h.mem u, inS_one, ks_mem hx u]
    dsimp only
    exact or_congr Iff.rfl ⟨fun hh => ⟨by omega, hp⟩, fun hh => by omega⟩
  · rcases List.mem_append.1 hy with hy | hy
    · exact h.le y hy k u (by omega) hu
    · simp at hy; subst hy; have := hs i k t u (by omega) hx hu; dsimp only; omega
theorem KsI.grow {y : Sp} (h : KsI ss p i o) (hs : ∀ (i j : Nat) (x y : Int), i < j → ss[i]? = some x → ss[j]? = some y → x < y) (hx : ss[i]? = some t) (hp : p t = true) (hb : 0 ≤ t ∧ t < 65536) (hy : o[o.length - 1]? = some y) (he : y.1 + y.2 = t) : KsI ss p (i + 1) (o.set (o.length - 1) (y.1, y.2 + 1)) := by
  have hl := lt_of_get hy
  obtain ⟨o', z, rfl⟩ := snoc_of o (by omega)
  have e1 : (o' ++ [z]).length - 1 = o'.length := by simp
  rw [e1] at hy ⊢
  simp at hy
  subst hy
  have e2 : (o' ++ [z]).set o'.length (z.1, z.2 + 1) = o' ++ [(z.1, z.2 + 1)] := by simp
  rw [e2]
  have hzm := h.set.may (k := o'.length) (by simp) (x := z) (by simp)
  have hset : SetOK o' o'.length := by
    intro k x hk hx
    obtain ⟨h1, h2⟩ := h.set k x (by simp; omega) (by rw [List.getElem?_append_left hk]; exact hx)
    exact ⟨h1, fun y h0 hy => h2 y h0 (by rw [List.getElem?_append_left (by omega)]; exact hy)⟩
  unfold mayS at hzm
  refine ⟨lt_of_get hx, ?_, hset.snoc ?_ ?_, fun u => ?_, fun y hy k u hk hu => ?_⟩
  · have := h.len
    simp at this ⊢
    omega
  · intro x hx
    obtain ⟨j, hj⟩ := List.mem_iff_getElem?.1 hx
    have hjl := lt_of_get hj
    exact h.set.lt o'.length j x z hjl (by simp) (by rw [List.getElem?_append_left hjl]; exact hj) (by simp)
  · unfold mayS
    dsimp only
    omega
  · have hm := h.mem u
    rw [inS_append, inS_one] at hm
    rw [inS_append, inS_one, ks_mem hx u, ← hm]
    dsimp only
    constructor
    · rintro (h1 | h1)
      · exact .inl (.inl h1)
      · by_cases q : u = t
        · exact .inr ⟨q, hp⟩
        · exact .inl (.inr (by omega))
    · rintro ((h1 | h1) | ⟨h1, _⟩)
      · exact .inl h1
      · exact .inr (by omega)
      · exact .inr (by omega)
  · have hlt := hs i k t u (by omega) hx hu
    rcases List.mem_append.1 hy with hy | hy
    · have := h.le y (by simp [hy]) i t (Nat.le_refl _) hx; omega
    · simp at hy; subst hy; dsimp only; omega
end

/-! ### what a record says -/
structure RcB where
  ep : Int
  nu : Int
  kd : Int
  sp : List Sp
  d : Bs
  tx : Bs
def secL (s : Sp) : List Int := (List.range s.2.toNat).map fun (k : Nat) => s.1 + (k : Int)
def secsL (l : List Sp) : List Int := l.flatMap secL
theorem secL_len (s : Sp) : (secL s).length = s.2.toNat := by simp [secL]
theorem secL_snoc {s : Sp} {k : Nat} (h : k < s.2.toNat) : (secL s).take (k + 1) = (secL s).take k ++ [s.1 + (k : Int)] := take_snocE (by simp [secL, h])
theorem secL_mem {s : Sp} {t : Int} : t ∈ secL s ↔ s.1 ≤ t ∧ t < s.1 + s.2 := by
  simp only [secL, List.mem_map, List.mem_range]
  constructor
  · rintro ⟨k, hk, rfl⟩; omega
  · rintro ⟨h1, h2⟩; exact ⟨(t - s.1).toNat, by omega, by omega⟩
theorem secsL_mem {l : List Sp} {t : Int} : t ∈ secsL l ↔ inS l t := by
  simp only [secsL, List.mem_flatMap, inS]
  exact ⟨fun ⟨x, h1, h2⟩ => ⟨x, h1, secL_mem.1 h2⟩, fun ⟨x, h1, h2⟩ => ⟨x, h1, secL_mem.2 h2⟩⟩
theorem secsL_take {l : List Sp} {i : Nat} {s : Sp} (h : l[i]? = some s) : secsL (l.take (i + 1)) = secsL (l.take i) ++ secL s := by
  unfold secsL
  rw [take_snocE h, List.flatMap_append]
  simp
theorem secsL_lt {l : List Sp} {i k : Nat} {s : Sp} (h : l[i]? = some s) (hk : k < s.2.toNat) : (secsL (l.take i)).length + k < (secsL l).length := by
  have h1 : (secsL (l.take (i + 1))).length ≤ (secsL l).length := by
    conv => rhs; rw [← List.take_append_drop (i + 1) l]
    unfold secsL
    rw [List.flatMap_append, List.length_append]
    omega
  rw [secsL_take h, List.length_append, secL_len] at h1
  omega
theorem secsL_sum : ∀ (l : List Sp), (∀ x ∈ l, mayS x) → ((secsL l).length : Int) = sumS l
  | [], _ => rfl
  | x :: l, h => by
    have ih := secsL_sum l fun y hy => h y (List.mem_cons_of_mem _ hy)
    have hm := h x List.mem_cons_self
    unfold mayS at hm
    have e : secsL (x :: l) = secL x ++ secsL l := by unfold secsL; rw [List.flatMap_cons]
    rw [e, List.length_append, secL_len]
    show _ = x.2 + sumS l
    omega
def putB (kd : Int) (d : Bs) (n : Nat) : Bs := if kd = 1 then (d.drop (64 * n)).take 64 else []
def upd (M : Md) (k : Int) (v : Bs) : Md := fun j => if j = k then some v else M j
def wrF (kd : Int) (d : Bs) : Md → Nat → List Int → Md
  | M, _, [] => M
  | M, n, a :: l => wrF kd d (upd M a (putB kd d n)) (n + 1) l
theorem wrF_snoc (kd : Int) (d : Bs) (a : Int) : ∀ (l : List Int) (M : Md) (n : Nat), wrF kd d M n (l ++ [a]) = upd (wrF kd d M n l) a (putB kd d (n + l.length))
  | [], M, n => rfl
  | b :: l, M, n => by
    have := wrF_snoc kd d a l (upd M b (putB kd d n)) (n + 1)
    simp only [List.cons_append, wrF, List.length_cons]
    rw [this, show n + 1 + l.length = n + (l.length + 1) by omega]
theorem upd_upd (M : Md) (k : Int) (v v' : Bs) : upd (upd M k v) k v' = upd M k v' := by
  funext j; unfold upd; by_cases h : j = k <;> simp [h]
theorem getM_upd (l : List (Int × Bs)) (k : Int) (v : Bs) : getM (setM l k v) = upd (getM l) k v := funext fun j => getM_set k v l j
/-- Of which sectors something may be said, and what. -/
def OkM (M : Md) : Prop := ∀ t b, M t = some b → (0 ≤ t ∧ t < 300) ∧ (b = [] ∨ b.length = 64)
theorem OkM.upd {M : Md} {a : Int} {v : Bs} (h : OkM M) (ha : 0 ≤ a ∧ a < 300) (hv : v = [] ∨ v.length = 64) : OkM (upd M a v) := fun t b hb => by
  unfold Lx.upd at hb
  by_cases e : t = a
  · rw [if_pos e] at hb; cases hb; exact ⟨by omega, hv⟩
  · rw [if_neg e] at hb; exact h t b hb
theorem putB_ok {kd : Int} {d : Bs} {n : Nat} (h : kd = 1 → 64 * (n + 1) ≤ d.length) : putB kd d n = [] ∨ (putB kd d n).length = 64 := by
  unfold putB
  by_cases hk : kd = 1
  · rw [if_pos hk]; have := h hk; right; rw [List.length_take, List.length_drop]; omega
  · rw [if_neg hk]; exact .inl rfl
theorem OkM.wr {kd : Int} {d : Bs} : ∀ {l : List Int} {M : Md} {n : Nat}, OkM M → (∀ a ∈ l, 0 ≤ a ∧ a < 300) → (kd = 1 → 64 * (n + l.length) ≤ d.length) → OkM (wrF kd d M n l)
  | [], _, _, h, _, _ => h
  | a :: l, M, n, h, ha, hd => OkM.wr (l := l) (h.upd (ha a List.mem_cons_self) (putB_ok fun hk => by have := hd hk; simp only [List.length_cons] at this; omega)) (fun b hb => ha b (List.mem_cons_of_mem _ hb)) (fun hk => by have := hd hk; simp only [List.length_cons] at this; omega)

def SpP (r : RcB) : Prop := 1 ≤ r.sp.length ∧ r.sp.length ≤ 64 ∧ r.tx = [] ∧ ∀ x ∈ r.sp, mayS x
def RngP (r : RcB) : Prop := r.ep < 0 ∨ 4294967296 ≤ r.ep ∨ r.nu < 0 ∨ 1099511627776 ≤ r.nu
/-- What is wrong with a record. -/
noncomputable def chkR (r : RcB) : Int := open Classical in
  if RngP r then 31
  else if r.kd < 1 ∨ 3 < r.kd then 14
  else if r.kd = 3 then (if r.sp ≠ [] ∨ r.d ≠ [] ∨ 512 < r.tx.length then 1 else 0)
  else if ¬ SpP r ∨ (r.kd = 2 ∧ r.d ≠ []) ∨ (r.kd = 1 ∧ 512 < sumS r.sp) then 1
  else if r.kd = 1 ∧ (r.d.length : Int) ≠ 64 * sumS r.sp then 30 else 0
theorem chkR_ok {r : RcB} (h : chkR r = 0) : (0 ≤ r.nu ∧ r.nu < 1099511627776) ∧ (∀ x ∈ r.sp, mayS x) ∧ (r.kd = 1 → (r.d.length : Int) = 64 * sumS r.sp) := by
  unfold chkR at h
  split at h
  · cases h
  rename_i h1
  split at h
  · cases h
  rename_i h2
  refine ⟨by unfold RngP at h1; omega, ?_⟩
  split at h
  · rename_i h3
    split at h
    · cases h
    · rename_i h4
      have h5 : r.sp = [] := Classical.byContradiction fun hh => h4 (.inl hh)
      refine ⟨(by rw [h5]; intro x hx; cases hx), fun hk => by omega⟩
  · split at h
    · cases h
    rename_i h4
    have h6 : SpP r := Classical.byContradiction fun hh => h4 (.inl hh)
    split at h
    · cases h
    rename_i h5
    exact ⟨h6.2.2.2, fun hk => Classical.byContradiction fun hh => h5 ⟨hk, hh⟩⟩

theorem sumS_bd {l : List Sp} (hm : ∀ x ∈ l, mayS x) : ∀ i : Nat, 0 ≤ sumS (l.take i) ∧ sumS (l.take i) ≤ 65536 * (i : Int)
  | 0 => by simp [sumS]
  | i + 1 => by
    have ih := sumS_bd hm i
    cases h : l[i]? with
    | none =>
      have h1 : l.length ≤ i := by simpa using h
      rw [List.take_of_length_le (by omega), ← List.take_of_length_le (i := i) h1]
      omega
    | some x =>
      have hx := hm x (List.mem_of_getElem? h)
      unfold mayS at hx
      rw [sumS_take h]
      omega
structure Bst where
  M : Md
  up : Int
  n : Int
def b0 : Bst := ⟨fun _ => none, 0, 0⟩
def stM (S : Bst) (r : RcB) : Md := wrF r.kd r.d S.M 0 (secsL r.sp)
def FullP (most : Int) (p c : List Sp) : Prop := most < sumS p ∨ 240 < p.length ∨ 240 < c.length
/-- What Add answers. -/
def AddR (most : Int) (S : Bst) (r : RcB) (e : Int) (S' : Bst) : Prop :=
  (chkR r ≠ 0 ∧ e = chkR r ∧ S' = S) ∨ (chkR r = 0 ∧ ((r.nu ≤ S.up ∧ e = 1 ∧ S' = S) ∨ (S.up < r.nu ∧ ∃ p c, SetsM (stM S r) false p ∧ SetsM (stM S r) true c ∧
    ((FullP most p c ∧ e = 32 ∧ S' = S) ∨ (¬ FullP most p c ∧ e = 0 ∧ S' = ⟨stM S r, r.nu, S.n + 1⟩)))))
theorem AddR.unique {most : Int} {S S1 S2 : Bst} {r : RcB} {e1 e2 : Int} (h : AddR most S r e1 S1) (k : AddR most S r e2 S2) : e1 = e2 ∧ S1 = S2 := by
  rcases h with ⟨h1, rfl, rfl⟩ | ⟨h1, h⟩ <;> rcases k with ⟨k1, rfl, rfl⟩ | ⟨k1, k⟩
  · exact ⟨rfl, rfl⟩
  · exact absurd k1 h1
  · exact absurd h1 k1
  · rcases h with ⟨h2, rfl, rfl⟩ | ⟨h2, p, c, hp, hc, h⟩ <;> rcases k with ⟨k2, rfl, rfl⟩ | ⟨k2, p', c', hp', hc', k⟩
    · exact ⟨rfl, rfl⟩
    · omega
    · omega
    · cases hp.unique hp'
      cases hc.unique hc'
      rcases h with ⟨h3, rfl, rfl⟩ | ⟨h3, rfl, rfl⟩ <;> rcases k with ⟨k3, rfl, rfl⟩ | ⟨k3, rfl, rfl⟩
      · exact ⟨rfl, rfl⟩
      · exact absurd h3 k3
      · exact absurd k3 h3
      · exact ⟨rfl, rfl⟩
/-- What states there are. -/
structure Gd (S : Bst) : Prop where
  M : OkM S.M
  up : 0 ≤ S.up ∧ S.up < 1099511627776
  n : 0 ≤ S.n
/-- No span of the record that may be ends behind the sector 300. -/
def FewR (r : RcB) : Prop := ∀ x ∈ r.sp, mayS x → x.1 + x.2 ≤ 300
theorem stM_ok {S : Bst} {r : RcB} (h : Gd S) (hf : FewR r) (hc : chkR r = 0) : OkM (stM S r) := by
  obtain ⟨h1, h2, h3⟩ := chkR_ok hc
  refine h.M.wr (fun a ha => ?_) (fun hk => ?_)
  · obtain ⟨x, hx, hx1, hx2⟩ := secsL_mem.1 ha
    have := hf x hx (h2 x hx)
    have hm := h2 x hx
    unfold mayS at hm
    omega
  · have := h3 hk
    have := secsL_sum r.sp h2
    omega
theorem AddR.gd {most : Int} {S S' : Bst} {r : RcB} {e : Int} (h : AddR most S r e S') (hg : Gd S) (hf : FewR r) : Gd S' ∧ S'.n ≤ S.n + 1 := by
  rcases h with ⟨_, _, rfl⟩ | ⟨h1, ⟨_, _, rfl⟩ | ⟨h2, p, c, hp, hc, ⟨_, _, rfl⟩ | ⟨_, _, rfl⟩⟩⟩
  · exact ⟨hg, by omega⟩
  · exact ⟨hg, by omega⟩
  · exact ⟨hg, by omega⟩
  · exact ⟨⟨stM_ok hg hf h1, (chkR_ok h1).1, by have := hg.n; dsimp only; omega⟩, by dsimp only; omega⟩

theorem nd_len : ∀ (N : Nat) (l : List Int), l.Nodup → (∀ x ∈ l, 0 ≤ x ∧ x < (N : Int)) → l.length ≤ N
  | 0, l, _, h => by
    cases l with
    | nil => exact Nat.le_refl _
    | cons x l => have := h x List.mem_cons_self; omega
  | N + 1, l, hn, h => by
    by_cases hm : (N : Int) ∈ l
    · have h1 := nd_len N (l.erase (N : Int)) (hn.erase _) fun x hx => by
        have hx2 := (List.Nodup.mem_erase_iff hn).1 hx
        have := h x hx2.2
        have := hx2.1
        omega
      have := List.length_erase_of_mem hm
      have h0 : 0 < l.length := List.length_pos_of_mem hm
      omega
    · have := nd_len N l hn fun x hx => by
        have := h x hx
        have : x ≠ (N : Int) := fun e => hm (e ▸ hx)
        omega
      omega
def sV (s : Bs) : Value := .string ⟨s.toArray⟩
theorem key_in {L : List (Int × Bs)} (hM : OkM (getM L)) {k : Int} (hk : k ∈ keyM L) : 0 ≤ k ∧ k < 300 := by
  cases h : getM L k with
  | none => exact absurd hk ((getM_none L k).1 h)
  | some b => exact (hM k b h).1
theorem keyM_len {L : List (Int × Bs)} (hN : (keyM L).Nodup) (hM : OkM (getM L)) : L.length ≤ 300 := by
  have := nd_len 300 (keyM L) hN fun x hx => by have := key_in hM hx; omega
  simpa [keyM] using this
theorem key_some {L : List (Int × Bs)} (k : Int) : k ∈ keyM L ↔ ∃ b, getM L k = some b := by
  have := getM_none L k
  cases h : getM L k with
  | none => simp [this.1 h]
  | some b => simp; exact Classical.byContradiction fun hh => by rw [this.2 hh] at h; cases h
/-- Keys in order, each of them once. -/
theorem rise_of {ss ks : List Int} (hp : ss.Perm ks) (hn : ks.Nodup) (hw : ss.Pairwise (· ≤ ·)) : ∀ (i j : Nat) (x y : Int), i < j → ss[i]? = some x → ss[j]? = some y → x < y := by
  intro i j x y hij hx hy
  have hn2 : ss.Nodup := hp.nodup_iff.2 hn
  obtain ⟨h1, e1⟩ := List.getElem?_eq_some_iff.1 hx
  obtain ⟨h2, e2⟩ := List.getElem?_eq_some_iff.1 hy
  have h3 := List.pairwise_iff_getElem.1 hw i j h1 h2 hij
  have h4 := List.pairwise_iff_getElem.1 hn2 i j h1 h2 hij
  rw [e1, e2] at h3 h4
  omega
theorem KsI.done {ss : List Int} {L : List (Int × Bs)} {c : Bool} {o : List Sp} (hp : ss.Perm (keyM L)) (h : KsI ss (fun t => decide ((getM L t).getD [] = []) == c) ss.length o) : SetsM (getM L) c o := by
  refine ⟨h.set, fun t => (h.mem t).trans ?_⟩
  constructor
  · rintro ⟨k, hk, h1, h2⟩
    obtain ⟨b, hb⟩ := (key_some t).1 (hp.mem_iff.1 (List.mem_of_getElem? h1))
    refine ⟨b, hb, ?_⟩
    simpa [hb] using h2
  · rintro ⟨b, hb, h2⟩
    obtain ⟨k, hk⟩ := List.mem_iff_getElem?.1 (hp.mem_iff.2 ((key_some t).2 ⟨b, hb⟩))
    exact ⟨k, lt_of_get hk, hk, by simpa [hb] using h2⟩

/-! ### the object -/
def dataOf (M : Md) (p : List Sp) : Bs := (secsL p).flatMap fun t => (M t).getD []
def ptsOf (p : List Sp) : List Ext := p.map fun x => ⟨x.1, x.2, 0, 0⟩
def objOf (S : Bst) (k : Nat) (ep sq : Int) (p c : List Sp) : Dob := ⟨k, ep, sq, S.up, ptsOf p, c, dataOf S.M p⟩
def SealR (S : Bst) (k : Nat) (ep sq : Int) (o : Dob) (e : Int) : Prop :=
  (S.n = 0 ∧ o = zD ∧ e = 15) ∨ (S.n ≠ 0 ∧ ∃ p c, SetsM S.M false p ∧ SetsM S.M true c ∧ ((chkD (objOf S k ep sq p c) ≠ 0 ∧ o = zD ∧ e = chkD (objOf S k ep sq p c)) ∨ (chkD (objOf S k ep sq p c) = 0 ∧ o = objOf S k ep sq p c ∧ e = 0)))
theorem SealR.unique {S : Bst} {k : Nat} {ep sq : Int} {o o' : Dob} {e e' : Int} (h : SealR S k ep sq o e) (g : SealR S k ep sq o' e') : o = o' ∧ e = e' := by
  rcases h with ⟨h1, rfl, rfl⟩ | ⟨h1, p, c, hp, hc, h⟩ <;> rcases g with ⟨g1, rfl, rfl⟩ | ⟨g1, p', c', hp', hc', g⟩
  · exact ⟨rfl, rfl⟩
  · exact absurd h1 g1
  · exact absurd g1 h1
  · cases hp.unique hp'
    cases hc.unique hc'
    rcases h with ⟨h3, rfl, rfl⟩ | ⟨h3, rfl, rfl⟩ <;> rcases g with ⟨k3, rfl, rfl⟩ | ⟨k3, rfl, rfl⟩
    · exact ⟨rfl, rfl⟩
    · exact absurd k3 h3
    · exact absurd h3 k3
    · exact ⟨rfl, rfl⟩
theorem set_sum {o : List Sp} (h : SetOK o o.length) (hb : ∀ t, inS o t → t < 300) : 0 ≤ sumS o ∧ sumS o ≤ 300 := by
  suffices ∀ (o : List Sp) (lo : Int), 0 ≤ lo → SetOK o o.length → (∀ t, inS o t → lo ≤ t ∧ t < 300) → 0 ≤ sumS o ∧ (o ≠ [] → lo + sumS o ≤ 300) by
    have h2 := this o 0 (Int.le_refl _) h fun t ht => ⟨by obtain ⟨x, hx, h1, h2⟩ := ht; have := h.mem rfl hx; unfold mayS at this; omega, hb t ht⟩
    refine ⟨h2.1, ?_⟩
    by_cases he : o = []
    · subst he; decide
    · have := h2.2 he; omega
  intro o
  induction o with
  | nil => intro lo _ _ _; exact ⟨by decide, fun h => absurd rfl h⟩
  | cons x o ih =>
    intro lo hlo hs hin
    have ht := hs.tail
    have hx := hs.may (k := 0) (by simp) (x := x) (by simp)
    unfold mayS at hx
    have h1 := hin x.1 (inS_cons.2 (.inl (by omega)))
    have h2 := hin (x.1 + x.2 - 1) (inS_cons.2 (.inl (by omega)))
    have h3 := ih (x.1 + x.2) (by omega) ht.1 fun t hh => by
      have := inS_ge hs hh
      have := hin t (inS_cons.2 (.inr hh))
      omega
    have e : sumS (x :: o) = x.2 + sumS o := rfl
    rw [e]
    refine ⟨by omega, fun _ => ?_⟩
    by_cases he : o = []
    · subst he; have : sumS [] = 0 := rfl; omega
    · have := h3.2 he; omega
theorem SetsM.sum {M : Md} {c : Bool} {o : List Sp} (h : SetsM M c o) (hM : OkM M) : 0 ≤ sumS o ∧ sumS o ≤ 300 :=
  set_sum h.set fun t ht => by obtain ⟨b, hb, _⟩ := (h.mem t).1 ht; exact (hM t b hb).1.2
theorem set_len {o : List Sp} (h : SetOK o o.length) : (o.length : Int) ≤ sumS o := by
  have : ∀ o : List Sp, (∀ x ∈ o, mayS x) → (o.length : Int) ≤ sumS o := by
    intro o
    induction o with
    | nil => intro _; decide
    | cons x o ih =>
      intro hm
      have h1 := ih fun y hy => hm y (List.mem_cons_of_mem _ hy)
      have h2 := hm x List.mem_cons_self
      unfold mayS at h2
      show _ ≤ x.2 + sumS o
      simp only [List.length_cons]
      omega
  exact this o fun x hx => h.mem rfl hx
theorem SetsM.len {M : Md} {c : Bool} {o : List Sp} (h : SetsM M c o) (hM : OkM M) : o.length ≤ 300 := by
  have := set_len h.set
  have := h.sum hM
  omega
theorem getD_len {M : Md} (hM : OkM M) (t : Int) : ((M t).getD []).length ≤ 64 := by
  cases h : M t with
  | none => simp
  | some b => rcases (hM t b h).2 with h | h <;> simp [h]
theorem dataOf_len {M : Md} {o : List Sp} (h : SetsM M false o) (hM : OkM M) : (dataOf M o).length ≤ 19200 := by
  have h1 := flatMap_len (fun t => (M t).getD []) 64 (secsL o) (getD_len hM)
  have h2 := secsL_sum o fun x hx => h.set.mem rfl hx
  have := h.sum hM
  unfold dataOf
  omega
end Go.Lx

/- Plain laws of batches, second part: which objects of batches may be; the chapter's example. -/
namespace Go.Lx
set_option linter.unusedVariables false
set_option linter.unusedSimpArgs false

theorem spans_pts (p : List Sp) : spansOf (ptsOf p) = p := by
  unfold spansOf ptsOf
  rw [List.map_map]
  conv => rhs; rw [← List.map_id p]
  rfl
theorem secs_pts : ∀ p : List Sp, secs (ptsOf p) = sumS p
  | [] => rfl
  | x :: p => by
    have ih := secs_pts p
    unfold secs ptsOf at ih ⊢
    simp only [List.map_cons, List.sum_cons]
    rw [ih]
    rfl
theorem ord_pts {sq : Int} {p : List Sp} (h : SetOK p p.length) : OrdP sq (ptsOf p) (ptsOf p).length := by
  intro i x hi hx
  unfold ptsOf at hx hi
  rw [List.length_map] at hi
  rw [List.getElem?_map] at hx
  obtain ⟨s, hs⟩ := get_lt hi
  rw [hs] at hx
  cases hx
  obtain ⟨h1, h2⟩ := h i s hi hs
  refine ⟨⟨h1, .inl ⟨rfl, rfl⟩⟩, fun y h0 hy => ?_⟩
  unfold ptsOf at hy
  rw [List.getElem?_map] at hy
  obtain ⟨s2, hs2⟩ := get_lt (l := p) (k := i - 1) (by omega)
  rw [hs2] at hy
  cases hy
  have := h2 s2 h0 hs2
  dsimp only
  omega
theorem flat_64 {f : Int → Bs} : ∀ (l : List Int), (∀ t ∈ l, (f t).length = 64) → (l.flatMap f).length = 64 * l.length
  | [], _ => rfl
  | t :: l, h => by
    have ih := flat_64 l fun u hu => h u (List.mem_cons_of_mem _ hu)
    rw [List.flatMap_cons, List.length_append, h t List.mem_cons_self, ih, List.length_cons]
    omega
theorem SetsM.at64 {M : Md} {p : List Sp} (hp : SetsM M false p) (hM : OkM M) {t : Int} (ht : t ∈ secsL p) : ((M t).getD []).length = 64 := by
  obtain ⟨b, h1, h2⟩ := (hp.mem t).1 (secsL_mem.1 ht)
  rw [h1]
  rcases (hM t b h1).2 with h | h
  · exact absurd h (by simpa using h2)
  · exact h
theorem data_64 {M : Md} {p : List Sp} (hp : SetsM M false p) (hM : OkM M) : ((dataOf M p).length : Int) = 64 * sumS p := by
  have h1 := flat_64 (f := fun t => (M t).getD []) (secsL p) fun t ht => hp.at64 hM ht
  have h2 := secsL_sum p fun x hx => hp.set.mem rfl hx
  unfold dataOf
  omega
theorem chk_obj {S : Bst} {k : Nat} {ep sq : Int} {p c : List Sp} (hG : Gd S) (hp : SetsM S.M false p) (hc : SetsM S.M true c) (h1 : p.length ≤ 240) (h2 : c.length ≤ 240) (he : 1 ≤ ep ∧ ep < 1099511627776) (hs : 1 ≤ sq ∧ sq < 1099511627776) : chkD (objOf S k ep sq p c) = 0 := by
  have hps : (objOf S k ep sq p c).ps.length = p.length := by simp [objOf, ptsOf]
  have hcs : (objOf S k ep sq p c).cs.length = c.length := rfl
  have hd : (objOf S k ep sq p c).d.length ≤ 19200 := dataOf_len hp hG.M
  refine chkD_of ⟨he, hs, hG.up⟩ ⟨by omega, by omega, ord_pts hp.set, hc.set, fun t h3 h4 => ?_⟩ ?_ ?_
  · have h3' : inS p t := by have := h3; unfold objOf at this; rwa [spans_pts] at this
    obtain ⟨b, b1, b2⟩ := (hp.mem t).1 h3'
    obtain ⟨b', b3, b4⟩ := (hc.mem t).1 h4
    rw [b1] at b3
    cases b3
    rw [b2] at b4
    cases b4
  · show ((dataOf S.M p).length : Int) = 64 * secs (ptsOf p)
    rw [secs_pts]
    exact data_64 hp hG.M
  · have e1 := (dobB_drop (objOf S k ep sq p c)).1
    have e2 := headD_len (objOf S k ep sq p c)
    rw [sealS_len] at e1
    omega

/-! ### the chapter's example -/
def dA : Bs := List.replicate 64 97
def dB : Bs := List.replicate 64 98
def rA : RcB := ⟨0, 1, 1, [(4, 2)], dA ++ dB, []⟩
def rB : RcB := ⟨0, 2, 2, [(5, 1)], [], []⟩
def mA : Md := upd (upd (fun _ => none) 4 dA) 5 dB
def mB : Md := upd mA 5 []
theorem stA : stM b0 rA = mA := by
  have e : secsL rA.sp = [4, 5] := by decide
  have e0 : putB rA.kd rA.d 0 = dA := by decide +kernel
  have e1 : putB rA.kd rA.d 1 = dB := by decide +kernel
  unfold stM
  rw [e]
  simp only [wrF, e0, e1]
  rfl
theorem stB : stM ⟨mA, 1, 1⟩ rB = mB := by
  have e : secsL rB.sp = [5] := by decide
  have e0 : putB rB.kd rB.d 0 = [] := rfl
  unfold stM
  rw [e]
  simp only [wrF, e0]
  rfl
theorem chk_rA : chkR rA = 0 := by
  have hs : SpP rA := ⟨by decide, by decide, rfl, fun x hx => by cases hx with | head => unfold mayS; decide | tail _ h => cases h⟩
  have hl : (rA.d.length : Int) = 64 * sumS rA.sp := by decide +kernel
  unfold chkR
  rw [if_neg (by unfold RngP; decide), if_neg (by decide), if_neg (by decide), if_neg (by rintro (h | h | h); exact h hs; exact absurd h.1 (by decide); exact absurd h.2 (by decide)), if_neg (fun h => h.2 hl)]
theorem chk_rB : chkR rB = 0 := by
  have hs : SpP rB := ⟨by decide, by decide, rfl, fun x hx => by cases hx with | head => unfold mayS; decide | tail _ h => cases h⟩
  unfold chkR
  rw [if_neg (by unfold RngP; decide), if_neg (by decide), if_neg (by decide), if_neg (by rintro (h | h | h); exact h hs; exact absurd rfl h.2; exact absurd h.1 (by decide)), if_neg (fun h => absurd h.1 (by decide))]
theorem one_sets {M : Md} {c : Bool} {x : Sp} (hm : mayS x) (h : ∀ t, (x.1 ≤ t ∧ t < x.1 + x.2) ↔ ∃ b, M t = some b ∧ decide (b = []) = c) : SetsM M c [x] := ⟨SetOK.one hm, fun t => inS_one.trans (h t)⟩
theorem setA : SetsM mA false [(4, 2)] := one_sets (by unfold mayS; decide) fun t => by
  unfold mA upd
  dsimp only
  by_cases h5 : t = 5
  · subst h5; simp [dB]
  · by_cases h4 : t = 4
    · subst h4; simp [dA]
    · simp [h5, h4]; omega
theorem cutA : SetsM mA true [] := ⟨SetOK.nil _, fun t => ⟨fun h => absurd h (inS_nil t), fun ⟨b, h1, h2⟩ => by
  exfalso
  unfold mA upd at h1
  by_cases h5 : t = 5
  · subst h5; simp at h1; subst h1; revert h2; decide
  · by_cases h4 : t = 4
    · subst h4; simp at h1; subst h1; revert h2; decide
    · simp [h5, h4] at h1⟩⟩
theorem setB : SetsM mB false [(4, 1)] := one_sets (by unfold mayS; decide) fun t => by
  unfold mB mA upd
  dsimp only
  by_cases h5 : t = 5
  · subst h5; simp
  · by_cases h4 : t = 4
    · subst h4; simp [dA]
    · simp [h5, h4]; omega
theorem cutB : SetsM mB true [(5, 1)] := one_sets (by unfold mayS; decide) fun t => by
  unfold mB mA upd
  dsimp only
  by_cases h5 : t = 5
  · subst h5; simp
  · by_cases h4 : t = 4
    · subst h4; simp [dA]
    · simp [h5, h4]; omega
theorem addA {e : Int} {S : Bst} (h : AddR 10 b0 rA e S) : e = 0 ∧ S = ⟨mA, 1, 1⟩ :=
  h.unique (.inr ⟨chk_rA, .inr ⟨by decide, [(4, 2)], [], by rw [stA]; exact setA, by rw [stA]; exact cutA, .inr ⟨by unfold FullP; decide, rfl, by rw [stA]; rfl⟩⟩⟩)
theorem addB {e : Int} {S : Bst} (h : AddR 10 ⟨mA, 1, 1⟩ rB e S) : e = 0 ∧ S = ⟨mB, 2, 2⟩ :=
  h.unique (.inr ⟨chk_rB, .inr ⟨by decide, [(4, 1)], [(5, 1)], by rw [stB]; exact setB, by rw [stB]; exact cutB, .inr ⟨by unfold FullP; decide, rfl, by rw [stB]; rfl⟩⟩⟩)
theorem okA : OkM mA := by
  unfold mA
  exact ((OkM.upd (M := fun _ => none) (fun t b h => by cases h) (by omega) (.inr rfl)).upd (by omega) (.inr rfl))
theorem gdB : Gd ⟨mB, 2, 2⟩ := ⟨okA.upd (by omega) (.inl rfl), by dsimp only; omega, by dsimp only; omega⟩
theorem dataB : dataOf mB [(4, 1)] = dA := by
  have e : secsL [((4 : Int), (1 : Int))] = [4] := by decide
  unfold dataOf
  rw [e]
  simp [mB, mA, upd]
theorem sealB {o : Dob} {e : Int} (h : SealR ⟨mB, 2, 2⟩ 1 1 1 o e) : e = 0 ∧ o = ⟨1, 1, 1, 2, [⟨4, 1, 0, 0⟩], [(5, 1)], dA⟩ := by
  have hk : chkD (objOf ⟨mB, 2, 2⟩ 1 1 1 [(4, 1)] [(5, 1)]) = 0 := chk_obj gdB setB cutB (by decide) (by decide) (by omega) (by omega)
  have := h.unique (.inr ⟨by decide, [(4, 1)], [(5, 1)], setB, cutB, .inr ⟨hk, rfl, rfl⟩⟩)
  refine ⟨this.2, this.1.trans ?_⟩
  unfold objOf
  rw [dataB]
  rfl
theorem gd0 : Gd b0 := ⟨fun t b h => (by cases h), by unfold b0; dsimp only; omega, by unfold b0; dsimp only; omega⟩
theorem fewA : FewR rA := fun x hx _ => by cases hx with | head => decide | tail _ h => cases h
theorem fewB : FewR rB := fun x hx _ => by cases hx with | head => decide | tail _ h => cases h
end Go.Lx

/- Own layer, part v: more of maps (nil, clear, an entry that is written behind its stamp), functions that the model stands in for, strings.Builder's pointers and its String, arrays that are values. Plain theorems. -/
namespace Go.Lx
open Go.Proofs
set_option linter.unusedVariables false
set_option linter.unusedSimpArgs false

/-- A map, of which the entry of the key k has the stamp st. -/
def mapE {β : Type} (f : β → Value) (g : Nat) (l : List (Int × β)) (k : Int) (st : Int) : Assn where
  holds w F := (∃ es clock, w.heap[g]? = some (.map es clock) ∧ es.toList.map kvE = l.map (kvM f) ∧ MapKept.Stamped es clock ∧ ∃ j, es.findIdx? (fun e => (e.born : Int) == st) = some j ∧ ∀ v, (es.toList.modify j (fun e => { e with val := f v })).map kvE = (setM l k v).map (kvM f)) ∧ ∀ b, F b ↔ b = g
  loc := fun ⟨⟨es, c, h, h2⟩, hF⟩ hk => ⟨⟨es, c, (hk g ((hF g).2 rfl)).trans h, h2⟩, hF⟩
  dom := fun ⟨⟨es, c, h, _⟩, hF⟩ hb => by rw [(hF _).1 hb]; exact (Array.getElem?_eq_some_iff.1 h).1
class MapEAt (A : List Assn) (g : Nat) (β : outParam Type) (f : outParam (β → Value)) (l : outParam (List (Int × β))) (k st : outParam Int) (i : outParam Nat) : Prop where at_ : A[i]? = some (mapE f g l k st)
instance {β : Type} {f : β → Value} {g : Nat} {l : List (Int × β)} {k st : Int} {A : List Assn} : MapEAt (mapE f g l k st :: A) g β f l k st 0 := ⟨rfl⟩
instance (priority := low) {β : Type} {f : β → Value} {g i : Nat} {l : List (Int × β)} {k st : Int} {A : List Assn} {q : Assn} [h : MapEAt A g β f l k st i] : MapEAt (q :: A) g β f l k st (i + 1) := ⟨by simpa using h.at_⟩

theorem mod_congr {α : Type} {l : List α} {j : Nat} {e : α} {h1 h2 : α → α} (hj : l[j]? = some e) (he : h1 e = h2 e) : l.modify j h1 = l.modify j h2 := by
  apply List.ext_getElem?
  intro m
  rw [List.getElem?_modify, List.getElem?_modify]
  by_cases hm : j = m
  · subst hm; simp [hj, he]
  · simp [hm]
theorem mod_id {α : Type} (l : List α) (j : Nat) : l.modify j id = l := by
  apply List.ext_getElem?
  intro m
  rw [List.getElem?_modify]
  by_cases hm : j = m <;> simp [hm]
theorem born_unique {es : Array MapEntry} {clock : Nat} (h : MapKept.Stamped es clock) {j : Nat} {e : MapEntry} (hj : es[j]? = some e) : es.findIdx? (fun x => (x.born : Int) == (e.born : Int)) = some j := by
  obtain ⟨hlt, he⟩ := Array.getElem?_eq_some_iff.1 hj
  rw [Array.findIdx?_eq_some_iff_getElem]
  refine ⟨hlt, by simp [he], fun i hi => ?_⟩
  have hn := h.2.1
  rw [List.Nodup, List.pairwise_iff_getElem] at hn
  have := hn i j (by simp; omega) (by simpa using hlt) hi
  simp only [List.getElem_map, Array.getElem_toList] at this
  rw [he] at this
  simp only [beq_iff_eq]
  omega

section
variable {β : Type} {C : Cx} {A A' As : List Assn} {Q : Exit → Act → World → Prop} {S : World → Prop} {env : Env} {ops : Array Oper} {r : Sd} {i d g j : Nat} {v : Value} {cl : Cl} {x y z : Operand} {t u kt e : TypeId} {op : Op} {f : β → Value} {l : List (Int × β)}
variable {ty : TypeId} {pos : String} {af : Array Edge} {gd : Option (Nat × Bool)}

/-- All keys are struck. -/
theorem XL.mapClear (ho : ops[i]? = some ⟨none, .call ⟨.builtin .clear, #[x], #[t]⟩, ty, pos, af, gd⟩) (hg : gok ops env ⟨none, .call ⟨.builtin .clear, #[x], #[t]⟩, ty, pos, af, gd⟩ = some true) [ht : MpT C.P t kt e] (hx : ev env x = some (.map (some g)))
    [hl : MapAt A g β f l j] [hu : Upd A j (mapA f g []) A'] [haf : After cl S C A'] (kk : XL C ops Q S r env A') : XL C ops Q S (.op cl i r) env A := by
  refine XL.chgN ho hg rfl fun a w he hc => ?_
  obtain ⟨es, clock, hb, hes, hst⟩ := hc.mapAt (g := g)
  have hg : (getObj g).run C.P w = .ok (.map es clock) w := MapKept.run_getObj_map hb
  have hset : ∀ o, (setObj g o).run C.P w = .ok () (w.putObj g o) := fun o => MapKept.run_setObj_map o hb
  refine ⟨.tuple #[], A', w.putObj g (.map #[] clock), ?_, hc.setMap (l' := []) rfl (MapKept.stamped_empty clock), haf, kk⟩
  simp [execOp, resolve, invoke, builtin, Builtin.clear_, he.ev hx, run_underlying ht.und, hg, hset]

/-- The entry of a key that is there. -/
theorem XL.mapEntry {k : Int} {b : β} (ho : ops[i]? = some ⟨some d, .mapEntry t x y, ty, pos, af, gd⟩) (hg : gok ops env ⟨some d, .mapEntry t x y, ty, pos, af, gd⟩ = some true) (hdn : Nat.blt d C.n.n = true) [ht : MpT C.P t kt e] [hk : IntT C.P kt .i64] (hx : ev env x = some (.map (some g))) (hy : ev env y = some (.int .i64 k))
    [hl : MapAt A g β f l j] (hb : getM l k = some b) {A2 : Int → List Assn} [hu : ∀ st, Upd A j (mapE f g l k st) (A2 st)] (haf : ∀ st, After cl S C (A2 st)) (kk : ∀ st, XL C ops Q S r ((d, .tuple #[f b, .int .i64 st]) :: env) (A2 st)) : XL C ops Q S (.op cl i r) env A := by
  refine XL.chg ho hg rfl hdn fun a w he hc => ?_
  obtain ⟨es, clock, hbk, hes, hst⟩ := hc.mapAt (g := g)
  have h1 : ∀ em, (Instr.checkKey em 10000 kt (.int .i64 k)).run C.P w = .ok () w := fun em => run_checkKeyI hk.und em k w
  have hg : (getObj g).run C.P w = .ok (.map es clock) w := MapKept.run_getObj_map hbk
  have hset : ∀ o, (setObj g o).run C.P w = .ok () (w.putObj g o) := fun o => MapKept.run_setObj_map o hbk
  rcases find_map f k es.toList l 0 hes with ⟨g1, g2, g3, _⟩ | ⟨jj, b', g1, g2, g3, ⟨e', g4, g5⟩, g6, _⟩
  · rw [g2] at hb; cases hb
  · rw [g2] at hb
    cases hb
    have g4' : es[jj]? = some e' := by rw [← Array.getElem?_toList]; exact g4
    have h2 : (Instr.findKey kt (.int .i64 k) es.toList).run C.P w = .ok (some (0 + jj, f b)) w := by simp [Instr.findKey, run_underlying hk.und, g1]
    have h3 : (es[jj]?.map (·.key)).getD (.int .i64 k) = .int .i64 k := by
      rw [g4']
      exact g5
    have h4 : (Instr.keyThatStays (.int .i64 k) (.int .i64 k)).run C.P w = .ok (.int .i64 k) w := by
      simp [Instr.keyThatStays, sameBits_int]
    have h6 : (es[jj]?.map (·.born)).getD 0 = e'.born := by rw [g4']; rfl
    have hme : es.modify jj (fun e => { e with key := .int .i64 k }) = es := by
      apply Array.ext'
      rw [Array.toList_modify]
      exact (mod_congr (h2 := id) g4 (by rw [← g5]; rfl)).trans (mod_id es.toList jj)
    refine ⟨.tuple #[f b, .int .i64 e'.born], A2 e'.born, w.putObj g (.map es clock), ?_, ?_, haf _, kk _⟩
    · simp [execOp, he.ev hx, he.ev hy, Instr.mapEntry, run_underlying ht.und, hg, h1, h2, h3, h4, hset, hme, goInt]
      rw [g4']
      rfl
    · rw [← (hu e'.born).eq]
      have hlt := (Array.getElem?_eq_some_iff.1 hbk).1
      refine hc.update hl.at_ rfl rfl rfl (by simp [World.putObj]) (Nat.le_refl _) fun F' ⟨_, hF'⟩ => ⟨F', ⟨⟨es, clock, by simp [World.putObj, hlt], hes, hst, jj, born_unique hst g4', fun v => ?_⟩, hF'⟩, fun b hb => .inl hb, fun b hb hn => ?_⟩
      · rw [← g6 v (fun e => { e with key := .int .i64 k, val := f v }) (fun e => rfl)]
        rw [mod_congr (h2 := fun e => { e with key := .int .i64 k, val := f v }) g4 (by rw [← g5])]
      · have hne : ¬ g = b := fun e => hn ((hF' b).2 e.symm)
        simp [World.putObj, hne]

/-- .. is written. -/
theorem XL.entrySet {k st : Int} (b : β) (ho : ops[i]? = some ⟨none, .entryStore t x y z, ty, pos, af, gd⟩) (hg : gok ops env ⟨none, .entryStore t x y z, ty, pos, af, gd⟩ = some true) (hx : ev env x = some (.map (some g))) (hy : ev env y = some (.int .i64 st))
    [hl : MapEAt A g β f l k st j] (hz : ev env z = some (f b)) [hu : Upd A j (mapA f g (setM l k b)) A'] [haf : After cl S C A'] (kk : XL C ops Q S r env A') : XL C ops Q S (.op cl i r) env A := by
  refine XL.chg0 ho hg rfl fun a w he hc => ?_
  obtain ⟨F, ⟨⟨es, clock, hbk, hes, hst, jj, hfi, hmod⟩, hF⟩, _⟩ := hc.get hl.at_
  have hg : (getObj g).run C.P w = .ok (.map es clock) w := MapKept.run_getObj_map hbk
  have hset : ∀ o, (setObj g o).run C.P w = .ok () (w.putObj g o) := fun o => MapKept.run_setObj_map o hbk
  have hlt := (Array.getElem?_eq_some_iff.1 hbk).1
  refine ⟨A', w.putObj g (.map (es.modify jj fun e => { e with val := f b }) clock), ?_, ?_, haf, kk⟩
  · simp [execOp, he.ev hx, he.ev hy, he.ev hz, Instr.entryStore, hg, hfi, hset, asInt, asIntOf]
  · rw [← hu.eq]
    refine hc.update hl.at_ rfl rfl rfl (by simp [World.putObj]) (Nat.le_refl _) fun F' ⟨_, hF'⟩ => ⟨F', ⟨⟨es.modify jj fun e => { e with val := f b }, clock, by simp [World.putObj, hlt], by rw [Array.toList_modify]; exact hmod b, MapKept.stamped_modify hst jj _ (fun _ _ => rfl) (fun _ _ _ => rfl)⟩, hF'⟩, fun b hb => .inl hb, fun b hb hn => ?_⟩
    have hne : ¬ g = b := fun e => hn ((hF' b).2 e.symm)
    simp [World.putObj, hne]

/-! ### functions that the model stands in for -/
class ExtF (P : Program) (f : FuncId) (e : outParam (Array Value → Sem Value)) : Prop where
  run : ∀ args w, (callFunc f args).run P w = ((e args).run P w).andThen fun v w' => .ok (.value v) w'
theorem ExtF.mk' {P : Program} {f : FuncId} {fn : Func} {e : Array Value → Sem Value} (hf : P.funcs[f]? = some fn) (hname : (fn.name == "runtime.NumGoroutine") = false)
    (hb : fn.body.isNone = true) (hn : Extern.findNext fn = none) (he : Extern.find fn = some e) : ExtF P f e := ⟨run_callFunc_extern hf hname hb hn he⟩

/-- maps.clone. -/
theorem XL.cloneM {fx : FuncId} {T : TypeId} {ats : Array TypeId} (ho : ops[i]? = some ⟨some d, .call ⟨.value (.func fx), #[x], ats⟩, ty, pos, af, gd⟩) (hg : gok ops env ⟨some d, .call ⟨.value (.func fx), #[x], ats⟩, ty, pos, af, gd⟩ = some true) (hdn : Nat.blt d C.n.n = true) [hE : ExtF C.P fx Extern.MapsClone.clone]
    (hx : ev env x = some (.iface T (.map (some g)))) (f : β → Value) (l : List (Int × β)) (hm : ∀ w, Conf C A w → ∃ es clock, w.heap[g]? = some (.map es clock) ∧ es.toList.map kvE = l.map (kvM f) ∧ MapKept.Stamped es clock) (haf : ∀ g2, After cl S C (mapA f g2 l :: A))
    (k : ∀ g2, XL C ops Q S r ((d, .iface T (.map (some g2))) :: env) (mapA f g2 l :: A)) : XL C ops Q S (.op cl i r) env A := by
  refine XL.chg ho hg rfl hdn fun a w he hc => ?_
  obtain ⟨es, clock, hbk, hes, hst⟩ := hm w hc
  have h1 := run_maps_clone_sl (P := C.P) (w := w) T hbk
  refine ⟨_, _, w.alloc (.map es clock), ?_, hc.new (q := mapA f w.heap.size l) rfl rfl rfl (by simp) (Nat.le_refl _) (fun b hb => RowKit.Below.heap_alloc w _ b hb) ⟨fun b => b = w.heap.size, ⟨⟨es, clock, heap_alloc_new w _, hes, hst⟩, fun b => Iff.rfl⟩, fun b hb => by rw [hb]; exact Nat.le_refl _⟩, haf _, k _⟩
  have he2 : Lx.ev env (.func fx) = some (.func (.func fx) #[] #[]) := rfl
  simp [execOp, resolve, he.ev he2, he.ev hx, Deferred.ofValue, invoke, hE.run, h1, Result.andThen]

/-- What a map's block holds. -/
def MapOf (f : β → Value) (w : World) (g : Nat) (l : List (Int × β)) : Prop := ∃ es clock, w.heap[g]? = some (.map es clock) ∧ es.toList.map kvE = l.map (kvM f) ∧ MapKept.Stamped es clock
theorem MapOf.conf {w : World} (h : MapOf f C.w0 g l) (hH : ¬ C.H g) (hw : Conf C A w) : MapOf f w g l := by
  obtain ⟨es, clock, h1, h2⟩ := h
  exact ⟨es, clock, (hw.keep g (Array.getElem?_eq_some_iff.1 h1).1 hH).trans h1, h2⟩
theorem MapOf.conf0 {P : Program} {m : Kd} {w0 w : World} (h : MapOf f w0 g l) (hw : Conf ⟨P, m, w0, fun _ => False⟩ A w) : MapOf f w g l := MapOf.conf (C := ⟨P, m, w0, fun _ => False⟩) h (fun h => h) hw
theorem Conf.mapOf {w : World} [h : MapAt A g β f l i] (hc : Conf C A w) : MapOf f w g l := hc.mapAt
namespace Z
theorem lkP [Rl cl C S A As] {k : Int} {z0 : Value} (hn : nx C.n.n ops env i = some (d, .lookup t x y false)) [ht : MpT C.P t kt e] [hk : IntT C.P kt .i64] [hz : Zr C.P e z0] (hx : ev env x = some (.map (some g))) (hy : ev env y = some (.int .i64 k)) (f : β → Value) (l : List (Int × β)) (hl : ∀ w, Conf C As w → MapOf f w g l)
    (kk : XL C ops Q S r ((d, lkV f z0 l k) :: env) A) : XL C ops Q S (.op cl i r) env A :=
  XL.ld hn (fun ty pos af gd => ⟨fun a w he hw => by
    obtain ⟨es, clock, hb, hes, hst⟩ := hl w hw
    have := run_lookupM (P := C.P) (t := t) (z0 := z0) hb hes k false
    simp [execOp, he.ev hx, he.ev hy, this]⟩) kk
theorem lkOkP [Rl cl C S A As] {k : Int} {z0 : Value} (hn : nx C.n.n ops env i = some (d, .lookup t x y true)) [ht : MpT C.P t kt e] [hk : IntT C.P kt .i64] [hz : Zr C.P e z0] (hx : ev env x = some (.map (some g))) (hy : ev env y = some (.int .i64 k)) (f : β → Value) (l : List (Int × β)) (hl : ∀ w, Conf C As w → MapOf f w g l)
    (kk : XL C ops Q S r ((d, .tuple #[lkV f z0 l k, .bool (getM l k).isSome]) :: env) A) : XL C ops Q S (.op cl i r) env A :=
  XL.ld hn (fun ty pos af gd => ⟨fun a w he hw => by
    obtain ⟨es, clock, hb, hes, hst⟩ := hl w hw
    have := run_lookupM (P := C.P) (t := t) (z0 := z0) hb hes k true
    simp [execOp, he.ev hx, he.ev hy, this]⟩) kk
theorem eqM [Nc cl] {p : Option Nat} (hn : nx C.n.n ops env i = some (d, .binOp .eql t x y u)) [h : MpT C.P t kt e] (hx : ev env x = some (.map p)) (hy : ev env y = some (.map none)) (k : XL C ops Q S r ((d, .bool p.isNone) :: env) A) : XL C ops Q S (.op cl i r) env A :=
  XL.dt hn (fun ty pos af gd => ⟨fun a w he _ => by
    have h1 := run_eql_map_nil_sl (P := C.P) w t kt e p h.und
    have h2 : (eqGuard .eql t x y (.map p) (.map none)).run C.P w = .ok () w := by
      cases p <;> simp [eqGuard, run_underlying h.und]
    simp [execOp, he.ev hx, he.ev hy, h1, h2]⟩) k
theorem mi [Nc cl] (hn : nx C.n.n ops env i = some (d, .makeInterface t x)) [h : MpT C.P t kt e] (hx : ev env x = some v) (k : XL C ops Q S r ((d, .iface t v) :: env) A) : XL C ops Q S (.op cl i r) env A :=
  XL.dt hn (fun ty pos af gd => ⟨fun a w he _ => by
    simp [execOp, he.ev hx, Instr.makeInterface, run_underlying h.und]⟩) k
theorem ta [Nc cl] {xT : TypeId} (hn : nx C.n.n ops env i = some (d, .typeAssert x xT t false)) [h : MpT C.P t kt e] (hx : ev env x = some (.iface t v)) (k : XL C ops Q S r ((d, v) :: env) A) : XL C ops Q S (.op cl i r) env A :=
  XL.dt hn (fun ty pos af gd => ⟨fun a w he _ => by
    have h1 := run_typeAssert_map_sl (P := C.P) w t xT kt e v h.und
    simp [execOp, he.ev hx, h1]⟩) k
/-- An element of an array that is a value. -/
theorem ixA [Nc cl] {cs : Array Value} {n ee sz : Nat} {jj : Int} (m : Nat) (hn : nx C.n.n ops env i = some (d, .index t x y)) [h : ArrT C.P t n ee] [hs : Sz C.P ee sz] [ha : Ag C.P ee] (hx : ev env x = some (.agg cs)) (hy : ev env y = some (.int .i64 jj)) (hj : jj = (m : Int)) (hm : m < n)
    (k : XL C ops Q S r ((d, .agg (cs.extract (m * sz) (m * sz + sz))) :: env) A) : XL C ops Q S (.op cl i r) env A :=
  XL.dt hn (fun ty pos af gd => ⟨fun a w he _ => by
    have h0 : (0 : Int) ≤ jj := by omega
    have h1 : jj < (n : Int) := by omega
    have h2 : jj.toNat = m := by omega
    simp [execOp, he.ev hx, he.ev hy, Instr.index, asIntOf, run_underlying h.und, h0, h1, h2, hs.run, part, ha.agg]⟩) k
/-- internal/abi.NoEscape. -/
theorem nesc [Nc cl] {fx : FuncId} {ats : Array TypeId} (hn : nx C.n.n ops env i = some (d, .call ⟨.value (.func fx), #[x], ats⟩)) [hE : ExtF C.P fx Extern.AbiNoEscape.same] (hx : ev env x = some v) (k : XL C ops Q S r ((d, v) :: env) A) : XL C ops Q S (.op cl i r) env A :=
  XL.dt hn (fun ty pos af gd => ⟨fun a w he _ => by
    have he2 : Lx.ev env (.func fx) = some (.func (.func fx) #[] #[]) := rfl
    simp [execOp, resolve, he.ev he2, he.ev hx, Deferred.ofValue, invoke, hE.run, Lib.run_noEscape, Result.andThen]⟩) k
class UnsT (P : Program) (t : TypeId) : Prop where und : P.underlying t = some .unsafePointer
class InfT (P : Program) (t : TypeId) (n : outParam Nat) : Prop where info : ∃ j, P.info? t = some j ∧ j.size = n
theorem InfT.mk' {P : Program} {t n : Nat} (h : ((P.info? t).map (·.size)) = some n) : InfT P t n := ⟨by
  cases hi : P.info? t with
  | none => simp [hi] at h
  | some i => simp [hi] at h; exact ⟨i, rfl, h⟩⟩
/-- A pointer to a told block turned to unsafe.Pointer, and back. -/
theorem toU [Rl cl C S A As] {tp g T n : Nat} {cs : List Value} {jx : Nat} (hn : nx C.n.n ops env i = some (d, .convert t u x)) [h1 : PtrT C.P t tp] [h2 : UnsT C.P u] [h3 : InfT C.P tp n] (hx : ev env x = some (.pointer (some ⟨g, 0, none⟩))) [hl : Loc As g cs T jx] (h0 : (!(n == 0) && !(cs.length == 0)) = true) (k : XL C ops Q S r ((d, .pointer (some ⟨g, 0, none⟩)) :: env) A) : XL C ops Q S (.op cl i r) env A :=
  XL.ld hn (fun ty pos af gd => ⟨fun a w he hw => by
    obtain ⟨j, hj, hjs⟩ := h3.info
    have hb := hw.loc hl.at_
    obtain ⟨h4, h5⟩ : ¬ n = 0 ∧ ¬ cs.length = 0 := by simpa using h0
    have := Lib.run_to_unsafe (P := C.P) w (src := t) (dst := u) (e := T) (cells := cs.length) ⟨g, 0, none⟩ h1.und h2.und hj (by omega) (by simp [World.shape?, hb]) (by show 0 < cs.length; omega)
    simp [execOp, he.ev hx, this]⟩) k
theorem frU [Rl cl C S A As] {tp g T n : Nat} {cs : List Value} {jx : Nat} (hn : nx C.n.n ops env i = some (d, .convert t u x)) [h1 : UnsT C.P t] [h2 : PtrT C.P u tp] [h3 : InfT C.P tp n] (hx : ev env x = some (.pointer (some ⟨g, 0, none⟩))) [hl : Loc As g cs T jx] (hlies : liesAt C.P C.P.depth T (cs.length / C.P.cellsOf T) 0 tp 1 = true) (k : XL C ops Q S r ((d, .pointer (some ⟨g, 0, none⟩)) :: env) A) : XL C ops Q S (.op cl i r) env A :=
  XL.ld hn (fun ty pos af gd => ⟨fun a w he hw => by
    obtain ⟨j, hj, hjs⟩ := h3.info
    have hb := hw.loc hl.at_
    have := Lib.run_from_unsafe (P := C.P) w (src := t) (dst := u) (e := T) (cells := cs.length) ⟨g, 0, none⟩ h1.und h2.und hj (by simp [World.shape?, hb]) hlies
    simp [execOp, he.ev hx, this]⟩) k
/-- A pointer is itself. -/
theorem neS [Nc cl] {tp n : Nat} {p : Addr} (hn : nx C.n.n ops env i = some (d, .binOp .neq t x y u)) [h1 : PtrT C.P t tp] [h3 : InfT C.P tp n] (hx : ev env x = some (.pointer (some p))) (hy : ev env y = some (.pointer (some p))) (k : XL C ops Q S r ((d, .bool false) :: env) A) : XL C ops Q S (.op cl i r) env A :=
  XL.dt hn (fun ty pos af gd => ⟨fun a w he _ => by
    obtain ⟨j, hj, hjs⟩ := h3.info
    have h4 := Lib.run_neq_ptr_same (P := C.P) w p h1.und hj
    have h2 : (eqGuard .neq t x y (.pointer (some p)) (.pointer (some p))).run C.P w = .ok () w := by
      simp [eqGuard, run_underlying h1.und]
    simp [execOp, he.ev hx, he.ev hy, h2, h4]⟩) k
/-- Texts compared. -/
theorem sne [Nc cl] {l m : Bs} (hn : nx C.n.n ops env i = some (d, .binOp .neq t x y u)) (hx : ev env x = some (.string ⟨l.toArray⟩)) (hy : ev env y = some (.string ⟨m.toArray⟩)) (k : l = m → XL C ops Q S r ((d, .bool false) :: env) A) (k' : l ≠ m → XL C ops Q S r ((d, .bool true) :: env) A) : XL C ops Q S (.op cl i r) env A := by
  by_cases h : l = m
  · exact XL.dt hn (fun ty pos af gd => by have := D.strNe (C := C) (W := fun _ => True) (env := env) (ty := ty) (pos := pos) (af := af) (gd := gd) (ds := some d) (t := t) (u := u) hx hy; rwa [decide_eq_false (fun g => g h)] at this) (k h)
  · exact XL.dt hn (fun ty pos af gd => by have := D.strNe (C := C) (W := fun _ => True) (env := env) (ty := ty) (pos := pos) (af := af) (gd := gd) (ds := some d) (t := t) (u := u) hx hy; rwa [decide_eq_true h] at this) (k' h)
theorem seq [Nc cl] {l m : Bs} (hn : nx C.n.n ops env i = some (d, .binOp .eql t x y u)) (hx : ev env x = some (.string ⟨l.toArray⟩)) (hy : ev env y = some (.string ⟨m.toArray⟩)) (k : l = m → XL C ops Q S r ((d, .bool true) :: env) A) (k' : l ≠ m → XL C ops Q S r ((d, .bool false) :: env) A) : XL C ops Q S (.op cl i r) env A := by
  by_cases h : l = m
  · exact XL.dt hn (fun ty pos af gd => by have := D.strEq (C := C) (W := fun _ => True) (env := env) (ty := ty) (pos := pos) (af := af) (gd := gd) (ds := some d) (t := t) (u := u) hx hy; rwa [decide_eq_true h] at this) (k h)
  · exact XL.dt hn (fun ty pos af gd => by have := D.strEq (C := C) (W := fun _ => True) (env := env) (ty := ty) (pos := pos) (af := af) (gd := gd) (ds := some d) (t := t) (u := u) hx hy; rwa [decide_eq_false h] at this) (k' h)
end Z
/-- unsafe.SliceData of a slice with cells. -/
theorem XL.usd {a : Option Addr} {n c : Nat} (ho : ops[i]? = some ⟨some d, .call ⟨.builtin .unsafeSliceData, #[x], #[t]⟩, ty, pos, af, gd⟩) (hg : gok ops env ⟨some d, .call ⟨.builtin .unsafeSliceData, #[x], #[t]⟩, ty, pos, af, gd⟩ = some true) (hdn : Nat.blt d C.n.n = true) (hx : ev env x = some (.slice a n c)) (h0 : a = none ∨ c ≠ 0)
    [haf : After cl S C A] (k : XL C ops Q S r ((d, .pointer a) :: env) A) : XL C ops Q S (.op cl i r) env A := by
  refine XL.chg ho hg rfl hdn fun ac w he hc => ⟨_, A, w, ?_, hc, haf, k⟩
  have h1 : (Builtin.unsafeSliceData_ #[t] ty #[.slice a n c]).run C.P w = .ok (.pointer a) w := by
    rcases h0 with rfl | h0
    · exact Lib.run_unsafeSliceData_nil w _ _ _ _
    · cases a with
      | none => exact Lib.run_unsafeSliceData_nil w _ _ _ _
      | some p => exact Lib.run_unsafeSliceData_row w _ _ _ _ _ h0
  simp [execOp, resolve, invoke, builtin, he.ev hx, h1]
/-- unsafe.String of nothing. -/
theorem XL.ustr0 {p : Option Addr} (ho : ops[i]? = some ⟨some d, .call ⟨.builtin .unsafeString, #[x, y], #[t, u]⟩, ty, pos, af, gd⟩) (hg : gok ops env ⟨some d, .call ⟨.builtin .unsafeString, #[x, y], #[t, u]⟩, ty, pos, af, gd⟩ = some true) (hdn : Nat.blt d C.n.n = true) (hx : ev env x = some (.pointer p)) (hy : ev env y = some (.int .i64 0))
    [haf : After cl S C A] (k : XL C ops Q S r ((d, .string ⟨List.toArray []⟩) :: env) A) : XL C ops Q S (.op cl i r) env A := by
  refine XL.chg ho hg rfl hdn fun ac w he hc => ⟨_, A, w, ?_, hc, haf, k⟩
  have h1 := Lib.run_unsafeString_none (P := C.P) w t u ty p
  simp [execOp, resolve, invoke, builtin, he.ev hx, he.ev hy, h1]
  rfl
/-- The first assertion's blocks are given up. -/
theorem Conf.lose {p : Assn} {w w' : World} (h : Conf C (p :: A) w) (hos : w'.os = w.os) (htape : w'.tape = w.tape) (hout : w'.output = w.output) (hsz : w'.heap.size = w.heap.size) (hk : ∀ F, p.holds w F → ∀ b, ¬ F b → w'.heap[b]? = w.heap[b]?) : Conf C A w' := by
  obtain ⟨F, ⟨F1, F2, h1, h2, hd, hF⟩, f⟩ := h.sep
  refine ⟨hos.trans h.os, htape.trans h.tape, hout.trans h.output, by rw [hsz]; exact h.size, trivial, fun b hb hH => ?_, F2, h2.loc (fun b hb => hk F1 h1 b (fun h => hd b h hb)), fun b hb => f b ((hF b).2 (.inr hb))⟩
  rw [hk F1 h1 b (fun h1b => ?_), h.keep b hb hH]
  rcases f b ((hF b).2 (.inl h1b)) with h | h'
  · exact hH h
  · omega
/-- unsafe.String of an own row: the row is given up. -/
theorem XL.ustr {g n c e2 : Nat} {bs : Bs} (ho : ops[i]? = some ⟨some d, .call ⟨.builtin .unsafeString, #[x, y], #[t, u]⟩, ty, pos, af, gd⟩) (hg : gok ops env ⟨some d, .call ⟨.builtin .unsafeString, #[x, y], #[t, u]⟩, ty, pos, af, gd⟩ = some true) (hdn : Nat.blt d C.n.n = true) [hp : PtrT C.P t e2] (hc1 : C.P.cellsOf e2 = 1) (hx : ev env x = some (.pointer (some ⟨g, 0, none⟩))) (hy : ev env y = some (.int .i64 n))
    (hn : n = bs.length) (hne : bs ≠ []) [hl : OwnAt A (.slice (some ⟨g, 0, none⟩) n c) e2 1 n (encY bs) j] [htk : Take A (own e2 1 (.slice (some ⟨g, 0, none⟩) n c) n (encY bs)) A'] [haf : After cl S C A'] (k : XL C ops Q S r ((d, .string ⟨bs.toArray⟩) :: env) A') : XL C ops Q S (.op cl i r) env A := by
  refine XL.chg ho hg rfl hdn fun ac w he hc => ?_
  have hc2 := hc.perm htk.perm
  obtain ⟨F, hF, _⟩ := hc2.get (i := 0) rfl
  have hrd := (own_rd hF).1
  obtain ⟨⟨hlen, h4⟩, hFF⟩ := hF
  rcases h4 with ⟨h5, _⟩ | ⟨g', cap, cur, h5, _, hgg, hn2, hm, hs, ht⟩
  · cases h5
  · cases h5
    have hcell : ∀ j x, bs[j]? = some x → w.cell? ((⟨g, 0, none⟩ : Addr).add j) = some (.int .u8 x.toNat) := fun j x hx => by
      have := hrd.cell j (.int .u8 (x.toNat : Int)) (by rw [encY_map, List.getElem?_map, hx]; rfl)
      exact this
    have h1 := Lib.run_unsafeString_row (P := C.P) w t u ty e2 hp.und hc1 g cur.size (by simp [World.shape?, hgg]) bs hne (by omega) (by unfold maxLen at hm; omega) hcell
    rw [← hn] at h1
    refine ⟨_, A', w.freeze ⟨g, 0, none⟩ n, ?_, ?_, haf, k⟩
    · simp [execOp, resolve, invoke, builtin, he.ev hx, he.ev hy, h1]
    · have hfz : ∀ b, b ≠ g → (w.freeze ⟨g, 0, none⟩ n).heap[b]? = w.heap[b]? := fun b hb => by
        unfold World.freeze
        split
        · rfl
        · simp only [Array.getElem?_modify]; rw [if_neg (Ne.symm hb)]
      have hsz : (w.freeze ⟨g, 0, none⟩ n).heap.size = w.heap.size := by
        unfold World.freeze
        split
        · rfl
        · simp
      have hos : (w.freeze ⟨g, 0, none⟩ n).os = w.os ∧ (w.freeze ⟨g, 0, none⟩ n).tape = w.tape ∧ (w.freeze ⟨g, 0, none⟩ n).output = w.output := by
        unfold World.freeze
        split <;> exact ⟨rfl, rfl, rfl⟩
      exact hc2.lose hos.1 hos.2.1 hos.2.2 hsz (fun F' hF' b hb => hfz b (fun e => hb (by subst e; exact (hF'.2 _).2 rfl)))
end
end Go.Lx
