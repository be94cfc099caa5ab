/- Snapshots in order, taken in and away: plain. -/
import Derived.Test.YtlbcedllbobpaaaMg
namespace Go.Lx
open Go.Proofs
set_option linter.unusedVariables false
set_option linter.unusedSimpArgs false

def zM : Man := ⟨[], 0, 0, 0, [], 0, []⟩
abbrev ltN (x y : Sn3) : Prop := Op.bytesLess x.n y.n = true
def StrictS (l : List Sn3) : Prop := l.Pairwise ltN
/-- Taken in where it stands. -/
def ins (l : List Sn3) (x : Sn3) : List Sn3 := l.takeWhile (fun y => Op.bytesLess y.n x.n) ++ x :: l.dropWhile (fun y => Op.bytesLess y.n x.n)
def insAll (l xs : List Sn3) : List Sn3 := xs.foldl ins l
theorem ins_perm (l : List Sn3) (x : Sn3) : (ins l x).Perm (l ++ [x]) := by
  unfold ins
  refine List.perm_middle.trans ?_
  rw [List.takeWhile_append_dropWhile]
  exact (List.perm_append_comm (l₁ := [x]) (l₂ := l))
theorem insAll_snoc (l xs : List Sn3) (x : Sn3) : insAll l (xs ++ [x]) = ins (insAll l xs) x := by simp [insAll]
theorem insAll_perm (l : List Sn3) : ∀ (xs : List Sn3), (insAll l xs).Perm (l ++ xs) := by
  intro xs
  induction xs generalizing l with
  | nil => simp [insAll]
  | cons x xs ih =>
    show (insAll (ins l x) xs).Perm _
    refine (ih _).trans ?_
    refine ((ins_perm l x).append_right xs).trans ?_
    simp
theorem ins_at {l : List Sn3} {x : Sn3} {k : Nat} (hk : k ≤ l.length) (h1 : ∀ j y, j < k → l[j]? = some y → ltN y x) (h2 : ∀ y, l[k]? = some y → ¬ ltN y x) : ins l x = l.take k ++ x :: l.drop k := by
  induction l generalizing k with
  | nil => simp at hk; subst hk; simp [ins]
  | cons y l ih =>
    cases k with
    | zero =>
      have := h2 y (by simp)
      simp [ins, List.takeWhile_cons, List.dropWhile_cons, this]
    | succ k =>
      have h3 := h1 0 y (by omega) (by simp)
      have := ih (k := k) (by simpa using hk) (fun j z hj hz => h1 (j + 1) z (by omega) (by simpa using hz)) (fun z hz => h2 z (by simpa using hz))
      unfold ins at this ⊢
      simp only [List.takeWhile_cons, List.dropWhile_cons, h3, if_true, List.take_succ_cons, List.drop_succ_cons, List.cons_append]
      rw [this]
theorem StrictS.of_names {l : List Sn3} (h : NamesTo l l.length) : StrictS l := by
  unfold StrictS
  rw [List.pairwise_iff_getElem]
  intro i j hi hj hij
  induction j with
  | zero => omega
  | succ j ih =>
    have hs := (h (j + 1) l[j + 1] hj (List.getElem?_eq_getElem hj)).2.2 l[j] (by omega) (List.getElem?_eq_getElem (by omega))
    rcases Nat.lt_or_ge i j with h1 | h1
    · exact bless_trans _ _ _ (ih (by omega) h1) hs
    · obtain rfl : i = j := by omega
      exact hs
theorem StrictS.ins {l : List Sn3} {x : Sn3} (h : StrictS l) (hx : ∀ y ∈ l, y.n ≠ x.n) : StrictS (ins l x) := by
  induction l with
  | nil => simp [Lx.ins, StrictS]
  | cons y l ih =>
    have hy := List.pairwise_cons.1 h
    have hne := hx y (by simp)
    by_cases hlt : ltN y x
    · have e : Lx.ins (y :: l) x = y :: Lx.ins l x := by
        unfold Lx.ins
        simp [List.takeWhile_cons, List.dropWhile_cons, hlt]
      rw [e]
      refine List.pairwise_cons.2 ⟨fun z hz => ?_, ih hy.2 (fun z hz => hx z (List.mem_cons_of_mem _ hz))⟩
      have := (ins_perm l x).mem_iff.1 hz
      rcases List.mem_append.1 this with h1 | h1
      · exact hy.1 z h1
      · obtain rfl : z = x := by simpa using h1
        exact hlt
    · have e : Lx.ins (y :: l) x = x :: y :: l := by
        unfold Lx.ins
        simp [List.takeWhile_cons, List.dropWhile_cons, hlt]
      rw [e]
      have hxy : ltN x y := by
        rcases bless_tri x.n y.n with h1 | h1 | h1
        · exact h1
        · exact absurd h1.symm hne
        · exact absurd h1 hlt
      refine List.pairwise_cons.2 ⟨fun z hz => ?_, h⟩
      rcases List.mem_cons.1 hz with rfl | hz
      · exact hxy
      · exact bless_trans _ _ _ hxy (hy.1 z hz)
/-- What is to be taken in is not there. -/
def DistA (sn l : List Sn3) : Prop := ∀ i x, l[i]? = some x → ∀ y ∈ sn ++ l.take i, y.n ≠ x.n
theorem DistA.insAll {sn l : List Sn3} (h : StrictS sn) (hd : DistA sn l) : ∀ k, k ≤ l.length → StrictS (insAll sn (l.take k)) := by
  intro k
  induction k with
  | zero => intro _; simpa [Lx.insAll] using h
  | succ k ih =>
    intro hk
    obtain ⟨x, hx⟩ := get_lt' (l := l) (k := k) (by omega)
    rw [← take_snoc' hx, insAll_snoc]
    refine (ih (by omega)).ins fun y hy => hd k x hx y ((insAll_perm sn (l.take k)).mem_iff.1 hy)
theorem strict_unique : ∀ {l m : List Sn3}, StrictS l → StrictS m → l.Perm m → l = m
  | [], m, _, _, hp => (List.Perm.nil_eq hp)
  | x :: l, [], _, _, hp => (by simpa using hp.length_eq)
  | x :: l, y :: m, hl, hm, hp => by
    have h1 := List.pairwise_cons.1 hl
    have h2 := List.pairwise_cons.1 hm
    have hxy : x = y := by
      have hx : x ∈ y :: m := hp.mem_iff.1 (by simp)
      have hy : y ∈ x :: l := hp.mem_iff.2 (by simp)
      rcases List.mem_cons.1 hx with h | h
      · exact h
      · rcases List.mem_cons.1 hy with k | k
        · exact k.symm
        · exact absurd (bless_trans _ _ _ (h1.1 y k) (h2.1 x h)) (bless_irrefl _)
    subst hxy
    rw [strict_unique h1.2 h2.2 (hp.cons_inv)]
/-- A sorted one of what is taken in. -/
theorem sorted_is {sn l s : List Sn3} (hs : StrictS sn) (hd : DistA sn l) (hp : s.Perm (sn ++ l)) (hw : ∀ (i j : Nat) (x y : Sn3), i < j → s[i]? = some x → s[j]? = some y → ¬ ltN y x) : s = insAll sn l := by
  have hst : StrictS (insAll sn l) := by
    have := DistA.insAll hs hd l.length (Nat.le_refl _)
    rwa [List.take_length] at this
  have hpp : s.Perm (insAll sn l) := hp.trans (insAll_perm sn l).symm
  refine strict_unique ?_ hst hpp
  -- names of the strict list are apart; so those of s
  have hnd : (insAll sn l).Pairwise fun x y => x.n ≠ y.n := hst.imp (fun {a b} (h : ltN a b) (e : a.n = b.n) => bless_irrefl b.n (by have h' := h; unfold ltN at h'; rwa [e] at h'))
  have hnd2 : s.Pairwise fun x y => x.n ≠ y.n := (hpp.symm.pairwise_iff (fun h => Ne.symm h)).1 hnd
  unfold StrictS
  rw [List.pairwise_iff_getElem] at hnd2 ⊢
  intro i j hi hj hij
  have h1 := hnd2 i j hi hj hij
  have h2 := hw i j s[i] s[j] hij (List.getElem?_eq_getElem hi) (List.getElem?_eq_getElem hj)
  rcases bless_tri s[i].n s[j].n with h | h | h
  · exact h
  · exact absurd h h1
  · exact absurd h h2
/-- One later. -/
def up (m : Man) : Man := { m with s := m.s + 1 }
def NextR (m res : Man) (e : Int) : Prop := ∃ e1, IsChkM (up m) e1 ∧ (e1 ≠ 0 ∧ e = e1 ∧ res = zM ∨ e1 = 0 ∧ e = 0 ∧ res = up m)
theorem NextR.unique {m r1 r2 : Man} {e f : Int} (h : NextR m r1 e) (k : NextR m r2 f) : r1 = r2 ∧ e = f := by
  obtain ⟨e1, h1, h2⟩ := h
  obtain ⟨f1, k1, k2⟩ := k
  obtain rfl := h1.unique k1
  rcases h2 with ⟨a, b, c⟩ | ⟨a, b, c⟩ <;> rcases k2 with ⟨a', b', c'⟩ | ⟨a', b', c'⟩
  · exact ⟨c.trans c'.symm, b.trans b'.symm⟩
  · exact absurd a' a
  · exact absurd a a'
  · exact ⟨c.trans c'.symm, b.trans b'.symm⟩
def WithR (m : Man) (l : List Sn3) (res : Man) (e : Int) : Prop :=
  (IsChkM m e ∧ e ≠ 0 ∧ res = zM) ∨ (IsChkM m 0 ∧ ¬ DistA m.sn l ∧ e = 16 ∧ res = zM) ∨ (IsChkM m 0 ∧ DistA m.sn l ∧ NextR { m with sn := insAll m.sn l } res e)
theorem WithR.unique {m r1 r2 : Man} {l : List Sn3} {e f : Int} (h : WithR m l r1 e) (k : WithR m l r2 f) : r1 = r2 ∧ e = f := by
  rcases h with ⟨a, b, c⟩ | ⟨a, b, c, d⟩ | ⟨a, b, c⟩ <;> rcases k with ⟨a', b', c'⟩ | ⟨a', b', c', d'⟩ | ⟨a', b', c'⟩
  · exact ⟨c.trans c'.symm, a.unique a'⟩
  · exact absurd (a.unique a') b
  · exact absurd (a.unique a') b
  · exact absurd (a'.unique a) b'
  · exact ⟨d.trans d'.symm, c.trans c'.symm⟩
  · exact absurd b' b
  · exact absurd (a'.unique a) b'
  · exact absurd b b'
  · exact c.unique c'
def ResR (m : Man) (z : Int) (res : Man) (e : Int) : Prop := (IsChkM m e ∧ e ≠ 0 ∧ res = zM) ∨ (IsChkM m 0 ∧ NextR { m with z := z } res e)
theorem ResR.unique {m r1 r2 : Man} {z : Int} {e f : Int} (h : ResR m z r1 e) (k : ResR m z r2 f) : r1 = r2 ∧ e = f := by
  rcases h with ⟨a, b, c⟩ | ⟨a, c⟩ <;> rcases k with ⟨a', b', c'⟩ | ⟨a', c'⟩
  · exact ⟨c.trans c'.symm, a.unique a'⟩
  · exact absurd (a.unique a') b
  · exact absurd (a'.unique a) b'
  · exact c.unique c'
def OutR (m : Man) (s : Bs) (res : Man) (e : Int) : Prop :=
  (IsChkM m e ∧ e ≠ 0 ∧ res = zM) ∨ (IsChkM m 0 ∧ NoneAt m.sn s ∧ e = 15 ∧ res = zM) ∨ (IsChkM m 0 ∧ ∃ i x, FirstAt m.sn s i x ∧ NextR { m with sn := m.sn.take i ++ m.sn.drop (i + 1) } res e)
theorem FirstAt.unique {l : List Sn3} {s : Bs} {i j : Nat} {x y : Sn3} (h : FirstAt l s i x) (k : FirstAt l s j y) : i = j ∧ x = y := by
  have hij : i = j := by
    rcases Nat.lt_trichotomy i j with h1 | h1 | h1
    · exact absurd h.2.1 (k.2.2 i x h1 h.1)
    · exact h1
    · exact absurd k.2.1 (h.2.2 j y h1 k.1)
  subst hij
  have := h.1.symm.trans k.1
  exact ⟨rfl, by simpa using this⟩
theorem FirstAt.notNone {l : List Sn3} {s : Bs} {i : Nat} {x : Sn3} (h : FirstAt l s i x) (k : NoneAt l s) : False := k x (List.mem_of_getElem? h.1) h.2.1
theorem OutR.unique {m r1 r2 : Man} {s : Bs} {e f : Int} (h : OutR m s r1 e) (k : OutR m s r2 f) : r1 = r2 ∧ e = f := by
  rcases h with ⟨a, b, c⟩ | ⟨a, b, c, d⟩ | ⟨a, i, x, b, c⟩ <;> rcases k with ⟨a', b', c'⟩ | ⟨a', b', c', d'⟩ | ⟨a', i', x', b', c'⟩
  · exact ⟨c.trans c'.symm, a.unique a'⟩
  · exact absurd (a.unique a') b
  · exact absurd (a.unique a') b
  · exact absurd (a'.unique a) b'
  · exact ⟨d.trans d'.symm, c.trans c'.symm⟩
  · exact (b'.notNone b).elim
  · exact absurd (a'.unique a) b'
  · exact (b.notNone b').elim
  · obtain ⟨rfl, rfl⟩ := b.unique b'
    exact c.unique c'
theorem IsChkM.names {m : Man} (h : IsChkM m 0) : NamesTo m.sn m.sn.length ∧ VolOK m.v ∧ BaseOK m.v m.b m.bq ∧ nmS m.s ∧ 1 ≤ m.z ∧ m.z ≤ 65536 ∧ NumsTo m.sn m.sn.length ∧ m.sn.length ≤ 100 := by
  rcases h with ⟨_, h⟩ | ⟨⟨h1, h2, h3⟩, ⟨_, h⟩ | ⟨⟨h4, h5, h6, h7⟩, h | ⟨h8, _⟩⟩⟩
  · omega
  · omega
  · have := h.2; omega
  · exact ⟨h3, h1, h2, h4, h5, h6, h7, h8⟩
end Go.Lx
