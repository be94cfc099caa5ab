/- Plain laws on gc's extents: what is right, moved, copied. -/
import Derived.Test.YtapkpicloanbcaaGa
namespace Go.Lx
set_option linter.unusedVariables false
set_option linter.unusedSimpArgs false

structure Ext where
  a : Int
  n : Int
  q : Int
  p : Int
  deriving DecidableEq, Inhabited
def encE1 (x : Ext) : List Value := [.int .i64 x.a, .int .i64 x.n, .int .i64 x.q, .int .i64 x.p]
def encE (l : List Ext) : List Value := l.flatMap encE1
structure Mv where
  x : Ext
  s : Int
  p : Int
  deriving DecidableEq, Inhabited
def encM1 (m : Mv) : List Value := [.int .i64 m.x.a, .int .i64 m.x.n, .int .i64 m.x.q, .int .i64 m.x.p, .int .i64 m.s, .int .i64 m.p]
def encM (l : List Mv) : List Value := l.flatMap encM1
theorem Rd.ext {w : World} {a : Option Addr} {n c m : Nat} {xs : List Ext} {x : Ext} (h : Rd w 4 a n c (encE xs)) (hx : xs[m]? = some x) : ∀ j u, [Value.int .i64 x.a, .int .i64 x.n, .int .i64 x.q, .int .i64 x.p][j]? = some u → w.cell? ((el a (m * 4)).add j) = some u := Rd.elem (f := encE1) h (fun _ => rfl) hx
theorem Rd.extN {w : World} {a : Option Addr} {n c m : Nat} {xs : List Ext} {x : Ext} (h : Rd w 4 a n c (encE xs)) (hx : xs[m]? = some x) : w.cell? (el a (m * 4 + 1)) = some (.int .i64 x.n) := by
  have := Rd.ext h hx 1 _ rfl
  rw [el_add] at this
  exact this
theorem Rd.mv {w : World} {a : Option Addr} {n c m : Nat} {xs : List Mv} {x : Mv} (h : Rd w 6 a n c (encM xs)) (hx : xs[m]? = some x) : ∀ j u, (encM1 x)[j]? = some u → w.cell? ((el a (m * 6)).add j) = some u := Rd.elem (f := encM1) h (fun _ => rfl) hx
theorem Rd.mvExt {w : World} {a : Option Addr} {n c m : Nat} {xs : List Mv} {x : Mv} (h : Rd w 6 a n c (encM xs)) (hx : xs[m]? = some x) : ∀ j u, [Value.int .i64 x.x.a, .int .i64 x.x.n, .int .i64 x.x.q, .int .i64 x.x.p][j]? = some u → w.cell? ((el a (m * 6)).add j) = some u := fun j u hu => by
  refine Rd.mv h hx j u ?_
  rcases j with _ | _ | _ | _ | j <;> simp [encM1] at hu ⊢ <;> exact hu
theorem Rd.mvSpot {w : World} {a : Option Addr} {n c m : Nat} {xs : List Mv} {x : Mv} (h : Rd w 6 a n c (encM xs)) (hx : xs[m]? = some x) : ∀ j u, [Value.int .i64 x.s, .int .i64 x.p][j]? = some u → w.cell? ((el a (m * 6 + 4)).add j) = some u := fun j u hu => by
  have := Rd.mv h hx (4 + j) u (by rcases j with _ | _ | j <;> simp [encM1] at hu ⊢ <;> exact hu)
  rw [el_add] at this ⊢
  rw [show m * 6 + 4 + j = m * 6 + (4 + j) by omega]
  exact this
theorem encE_snoc (o : List Ext) (a n q p : Int) : encE o ++ [.int .i64 a, .int .i64 n, .int .i64 q, .int .i64 p] = encE (o ++ [⟨a, n, q, p⟩]) := by simp [encE, encE1]
theorem encM_snoc (o : List Mv) (a n q p s t : Int) : encM o ++ [.int .i64 a, .int .i64 n, .int .i64 q, .int .i64 p, .int .i64 s, .int .i64 t] = encM (o ++ [⟨⟨a, n, q, p⟩, s, t⟩]) := by simp [encM, encM1]

def rightE (x : Ext) : Prop := 1 ≤ x.n ∧ 0 ≤ x.a ∧ x.a ≤ 65536 ∧ x.n ≤ 65536 - x.a ∧ seqS x.q ∧ 0 ≤ x.p ∧ x.p ≤ 65536
instance (x : Ext) : Decidable (rightE x) := by unfold rightE; infer_instance
def AllR (l : List Ext) : Prop := ∀ x ∈ l, rightE x
instance (l : List Ext) : Decidable (AllR l) := by unfold AllR; infer_instance
theorem AllR.at_ {l : List Ext} (h : AllR l) {i : Nat} {x : Ext} (hx : l[i]? = some x) : 1 ≤ x.n ∧ x.n ≤ 65536 := by
  have := h x (List.mem_of_getElem? hx)
  unfold rightE at this
  omega
def sumN : List Ext → Int
  | [] => 0
  | x :: l => x.n + sumN l
theorem sumN_append (l m : List Ext) : sumN (l ++ m) = sumN l + sumN m := by
  induction l with
  | nil => simp [sumN]
  | cons x l ih => simp only [List.cons_append, sumN, ih]; omega
theorem sumN_bd : ∀ {l : List Ext}, AllR l → (l.length : Int) ≤ sumN l ∧ sumN l ≤ 65536 * l.length
  | [], _ => by simp [sumN]
  | x :: l, h => by
    have h1 := sumN_bd (l := l) (fun y hy => h y (List.mem_cons_of_mem _ hy))
    have h2 := h x (List.mem_cons_self ..)
    unfold rightE at h2
    simp only [sumN, List.length_cons]
    omega
theorem AllR.take {l : List Ext} (h : AllR l) (i : Nat) : AllR (l.take i) := fun x hx => h x (List.mem_of_mem_take hx)
theorem sumN_take_le {l : List Ext} (h : AllR l) (i : Nat) : sumN (l.take i) ≤ sumN l := by
  have h1 := sumN_append (l.take i) (l.drop i)
  rw [List.take_append_drop] at h1
  have h2 := (sumN_bd (l := l.drop i) (fun x hx => h x (List.mem_of_mem_drop hx))).1
  omega
theorem take_snocE {l : List Ext} {i : Nat} {x : Ext} (h : l[i]? = some x) : l.take (i + 1) = l.take i ++ [x] := by
  rw [List.take_add_one, h]; rfl
theorem sumN_snoc {l : List Ext} {i : Nat} {x : Ext} (h : l[i]? = some x) : sumN (l.take (i + 1)) = sumN (l.take i) + x.n := by
  rw [take_snocE h, sumN_append]; simp [sumN]
def mvs (s : Int) : Int → List Ext → List Mv
  | _, [] => []
  | p, x :: l => ⟨x, s, p⟩ :: mvs s (p + x.n) l
theorem mvs_append (s : Int) : ∀ (p : Int) (l m : List Ext), mvs s p (l ++ m) = mvs s p l ++ mvs s (p + sumN l) m
  | p, [], m => by simp [mvs, sumN]
  | p, x :: l, m => by
    simp only [List.cons_append, mvs, sumN, mvs_append s (p + x.n) l m]
    rw [show p + x.n + sumN l = p + (x.n + sumN l) by omega]
theorem mvs_len (s : Int) : ∀ (p : Int) (l : List Ext), (mvs s p l).length = l.length
  | p, [] => rfl
  | p, x :: l => by simp [mvs, mvs_len s (p + x.n) l]
theorem mvs_snoc {s : Int} {l : List Ext} {i : Nat} {x : Ext} (h : l[i]? = some x) : mvs s 0 (l.take (i + 1)) = mvs s 0 (l.take i) ++ [⟨x, s, sumN (l.take i)⟩] := by
  rw [take_snocE h, mvs_append]; simp [mvs]
theorem mvs_get {s : Int} {l : List Ext} {i : Nat} {x : Ext} (h : l[i]? = some x) : (mvs s 0 l)[i]? = some ⟨x, s, sumN (l.take i)⟩ := by
  have hi := (List.getElem?_eq_some_iff.1 h).1
  have e := mvs_append s 0 (l.take (i + 1)) (l.drop (i + 1))
  rw [List.take_append_drop, mvs_snoc h] at e
  have hl : (mvs s 0 (l.take i)).length = i := by rw [mvs_len, List.length_take]; omega
  rw [e, List.append_assoc, List.getElem?_append_right (by omega), hl]
  simp
/-- What Moves answers. -/
def IsMv (l : List Ext) (n g : Int) (m : List Mv) : Prop :=
  (¬ (seqS n ∧ AllR l) ∧ g = 1 ∧ m = []) ∨ ((seqS n ∧ AllR l) ∧ sumN l > 1024 ∧ g = 31 ∧ m = []) ∨ ((seqS n ∧ AllR l) ∧ sumN l ≤ 1024 ∧ g = 0 ∧ m = mvs n 0 l)
def cut (x : Ext) (m : Int) : Ext := ⟨x.a, m, x.q, x.p⟩
def cps (vs : List Int) : Int → List Ext → List Ext × Bool
  | _, [] => ([], true)
  | m, x :: l => if x.q ∈ vs then (if x.n ≤ m then (x :: (cps vs (m - x.n) l).1, (cps vs (m - x.n) l).2) else (if m > 0 then [cut x m] else [], false)) else cps vs m l
theorem drop_get {α : Type} {l : List α} {i : Nat} {x : α} (h : l[i]? = some x) : l.drop i = x :: l.drop (i + 1) := by
  obtain ⟨hi, rfl⟩ := List.getElem?_eq_some_iff.1 h
  exact List.drop_eq_getElem_cons hi
/-- The copies of a loop's beginning. -/
def CpI (l : List Ext) (vs : List Int) (most : Int) (i : Nat) (m : Int) (o : List Ext) : Prop :=
  i ≤ l.length ∧ 0 ≤ m ∧ m ≤ most ∧ o.length ≤ i ∧ cps vs most l = (o ++ (cps vs m (l.drop i)).1, (cps vs m (l.drop i)).2)
theorem CpI.zero (l : List Ext) (vs : List Int) {most : Int} (h : 0 ≤ most) : CpI l vs most 0 most [] := ⟨Nat.zero_le _, h, Int.le_refl _, Nat.le_refl _, by simp⟩
theorem CpI.skip {l : List Ext} {vs : List Int} {most m : Int} {i : Nat} {o : List Ext} {x : Ext} (h : CpI l vs most i m o) (hx : l[i]? = some x) (hq : x.q ∉ vs) : CpI l vs most (i + 1) m o := by
  obtain ⟨h1, h2, h3, h4, h5⟩ := h
  have hi := (List.getElem?_eq_some_iff.1 hx).1
  rw [drop_get hx, cps, if_neg hq] at h5
  exact ⟨by omega, h2, h3, by omega, h5⟩
theorem CpI.next {l : List Ext} {vs : List Int} {most m : Int} {i : Nat} {o : List Ext} {x : Ext} (h : CpI l vs most i m o) (hx : l[i]? = some x) (hq : x.q ∈ vs) (h0 : 0 ≤ x.n) (hn : x.n ≤ m) : CpI l vs most (i + 1) (m - x.n) (o ++ [x]) := by
  obtain ⟨h1, h2, h3, h4, h5⟩ := h
  have hi := (List.getElem?_eq_some_iff.1 hx).1
  rw [drop_get hx, cps, if_pos hq, if_pos hn] at h5
  refine ⟨by omega, by omega, by omega, by simp only [List.length_append, List.length_cons, List.length_nil]; omega, ?_⟩
  rw [h5]; simp
theorem CpI.cut1 {l : List Ext} {vs : List Int} {most m : Int} {i : Nat} {o : List Ext} {x : Ext} (h : CpI l vs most i m o) (hx : l[i]? = some x) (hq : x.q ∈ vs) (hn : ¬ x.n ≤ m) (h0 : m > 0) : (o ++ [cut x m], false) = cps vs most l := by
  obtain ⟨h1, h2, h3, h4, h5⟩ := h
  rw [drop_get hx, cps, if_pos hq, if_neg hn, if_pos h0] at h5
  exact h5.symm
theorem CpI.cut0 {l : List Ext} {vs : List Int} {most m : Int} {i : Nat} {o : List Ext} {x : Ext} (h : CpI l vs most i m o) (hx : l[i]? = some x) (hq : x.q ∈ vs) (hn : ¬ x.n ≤ m) (h0 : ¬ m > 0) : (o, false) = cps vs most l := by
  obtain ⟨h1, h2, h3, h4, h5⟩ := h
  rw [drop_get hx, cps, if_pos hq, if_neg hn, if_neg h0] at h5
  simpa using h5.symm
theorem CpI.last {l : List Ext} {vs : List Int} {most m : Int} {i : Nat} {o : List Ext} (h : CpI l vs most i m o) (hi : ¬ i < l.length) : (o, true) = cps vs most l := by
  obtain ⟨h1, h2, h3, h4, h5⟩ := h
  rw [List.drop_of_length_le (by omega), cps] at h5
  simpa using h5.symm
/-- What Copies answers. -/
def IsCp (l : List Ext) (vs : List Int) (most e : Int) (r : List Ext) (al : Bool) : Prop :=
  (¬ (AllR l ∧ 0 ≤ most) ∧ e = 1 ∧ r = [] ∧ al = false) ∨ ((AllR l ∧ 0 ≤ most) ∧ e = 0 ∧ (r, al) = cps vs most l)
theorem ext_any_right (l : List Ext) : (!(l.any fun x => decide (¬ rightE x))) = decide (AllR l) := by
  rw [Bool.eq_iff_iff, decide_eq_true_iff]
  simp [AllR]
end Go.Lx
