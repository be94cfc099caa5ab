/- Own layer, part n: rows of whole numbers, and of Bools. -/
import Derived.Test.YtkjhepgohacmiaaGreatXf
namespace Go.Lx
set_option linter.unusedVariables false
set_option linter.unusedSimpArgs false

def encN1 (n : Int) : List Value := [.int .i64 n]
def encN (l : List Int) : List Value := l.flatMap encN1
theorem encN_len (l : List Int) : (encN l).length = l.length := by
  have := flat_len encN1 1 (fun _ => rfl) l
  rw [Nat.mul_one] at this
  exact this
theorem encN_map (l : List Int) : encN l = l.map (Value.int .i64) := by
  induction l with
  | nil => rfl
  | cons x l ih => simp only [encN, List.flatMap_cons, List.map_cons] at ih ⊢; rw [ih]; rfl
theorem encN_get (l : List Int) (j : Nat) : (encN l)[j]? = l[j]?.map (Value.int .i64) := by rw [encN_map, List.getElem?_map]
theorem Rd.intAt {w : World} {a : Option Addr} {n c m : Nat} {xs : List Int} {x : Int} (h : Rd w 1 a n c (encN xs)) (hx : xs[m]? = some x) : w.cell? (el a (m * 1)) = some (.int .i64 x) := by
  have := Rd.elem (f := encN1) h (fun _ => rfl) hx 0 _ rfl
  rw [el_add] at this
  exact this
theorem encN_one (l : List Int) : ∀ u ∈ encN l, u.oneCell' = true := by
  intro u hu
  rw [encN_map] at hu
  obtain ⟨x, _, rfl⟩ := List.mem_map.1 hu
  rfl
theorem encN_snoc (o : List Int) (n : Int) : encN o ++ [.int .i64 n] = encN (o ++ [n]) := by simp [encN, encN1]
theorem Rd.intLen {w : World} {a : Option Addr} {n c : Nat} {xs : List Int} (h : Rd w 1 a n c (encN xs)) : xs.length = n := by
  have := h.len
  rw [encN_len] at this
  omega
def encB1 (b : Bool) : List Value := [.bool b]
def encB (bs : List Bool) : List Value := bs.flatMap encB1
theorem Rd.bLen {w : World} {a : Option Addr} {n c : Nat} {xs : List Bool} (h : Rd w 1 a n c (encB xs)) : xs.length = n := by
  have := h.len
  rw [encB, flat_len encB1 1 (fun _ => rfl)] at this
  omega
theorem Rd.bAt {w : World} {a : Option Addr} {n c k : Nat} {xs : List Bool} {b : Bool} (h : Rd w 1 a n c (encB xs)) (hb : xs[k]? = some b) : w.cell? (el a (k * 1)) = some (.bool b) := by
  have := Rd.elem (f := encB1) h (fun _ => rfl) hb 0 _ rfl
  simpa [el_add] using this
theorem encB_set (bs : List Bool) (k : Nat) (b : Bool) (h : k < bs.length) : putAt (encB bs) (k * 1) [.bool b] = encB (bs.set k b) := putAt_flat encB1 1 (fun _ => rfl) b bs k h
theorem encB_made (n : Nat) : (madeCells #[Value.bool false] (n * 1)).toList = encB (List.replicate n false) := by
  rw [Nat.mul_one, toList_madeCells_one]
  unfold encB
  induction n with
  | zero => rfl
  | succ n ih => rw [List.replicate_succ, List.replicate_succ, List.flatMap_cons, ← ih]; rfl

theorem putAt_one (xs : List Value) (k : Nat) (v : Value) (h : k < xs.length) : putAt xs k [v] = xs.set k v := by
  unfold putAt
  exact list_set_parts xs k v h
theorem set_flat {α : Type} (f : α → List Value) (sz : Nat) (hf : ∀ x, (f x).length = sz) (j : Nat) (hj : j < sz) (v : Value) (x y : α) (hxy : (f y).set j v = f x) : ∀ (l : List α) (k : Nat), l[k]? = some y → (l.flatMap f).set (k * sz + j) v = (l.set k x).flatMap f
  | [], k, h => by cases h
  | z :: l, 0, h => by
    simp at h
    subst h
    rw [Nat.zero_mul, Nat.zero_add, List.flatMap_cons, List.set_append_left _ _ (by rw [hf]; exact hj), hxy, List.set_cons_zero, List.flatMap_cons]
  | z :: l, k + 1, h => by
    have ih := set_flat f sz hf j hj v x y hxy l k (by simpa using h)
    rw [List.flatMap_cons, List.set_cons_succ, List.flatMap_cons, ← ih]
    have e : (k + 1) * sz + j = (f z).length + (k * sz + j) := by rw [hf, Nat.add_mul]; omega
    rw [e, List.set_append_right _ _ (Nat.le_add_right _ _)]
    congr 2
    omega
end Go.Lx
