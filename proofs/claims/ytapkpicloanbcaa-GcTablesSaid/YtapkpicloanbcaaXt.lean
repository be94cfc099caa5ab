/- Own layer, part t: the library's slices.Sort and slices.Compact of whole numbers, at a row of one's own, out of the shelf's contracts. -/
import Derived.Test.YtapkpicloanbcaaXe
import Derived.Test.YtapkpicloanbcaaXn
import Derived.Shelf.Sort.Plain
import Derived.Shelf.Slices.In.SortNone
import Derived.Shelf.Slices.CompactI
namespace Go.Lx
open Go.Proofs Go.Shelf Go.Sort
set_option linter.unusedVariables false
set_option linter.unusedSimpArgs false

/-- What a row of numbers is, read by the shelf. -/
structure NumRow (w : World) (H : Nat → Prop) (g n c T : Nat) (zs : List Int) : Prop where
  len : zs.length = n
  holds : Holds (Value.int .i64) w g 0 zs.toArray
  lt : g < w.heap.size
  le : n ≤ c
  mx : c ≤ maxLen
  only : ∀ b, H b ↔ b = g
  row : ∃ cur : Array Value, w.heap[g]? = some (.cells cur T (0, 0)) ∧ cur.size = c * 1
theorem num_row {w : World} {H : Nat → Prop} {g n c T : Nat} {zs : List Int} (hown : Sep [own T 1 (.slice (some ⟨g, 0, none⟩) n c) n (encN zs)] w H) : NumRow w H g n c T zs := by
  obtain ⟨F1, F2, ⟨⟨hlen, ho⟩, hF1⟩, h2, _, hF⟩ := hown
  rcases ho with ⟨he, _⟩ | ⟨g', cap, cur, he, _, hg, hnc, hcm, hcs, htake⟩
  · cases he
  cases he
  rw [encN_len, Nat.mul_one] at hlen
  refine ⟨hlen, ?_, (Array.getElem?_eq_some_iff.1 hg).1, hnc, hcm, fun b => ?_, cur, hg, hcs⟩
  · intro j hj
    have hj' : j < zs.length := by simpa using hj
    have e : cur.toList[j]? = some (.int .i64 zs[j]) := by
      have h3 : (cur.toList.take (n * 1))[j]? = (encN zs)[j]? := by rw [htake]
      rw [List.getElem?_take, if_pos (by omega), encN_get, List.getElem?_eq_getElem hj'] at h3
      exact h3
    constructor
    · simp only [World.cell?, hg, Nat.zero_add]
      simp [hj'] at e ⊢
      exact e
    · simp [World.frozen?, hg]
  · rw [hF b, hF1 b]
    have := h2 b
    simp [this, Value.ownBlock, eq_comm]
/-- The row behind the shelf's 'putRow'. -/
theorem num_put {P : Program} {w : World} {H : Nat → Prop} {g n c T k : Nat} {zs ds : List Int} (h : NumRow w H g n c T zs) (hd : ds.length = n) (hk : k ≤ n) (m : Nat) (os : Array Obj) :
    Conf ⟨P, 0, w, H⟩ [own T 1 (.slice (some ⟨g, 0, none⟩) k c) k (encN (ds.take k))] (Sort.grow (putRow (Value.int .i64) (Sort.ahead w m) g 0 ds.toArray) os) := by
  obtain ⟨cur, hg, hcs⟩ := h.row
  have hgw := h.lt
  have hle := h.le
  have hcell : (Sort.grow (putRow (Value.int .i64) (Sort.ahead w m) g 0 ds.toArray) os).heap[g]? = some (.cells (putCells (Value.int .i64) 0 ds.toArray cur) T (0, 0)) := by
    have hm : (putRow (Value.int .i64) (Sort.ahead w m) g 0 ds.toArray).heap[g]? = some (.cells (putCells (Value.int .i64) 0 ds.toArray cur) T (0, 0)) := by
      simp only [putRow, mapBlock, Sort.ahead, Array.getElem?_modify, if_true, hg, Option.map_some, onCells]
    show ((putRow (Value.int .i64) (Sort.ahead w m) g 0 ds.toArray).heap ++ os)[g]? = _
    rw [Array.getElem?_append_left (by simp only [putRow, mapBlock, Sort.ahead, Array.size_modify]; exact hgw)]
    exact hm
  refine ⟨rfl, rfl, rfl, ?_, ?_, ?_, ⟨fun b => b = g, ⟨fun b => b = g, fun _ => False, ⟨⟨?_, .inr ⟨g, c, _, rfl, Nat.zero_le _, hcell, by omega, h.mx, ?_, ?_⟩⟩, ?_⟩, fun _ h => h, fun _ _ h => h, fun b => by simp⟩, fun b hb => .inl ((h.only b).2 hb)⟩⟩
  · show w.heap.size ≤ ((putRow (Value.int .i64) (Sort.ahead w m) g 0 ds.toArray).heap ++ os).size
    simp only [Array.size_append, putRow, mapBlock, Sort.ahead, Array.size_modify]
    omega
  · show w.drawn ≤ w.drawn + m
    omega
  · intro b hb hHb
    have hbg : b ≠ g := fun e => hHb ((h.only b).2 e)
    show ((putRow (Value.int .i64) (Sort.ahead w m) g 0 ds.toArray).heap ++ os)[b]? = _
    rw [Array.getElem?_append_left (by simp only [putRow, mapBlock, Sort.ahead, Array.size_modify]; exact hb)]
    simp only [putRow, mapBlock, Sort.ahead, Array.getElem?_modify, if_neg (Ne.symm hbg)]
  · rw [encN_len, List.length_take]; omega
  · simpa [putCells] using hcs
  · apply List.ext_getElem?
    intro t
    rw [List.getElem?_take, encN_get, List.getElem?_take]
    by_cases ht : t < k
    · have hq : t < cur.size := by omega
      have hq2 : t < ds.length := by omega
      rw [if_pos (by omega), if_pos ht]
      simp only [Array.getElem?_toList, putCells, Array.getElem?_mapIdx, Nat.zero_le, Nat.zero_add, true_and, Nat.sub_zero]
      rw [Array.getElem?_eq_getElem hq, List.getElem?_eq_getElem hq2]
      simp [hq2]
    · rw [if_neg (by omega), if_neg ht]; rfl
  · intro b
    simp [Value.ownBlock, eq_comm]

theorem sortI_row {P : Program} {ρ : Ren} (L : Lays.n189 P ρ) (w : World) (H : Nat → Prop) (a : Option Addr) (n c T : Nat) (zs : List Int) (hown : Sep [own T 1 (.slice a n c) n (encN zs)] w H) (hlt : n < 4611686018427387904) :
    Spec P (ρ.f 189) #[.slice a n c] w H (fun v A => ∃ ds : List Int, v = .tuple #[] ∧ ds.Perm zs ∧ ds.Pairwise (· ≤ ·) ∧ A = [own T 1 (.slice a n c) n (encN ds)]) := by
  have hown' := hown
  obtain ⟨F1, F2, ⟨⟨hlen, ho⟩, hF1⟩, h2, _, hF⟩ := hown
  rcases ho with ⟨he, hn0⟩ | ⟨g, cap, cur, he, _⟩
  · cases he
    have hzs : zs = [] := by
      have : (encN zs).length = 0 := by simpa using hlen
      rw [encN_len] at this
      exact List.length_eq_zero_iff.1 this
    subst hzs
    have hH : H = fun _ => False := by
      funext b
      have := h2 b
      have := hF b
      simp [hF1 b, Value.ownBlock] at this
      simp_all
    subst hH
    refine Calls.mono (Any.slices_Sort_int_none L none 0 w) ?_
    rintro e w' ⟨rfl, rfl⟩
    exact ⟨_, _, rfl, ⟨[], rfl, List.Perm.refl _, List.Pairwise.nil, rfl⟩, (Conf.start (n := 0) (A := []) (w := w') (fun _ h => h)).nilOwn T 1⟩
  · cases he
    have hr := num_row hown'
    have hl := hr.len
    subst hl
    refine Calls.mono (Any.slices_Sort_int L g 0 c zs w hr.holds hr.lt hlt) ?_
    rintro e w' ⟨rfl, m, os, rfl⟩
    have hp := List.mergeSort_perm zs (fun x y => decide (x ≤ y))
    have hput := num_put (P := P) hr (ds := zs.mergeSort fun x y => decide (x ≤ y)) hp.length_eq (Nat.le_refl _) m os
    rw [List.take_of_length_le (by rw [hp.length_eq]; exact Nat.le_refl _)] at hput
    refine ⟨_, _, rfl, ⟨_, rfl, hp, ?_, rfl⟩, hput⟩
    have := List.pairwise_mergeSort (le := fun x y : Int => decide (x ≤ y)) (by intro a b c h1 h2; simp at h1 h2 ⊢; omega) (by intro a b; simp; omega) zs
    exact this.imp (fun h => by simpa using h)
theorem compactI_row {P : Program} {ρ : Ren} (L : Lays2.n20 P ρ) (w : World) (H : Nat → Prop) (a : Option Addr) (n c T : Nat) (zs : List Int) (hown : Sep [own T 1 (.slice a n c) n (encN zs)] w H) (hlt : n ≤ 9223372036854775807) :
    Spec P (ρ.f 20) #[.slice a n c] w H (fun v A => ∃ k, v = .slice a k c ∧ k = (Lib.compact zs).length ∧ A = [own T 1 (.slice a k c) k (encN (Lib.compact zs))]) := by
  have hown' := hown
  obtain ⟨F1, F2, ⟨⟨hlen, ho⟩, hF1⟩, h2, _, hF⟩ := hown
  rcases ho with ⟨he, hn0⟩ | ⟨g, cap, cur, he, _⟩
  · cases he
    have hzs : zs = [] := by
      have : (encN zs).length = 0 := by simpa using hlen
      rw [encN_len] at this
      exact List.length_eq_zero_iff.1 this
    subst hzs
    have hH : H = fun _ => False := by
      funext b
      have := h2 b
      have := hF b
      simp [hF1 b, Value.ownBlock] at this
      simp_all
    subst hH
    refine Calls.mono (Any.slices_Compact_int_empty L none 0 w) ?_
    rintro e w' ⟨rfl, rfl⟩
    exact ⟨_, _, rfl, ⟨0, rfl, rfl, rfl⟩, (Conf.start (n := 0) (A := []) (w := w') (fun _ h => h)).nilOwn T 1⟩
  · cases he
    have hr := num_row hown'
    have hl := hr.len
    subst hl
    refine Calls.mono (Any.slices_Compact_int L g 0 c zs w hr.holds hlt hr.le) ?_
    rintro e w' ⟨rfl, m, rfl⟩
    have hle : (Lib.compact zs).length ≤ zs.length := by
      unfold Lib.compact Lib.compactUpTo
      rw [List.length_map]
      exact Nat.le_trans (List.length_filter_le _ _) (by simp)
    have hput := num_put (P := P) hr (ds := Lib.compact zs ++ List.replicate (zs.length - (Lib.compact zs).length) 0) (k := (Lib.compact zs).length) (by simp; omega) hle m #[]
    rw [List.take_left] at hput
    refine ⟨_, _, rfl, ⟨_, rfl, rfl, rfl⟩, ?_⟩
    have e : Sort.grow (putRow (Value.int .i64) (Sort.ahead w m) g 0 (Lib.compact zs ++ List.replicate (zs.length - (Lib.compact zs).length) 0).toArray) #[] = putRow (Value.int .i64) (Sort.ahead w m) g 0 (Lib.compact zs ++ List.replicate (zs.length - (Lib.compact zs).length) 0).toArray := by
      simp only [Sort.grow, Array.append_empty]
    rw [← e]
    exact hput
end Go.Lx
