/- Own layer, part s: the library's slices.SortFunc, at a slice that owns its row, out of the shelf's contract. -/
import Derived.Test.YtkjhepgohacmiaaGreatXe
import Derived.Shelf.SlSortCmp.WholeK
namespace Go.Lx
open Go.Proofs Go.Shelf Go.Sort
set_option linter.unusedVariables false
set_option linter.unusedSimpArgs false

theorem Conf.grown {P : Program} {m : Nat} {w w' : World} {A : List Assn} (h : Conf ⟨P, m, w, fun _ => False⟩ A w') : ∃ q os', w' = Sort.grow (w.drewN q) os' := by
  refine ⟨w'.drawn - w.drawn, w'.heap.extract w.heap.size w'.heap.size, ?_⟩
  have hh : w'.heap = w.heap ++ w'.heap.extract w.heap.size w'.heap.size := by
    apply Array.ext_getElem?
    intro i
    by_cases hi : i < w.heap.size
    · rw [Array.getElem?_append_left hi]
      exact h.keep i hi (fun h => h)
    · rw [Array.getElem?_append_right (by omega), Array.getElem?_extract]
      have hs := h.size
      simp only at hs
      by_cases hi2 : i < w'.heap.size
      · rw [if_pos (by omega)]
        congr 1
        omega
      · rw [if_neg (by omega), Array.getElem?_eq_none (by omega)]
  have h1 := h.os
  have h2 := h.tape
  have h3 := h.output
  have h4 := h.drawn
  simp only at h1 h2 h3 h4
  unfold Sort.grow World.drewN
  cases w'
  simp only at *
  subst h1 h2 h3
  congr 1
  omega

theorem lt_of_getA {α : Type} {l : List α} {k : Nat} {x : α} (h : l[k]? = some x) : k < l.length := (List.getElem?_eq_some_iff.1 h).1

theorem flatK_eq {α : Type} [Inhabited α] (f : α → List Value) (sz : Nat) (hf : ∀ x, (f x).length = sz) (hsz : 0 < sz) (l : List α) : (flatK f sz l.toArray).toList = l.flatMap f := by
  have hlen := flat_len f sz hf l
  apply List.ext_getElem?
  intro t
  by_cases ht : t < l.length * sz
  · have h1 : t / sz < l.length := by rw [Nat.div_lt_iff_lt_mul hsz]; exact ht
    have h2 : t % sz < sz := Nat.mod_lt _ hsz
    have h3 := flat_get f sz hf l (t / sz) (t % sz) l[t / sz] (List.getElem?_eq_getElem h1) h2
    rw [Nat.mul_comm, Nat.div_add_mod] at h3
    rw [h3]
    have hq : t < (flatK f sz l.toArray).size := by simp; exact ht
    have e := get_flatK f sz l.toArray t (by simpa using ht)
    rw [Array.getElem?_toList, Array.getElem?_eq_getElem hq]
    rw [getElem!_pos (flatK f sz l.toArray) t hq] at e
    rw [e]
    have h4 : (l.toArray[t / sz]!) = l[t / sz] := by simp [h1]
    rw [h4]
    have h5 : t % sz < (f l[t / sz]).length := by rw [hf]; exact h2
    rw [getElem!_pos (f l[t / sz]) (t % sz) h5, List.getElem?_eq_getElem h5]
  · rw [List.getElem?_eq_none (by simp; omega), List.getElem?_eq_none (by rw [hlen]; omega)]

theorem sort_own {α : Type} [Inhabited α] {P : Program} {ρ : Ren} (L : SlLaysF0.n6 P ρ) (f : α → List Value) (sz : Nat) (hf : ∀ x, (f x).length = sz) (hsz : 0 < sz) (h1 : ∀ x, ∀ v ∈ f x, v.oneCell' = true)
    [ag : Ag P (ρ.t 24)] [hs : Sz P (ρ.t 24) sz] (cf : α → α → Int) (hO : SWO (ltOf cf)) (k : FuncId) (cps : List Value) [en : Enters P k]
    (hcmp : ∀ x y W, Spec P k (.agg (f x).toArray :: .agg (f y).toArray :: cps).toArray W (fun _ => False) (fun v A => v = .int .i64 (cf x y) ∧ A = []))
    (w : World) (H : Nat → Prop) (g n c T : Nat) (l : List α) (hn : l.length = n) (hown : Sep [own T sz (.slice (some ⟨g, 0, none⟩) n c) n (l.flatMap f)] w H) (hlt : n < 4611686018427387904) :
    Spec P (ρ.f 6) #[.slice (some ⟨g, 0, none⟩) n c, .func (.func k) #[] cps.toArray] w H (fun v A => ∃ l' : List α, v = .tuple #[] ∧ l'.Perm l ∧ (∀ (i j : Nat) (x y : α), i < j → l'[i]? = some x → l'[j]? = some y → ¬ cf y x < 0) ∧ A = [own T sz (.slice (some ⟨g, 0, none⟩) n c) n (l'.flatMap f)]) := by
  subst hn
  obtain ⟨F1, F2, ⟨ho, hF1⟩, h2, _, hF⟩ := hown
  have hH : ∀ b, H b ↔ b = g := fun b => by
    rw [hF b, hF1 b]
    have := h2 b
    simp [this, Value.ownBlock, eq_comm]
  obtain ⟨hlen, ho⟩ := ho
  rcases ho with ⟨he, _⟩ | ⟨g', cap, cur, he, _, hg, hnc, hcm, hcs, htake⟩
  · cases he
  cases he
  have hfl := flatK_eq f sz hf hsz l
  have hgw : g < w.heap.size := (Array.getElem?_eq_some_iff.1 hg).1
  have hH2 : HoldsK f sz w g 0 l.toArray := by
    intro j hj
    simp only [size_flatK, List.size_toArray] at hj
    have hq : j < (flatK f sz l.toArray).size := by simpa using hj
    have hle : l.length * sz ≤ cur.size := by rw [hcs]; exact Nat.mul_le_mul_right _ hnc
    constructor
    · have e : cur.toList[j]? = some ((flatK f sz l.toArray)[j]!) := by
        have h3 : (cur.toList.take (l.length * sz))[j]? = (l.flatMap f)[j]? := by rw [htake]
        rw [List.getElem?_take, if_pos hj] at h3
        rw [h3, ← hfl, Array.getElem?_toList, getElem!_pos (flatK f sz l.toArray) j hq, Array.getElem?_eq_getElem hq]
      simp only [World.cell?, hg, Nat.zero_add]
      simpa using e
    · simp [World.frozen?, hg]
  have hcl : CmpLays P k cps.toArray f sz cf g 0 l.toArray.size w := by
    intro m os dk hdk x y
    have e : (#[Value.agg (f x).toArray, .agg (f y).toArray] ++ cps.toArray) = (Value.agg (f x).toArray :: .agg (f y).toArray :: cps).toArray := by simp
    rw [e]
    refine Calls.mono (hcmp x y _) ?_
    rintro e' w' ⟨v, A, rfl, ⟨rfl, rfl⟩, hc⟩
    exact ⟨rfl, hc.grown⟩
  refine Calls.mono (AnyQ.slices_SortFunc L sz ag.agg hs.run f hf h1 cf hO k cps.toArray g 0 c l.toArray w en.run hcl hH2 hgw (by simpa using hlt)) ?_
  rintro e w' ⟨rfl, d', m, os, ⟨hsz', _, hperm⟩, hsort, rfl⟩
  have hds : d'.size = l.length := by simpa using hsz'
  have hp : d'.toList.Perm l := by
    have e1 : d'.extract 0 l.toArray.size = d' := by rw [← hsz']; simp
    have e2 : l.toArray.extract 0 l.toArray.size = l.toArray := by simp
    rw [e1, e2] at hperm
    simpa using hperm
  have hfl' := flatK_eq f sz hf hsz d'.toList
  rw [Array.toArray_toList] at hfl'
  have hcell : (sortWorldK f sz w g 0 m d' os).heap[g]? = some (.cells (putCells id 0 (flatK f sz d') cur) T (0, 0)) := by
    have hm : (mapBlock (Sort.ahead w m) g (putCells id 0 (flatK f sz d'))).heap[g]? = some (.cells (putCells id 0 (flatK f sz d') cur) T (0, 0)) := by
      simp only [mapBlock, Sort.ahead, Array.getElem?_modify, if_true, hg, Option.map_some, onCells]
    show ((mapBlock (Sort.ahead w m) g (putCells id 0 (flatK f sz d'))).heap ++ os)[g]? = _
    rw [Array.getElem?_append_left (by simp only [mapBlock, Sort.ahead, Array.size_modify]; exact hgw)]
    exact hm
  refine ⟨_, _, rfl, ⟨d'.toList, rfl, hp, ?_, rfl⟩, ⟨rfl, rfl, rfl, ?_, ?_, ?_, ⟨fun b => b = g, ⟨fun b => b = g, fun _ => False, ⟨⟨?_, .inr ⟨g, c, _, rfl, Nat.zero_le _, hcell, hnc, hcm, ?_, ?_⟩⟩, ?_⟩, fun _ h => h, fun _ _ h => h, fun b => by simp⟩, fun b hb => .inl ((hH b).2 hb)⟩⟩⟩
  · intro i j x y hij hx hy hlt'
    have hj := lt_of_getA hy
    have := hsort i j (Nat.zero_le _) hij (by simpa [hds] using hj)
    rw [Array.getElem?_toList] at hx hy
    have hi' : i < d'.size := by have := lt_of_getA (l := d'.toList) (by rw [Array.getElem?_toList]; exact hx); simpa using this
    have hj' : j < d'.size := by simpa using hj
    rw [getElem!_pos d' i hi', getElem!_pos d' j hj'] at this
    rw [Array.getElem?_eq_getElem hi'] at hx
    rw [Array.getElem?_eq_getElem hj'] at hy
    cases hx; cases hy
    simp [ltOf] at this
    omega
  · show w.heap.size ≤ ((mapBlock (Sort.ahead w m) g (putCells id 0 (flatK f sz d'))).heap ++ os).size
    simp only [Array.size_append, mapBlock, Sort.ahead, Array.size_modify]
    omega
  · show w.drawn ≤ w.drawn + m
    omega
  · intro b hb hHb
    have hbg : b ≠ g := fun e => hHb ((hH b).2 e)
    show ((mapBlock (Sort.ahead w m) g (putCells id 0 (flatK f sz d'))).heap ++ os)[b]? = _
    rw [Array.getElem?_append_left (by simp only [mapBlock, Sort.ahead, Array.size_modify]; exact hb)]
    simp only [mapBlock, Sort.ahead, Array.getElem?_modify, if_neg (Ne.symm hbg)]
  · rw [flat_len f sz hf]
    simp [hds]
  · simp [putCells, hcs]
  · rw [← hfl']
    apply List.ext_getElem?
    intro t
    rw [List.getElem?_take]
    have hle : l.length * sz ≤ cur.size := by rw [hcs]; exact Nat.mul_le_mul_right _ hnc
    by_cases ht : t < l.length * sz
    · rw [if_pos ht]
      have hq : t < (flatK f sz d').size := by rw [size_flatK, hds]; exact ht
      have hq2 : t < cur.size := by omega
      simp only [Array.getElem?_toList, putCells, Array.getElem?_mapIdx, Nat.zero_le, Nat.zero_add, true_and, Nat.sub_zero, id]
      rw [Array.getElem?_eq_getElem hq2, Array.getElem?_eq_getElem hq]
      simp only [Option.map_some, if_pos hq]
      rw [getElem!_pos (flatK f sz d') t hq]
    · rw [if_neg ht, Array.getElem?_toList, Array.getElem?_eq_none (by rw [size_flatK, hds]; omega)]
  · intro b
    simp [Value.ownBlock, eq_comm]
/-- At any own row, nil or not. -/
theorem sort_row {α : Type} [Inhabited α] {P : Program} {ρ : Ren} (L : SlLaysF0.n6 P ρ) (f : α → List Value) (sz : Nat) (hf : ∀ x, (f x).length = sz) (hsz : 0 < sz) (h1 : ∀ x, ∀ v ∈ f x, v.oneCell' = true)
    [ag : Ag P (ρ.t 24)] [hs : Sz P (ρ.t 24) sz] (cf : α → α → Int) (hO : SWO (ltOf cf)) (k : FuncId) (cps : List Value) [en : Enters P k]
    (hcmp : ∀ x y W, Spec P k (.agg (f x).toArray :: .agg (f y).toArray :: cps).toArray W (fun _ => False) (fun v A => v = .int .i64 (cf x y) ∧ A = []))
    (w : World) (H : Nat → Prop) (a : Option Addr) (n c T : Nat) (l : List α) (hn : l.length = n) (hown : Sep [own T sz (.slice a n c) n (l.flatMap f)] w H) (hlt : n < 4611686018427387904)
    (hnil : Spec P (ρ.f 6) #[.slice none 0 0, .func (.func k) #[] cps.toArray] w (fun _ => False) (fun v A => v = .tuple #[] ∧ A = [])) :
    Spec P (ρ.f 6) #[.slice a n c, .func (.func k) #[] cps.toArray] w H (fun v A => ∃ l' : List α, v = .tuple #[] ∧ l'.Perm l ∧ (∀ (i j : Nat) (x y : α), i < j → l'[i]? = some x → l'[j]? = some y → ¬ cf y x < 0) ∧ A = [own T sz (.slice a n c) n (l'.flatMap f)]) := by
  have hown' := hown
  obtain ⟨F1, F2, ⟨⟨hlen, ho⟩, hF1⟩, h2, _, hF⟩ := hown
  rcases ho with ⟨he, hn0⟩ | ⟨g, cap, cur, he, _⟩
  · cases he
    have hl : l = [] := List.length_eq_zero_iff.1 hn
    subst hl
    have hH : H = fun _ => False := by
      funext b
      have := h2 b
      have := hF b
      simp [hF1 b, Value.ownBlock] at this
      simp_all
    subst hH
    refine Calls.mono hnil ?_
    rintro e w' ⟨v, A, rfl, ⟨rfl, rfl⟩, hc⟩
    exact ⟨_, _, rfl, ⟨[], rfl, List.Perm.refl _, fun i j x y _ hx => (by cases hx), rfl⟩, hc.nilOwn T sz⟩
  · cases he
    exact sort_own L f sz hf hsz h1 cf hO k cps hcmp w H g n c T l hn hown' hlt
end Go.Lx
