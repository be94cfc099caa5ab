import Derived.Test.YtakoppmiegjjlaaGreatDoorM1
import Derived.Shelf.SlSortCmp.WholeK
import Derived.Shelf.SlicesG.Cmp
import Derived.Test.YtakoppmiegjjlaaGreatDoorProg
import Derived.Test.YtakoppmiegjjlaaGreatDoorM14
set_option linter.unusedVariables false
set_option linter.unusedSimpArgs false
namespace Go.Lx
open Go.Proofs Go.Shelf Go.Sort
theorem lt_of_getA {α : Type} {l : List α} {k : Nat} {x : α} (h : l[k]? = some x) : k < l.length := (List.getElem?_eq_some_iff.1 h).1
theorem flatK_eq {α : Type} [Inhabited α] (f : α → List Value) (sz : Nat) (hf : ∀ x, (f x).length = sz) (hsz : 0 < sz) (l : List α) : (flatK f sz l.toArray).toList = l.flatMap f := by
  have hlen := flat_len f sz hf l
  apply List.ext_getElem?
  intro t
  by_cases ht : t < l.length * sz
  · have h1 : t / sz < l.length := by rw [Nat.div_lt_iff_lt_mul hsz]; exact ht
    have h2 : t % sz < sz := Nat.mod_lt _ hsz
    have h3 := flat_get f sz hf l (t / sz) (t % sz) l[t / sz] (List.getElem?_eq_getElem h1) h2
    rw [Nat.mul_comm, Nat.div_add_mod] at h3
    rw [h3]
    have hq : t < (flatK f sz l.toArray).size := by simp; exact ht
    have e := get_flatK f sz l.toArray t (by simpa using ht)
    rw [Array.getElem?_toList, Array.getElem?_eq_getElem hq]
    rw [getElem!_pos (flatK f sz l.toArray) t hq] at e
    rw [e]
    have h4 : (l.toArray[t / sz]!) = l[t / sz] := by simp [h1]
    rw [h4]
    have h5 : t % sz < (f l[t / sz]).length := by rw [hf]; exact h2
    rw [getElem!_pos (f l[t / sz]) (t % sz) h5, List.getElem?_eq_getElem h5]
  · rw [List.getElem?_eq_none (by simp; omega), List.getElem?_eq_none (by rw [hlen]; omega)]
theorem sort_own {α : Type} [Inhabited α] {P : Program} {ρ : Ren} (L : SlLaysF0.n6 P ρ) (f : α → List Value) (sz : Nat) (hf : ∀ x, (f x).length = sz) (hsz : 0 < sz) (h1 : ∀ x, ∀ v ∈ f x, v.oneCell' = true)
    [ag : Ag P (ρ.t 24)] [hs : Sz P (ρ.t 24) sz] (cf : α → α → Int) (hO : SWO (ltOf cf)) (k : FuncId) (cps : List Value) [en : Enters P k]
    (hcmp : ∀ x y W, Calls P k (.agg (f x).toArray :: .agg (f y).toArray :: cps).toArray W fun e w' => e = .returned (.int .i64 (cf x y)) ∧ ∃ q os', w' = Sort.grow (W.drewN q) os')
    (w : World) (H : Nat → Prop) (g n c T : Nat) (l : List α) (hn : l.length = n) (hown : Sep [own T sz (.slice (some ⟨g, 0, none⟩) n c) n (l.flatMap f)] w H) (hlt : n < 4611686018427387904) :
    Spec P (ρ.f 6) #[.slice (some ⟨g, 0, none⟩) n c, .func (.func k) #[] cps.toArray] w H (fun v A => ∃ l' : List α, v = .tuple #[] ∧ l'.Perm l ∧ (∀ (i j : Nat) (x y : α), i < j → l'[i]? = some x → l'[j]? = some y → ¬ cf y x < 0) ∧ A = [own T sz (.slice (some ⟨g, 0, none⟩) n c) n (l'.flatMap f)]) := by
  subst hn
  obtain ⟨F1, F2, ⟨ho, hF1⟩, h2, _, hF⟩ := hown
  have hH : ∀ b, H b ↔ b = g := fun b => by
    rw [hF b, hF1 b]
    have := h2 b
    simp [this, Value.ownBlock, eq_comm]
  obtain ⟨hlen, ho⟩ := ho
  rcases ho with ⟨he, _⟩ | ⟨g', cap, cur, he, _, hg, hnc, hcm, hcs, htake⟩
  · cases he
  cases he
  have hfl := flatK_eq f sz hf hsz l
  have hgw : g < w.heap.size := (Array.getElem?_eq_some_iff.1 hg).1
  have hH2 : HoldsK f sz w g 0 l.toArray := by
    intro j hj
    simp only [size_flatK, List.size_toArray] at hj
    have hq : j < (flatK f sz l.toArray).size := by simpa using hj
    have hle : l.length * sz ≤ cur.size := by rw [hcs]; exact Nat.mul_le_mul_right _ hnc
    constructor
    · have e : cur.toList[j]? = some ((flatK f sz l.toArray)[j]!) := by
        have h3 : (cur.toList.take (l.length * sz))[j]? = (l.flatMap f)[j]? := by rw [htake]
        rw [List.getElem?_take, if_pos hj] at h3
        rw [h3, ← hfl, Array.getElem?_toList, getElem!_pos (flatK f sz l.toArray) j hq, Array.getElem?_eq_getElem hq]
      simp only [World.cell?, hg, Nat.zero_add]
      simpa using e
    · simp [World.frozen?, hg]
  have hcl : CmpLays P k cps.toArray f sz cf g 0 l.toArray.size w := by
    intro m os dk hdk x y
    have e : (#[Value.agg (f x).toArray, .agg (f y).toArray] ++ cps.toArray) = (Value.agg (f x).toArray :: .agg (f y).toArray :: cps).toArray := by simp
    rw [e]
    exact hcmp x y _
  refine Calls.mono (AnyQ.slices_SortFunc L sz ag.agg hs.run f hf h1 cf hO k cps.toArray g 0 c l.toArray w en.run hcl hH2 hgw (by simpa using hlt)) ?_
  rintro e w' ⟨rfl, d', m, os, ⟨hsz', _, hperm⟩, hsort, rfl⟩
  have hds : d'.size = l.length := by simpa using hsz'
  have hp : d'.toList.Perm l := by
    have e1 : d'.extract 0 l.toArray.size = d' := by rw [← hsz']; simp
    have e2 : l.toArray.extract 0 l.toArray.size = l.toArray := by simp
    rw [e1, e2] at hperm
    simpa using hperm
  have hfl' := flatK_eq f sz hf hsz d'.toList
  rw [Array.toArray_toList] at hfl'
  have hcell : (sortWorldK f sz w g 0 m d' os).heap[g]? = some (.cells (putCells id 0 (flatK f sz d') cur) T (0, 0)) := by
    have hm : (mapBlock (Sort.ahead w m) g (putCells id 0 (flatK f sz d'))).heap[g]? = some (.cells (putCells id 0 (flatK f sz d') cur) T (0, 0)) := by
      simp only [mapBlock, Sort.ahead, Array.getElem?_modify, if_true, hg, Option.map_some, onCells]
    show ((mapBlock (Sort.ahead w m) g (putCells id 0 (flatK f sz d'))).heap ++ os)[g]? = _
    rw [Array.getElem?_append_left (by simp only [mapBlock, Sort.ahead, Array.size_modify]; exact hgw)]
    exact hm
  refine ⟨_, _, rfl, ⟨d'.toList, rfl, hp, ?_, rfl⟩, ⟨rfl, rfl, rfl, ?_, ?_, ?_, ⟨fun b => b = g, ⟨fun b => b = g, fun _ => False, ⟨⟨?_, .inr ⟨g, c, _, rfl, Nat.zero_le _, hcell, hnc, hcm, ?_, ?_⟩⟩, ?_⟩, fun _ h => h, fun _ _ h => h, fun b => by simp⟩, fun b hb => .inl ((hH b).2 hb)⟩⟩⟩
  · intro i j x y hij hx hy hlt'
    have hj := lt_of_getA hy
    have := hsort i j (Nat.zero_le _) hij (by simpa [hds] using hj)
    rw [Array.getElem?_toList] at hx hy
    have hi' : i < d'.size := by have := lt_of_getA (l := d'.toList) (by rw [Array.getElem?_toList]; exact hx); simpa using this
    have hj' : j < d'.size := by simpa using hj
    rw [getElem!_pos d' i hi', getElem!_pos d' j hj'] at this
    rw [Array.getElem?_eq_getElem hi'] at hx
    rw [Array.getElem?_eq_getElem hj'] at hy
    cases hx; cases hy
    simp [ltOf] at this
    omega
  · show w.heap.size ≤ ((mapBlock (Sort.ahead w m) g (putCells id 0 (flatK f sz d'))).heap ++ os).size
    simp only [Array.size_append, mapBlock, Sort.ahead, Array.size_modify]
    omega
  · exact trivial
  · intro b hb hHb
    have hbg : b ≠ g := fun e => hHb ((hH b).2 e)
    show ((mapBlock (Sort.ahead w m) g (putCells id 0 (flatK f sz d'))).heap ++ os)[b]? = _
    rw [Array.getElem?_append_left (by simp only [mapBlock, Sort.ahead, Array.size_modify]; exact hb)]
    simp only [mapBlock, Sort.ahead, Array.getElem?_modify, if_neg (Ne.symm hbg)]
  · rw [flat_len f sz hf]
    simp [hds]
  · simp [putCells, hcs]
  · rw [← hfl']
    apply List.ext_getElem?
    intro t
    rw [List.getElem?_take]
    have hle : l.length * sz ≤ cur.size := by rw [hcs]; exact Nat.mul_le_mul_right _ hnc
    by_cases ht : t < l.length * sz
    · rw [if_pos ht]
      have hq : t < (flatK f sz d').size := by rw [size_flatK, hds]; exact ht
      have hq2 : t < cur.size := by omega
      simp only [Array.getElem?_toList, putCells, Array.getElem?_mapIdx, Nat.zero_le, Nat.zero_add, true_and, Nat.sub_zero, id]
      rw [Array.getElem?_eq_getElem hq2, Array.getElem?_eq_getElem hq]
      simp only [Option.map_some, if_pos hq]
      rw [getElem!_pos (flatK f sz d') t hq]
    · rw [if_neg ht, Array.getElem?_toList, Array.getElem?_eq_none (by rw [size_flatK, hds]; omega)]
  · intro b
    simp [Value.ownBlock, eq_comm]
theorem sort_row {α : Type} [Inhabited α] {P : Program} {ρ : Ren} (L : SlLaysF0.n6 P ρ) (f : α → List Value) (sz : Nat) (hf : ∀ x, (f x).length = sz) (hsz : 0 < sz) (h1 : ∀ x, ∀ v ∈ f x, v.oneCell' = true)
    [ag : Ag P (ρ.t 24)] [hs : Sz P (ρ.t 24) sz] (cf : α → α → Int) (hO : SWO (ltOf cf)) (k : FuncId) (cps : List Value) [en : Enters P k]
    (hcmp : ∀ x y W, Calls P k (.agg (f x).toArray :: .agg (f y).toArray :: cps).toArray W fun e w' => e = .returned (.int .i64 (cf x y)) ∧ ∃ q os', w' = Sort.grow (W.drewN q) os')
    (w : World) (H : Nat → Prop) (a : Option Addr) (n c T : Nat) (l : List α) (hn : l.length = n) (hown : Sep [own T sz (.slice a n c) n (l.flatMap f)] w H) (hlt : n < 4611686018427387904)
    (hnil : Spec P (ρ.f 6) #[.slice none 0 0, .func (.func k) #[] cps.toArray] w (fun _ => False) (fun v A => v = .tuple #[] ∧ A = [])) :
    Spec P (ρ.f 6) #[.slice a n c, .func (.func k) #[] cps.toArray] w H (fun v A => ∃ l' : List α, v = .tuple #[] ∧ l'.Perm l ∧ (∀ (i j : Nat) (x y : α), i < j → l'[i]? = some x → l'[j]? = some y → ¬ cf y x < 0) ∧ A = [own T sz (.slice a n c) n (l'.flatMap f)]) := by
  have hown' := hown
  obtain ⟨F1, F2, ⟨⟨hlen, ho⟩, hF1⟩, h2, _, hF⟩ := hown
  rcases ho with ⟨he, hn0⟩ | ⟨g, cap, cur, he, _⟩
  · cases he
    have hl : l = [] := List.length_eq_zero_iff.1 hn
    subst hl
    have hH : H = fun _ => False := by
      funext b
      have := h2 b
      have := hF b
      simp [hF1 b, Value.ownBlock] at this
      simp_all
    subst hH
    refine Calls.mono hnil ?_
    rintro e w' ⟨v, A, rfl, ⟨rfl, rfl⟩, hc⟩
    exact ⟨_, _, rfl, ⟨[], rfl, List.Perm.refl _, fun i j x y _ hx => (by cases hx), rfl⟩, hc.nilOwn T sz⟩
  · cases he
    exact sort_own L f sz hf hsz h1 cf hO k cps hcmp w H g n c T l hn hown' hlt
end Go.Lx
namespace Go.Proofs
open Go.Shelf
def Tryz.sortS_ren : Go.Shelf.Ren := ⟨fun | 6 => 302 | 15 => 200 | 14 => 326 | 28 => 251 | 29 => 252 | 20 => 332 | 21 => 333 | 22 => 334 | 23 => 335 | 24 => 336 | 25 => 337 | 26 => 338 | 27 => 339 | 46 => 340 | 47 => 295 | 48 => 296 | 49 => 341 | 50 => 342 | 57 => 343 | n => n, fun | 22 => 39 | 24 => 103 | 25 => 374 | 3 => 3 | 39 => 284 | 0 => 0 | 53 => 186 | 55 => 27 | 4 => 4 | 46 => 326 | 45 => 325 | 50 => 306 | 5 => 5 | 9 => 9 | 66 => 367 | 70 => 370 | 76 => 388 | 77 => 389 | n => n, fun | n => n⟩
theorem Tryz.sortS : Go.Proofs.SlLaysF0.n6 Tryz.prog Tryz.sortS_ren := {
  mixed := by kernel_rfl
  f6 := ⟨Tryz.f302.name, by decide, Tryz.func302.trans (congrArg some (by kernel_rfl))⟩
  f14 := ⟨Tryz.f326.name, by decide, Tryz.func326.trans (congrArg some (by kernel_rfl))⟩
  f15 := Tryz.func200.trans (congrArg some (by kernel_rfl))
  f20 := ⟨Tryz.f332.name, by decide, Tryz.func332.trans (congrArg some (by kernel_rfl))⟩
  f21 := ⟨Tryz.f333.name, by decide, Tryz.func333.trans (congrArg some (by kernel_rfl))⟩
  f22 := ⟨Tryz.f334.name, by decide, Tryz.func334.trans (congrArg some (by kernel_rfl))⟩
  f23 := ⟨Tryz.f335.name, by decide, Tryz.func335.trans (congrArg some (by kernel_rfl))⟩
  f24 := ⟨Tryz.f336.name, by decide, Tryz.func336.trans (congrArg some (by kernel_rfl))⟩
  f25 := ⟨Tryz.f337.name, by decide, Tryz.func337.trans (congrArg some (by kernel_rfl))⟩
  f26 := ⟨Tryz.f338.name, by decide, Tryz.func338.trans (congrArg some (by kernel_rfl))⟩
  f27 := ⟨Tryz.f339.name, by decide, Tryz.func339.trans (congrArg some (by kernel_rfl))⟩
  f28 := Tryz.func251.trans (congrArg some (by kernel_rfl))
  f29 := Tryz.func252.trans (congrArg some (by kernel_rfl))
  f46 := ⟨Tryz.f340.name, by decide, Tryz.func340.trans (congrArg some (by kernel_rfl))⟩
  f47 := Tryz.func295.trans (congrArg some (by kernel_rfl))
  f48 := Tryz.func296.trans (congrArg some (by kernel_rfl))
  f49 := ⟨Tryz.f341.name, by decide, Tryz.func341.trans (congrArg some (by kernel_rfl))⟩
  f50 := ⟨Tryz.f342.name, by decide, Tryz.func342.trans (congrArg some (by kernel_rfl))⟩
  f57 := ⟨Tryz.f343.name, by decide, Tryz.func343.trans (congrArg some (by kernel_rfl))⟩
  t0 := Tryz.underlying0
  a0 := Tryz.isAgg0
  z0 := Tryz.sizeOf0
  v0 := Tryz.zeroValue0
  t3 := Tryz.underlying3
  a3 := Tryz.isAgg3
  z3 := Tryz.sizeOf3
  v3 := Tryz.zeroValue3
  t4 := Tryz.underlying4
  a4 := Tryz.isAgg4
  z4 := Tryz.sizeOf4
  v4 := Tryz.zeroValue4
  t5 := Tryz.underlying5
  a5 := Tryz.isAgg5
  z5 := Tryz.sizeOf5
  v5 := Tryz.zeroValue5
  t9 := Tryz.underlying9
  a9 := Tryz.isAgg9
  z9 := Tryz.sizeOf9
  v9 := Tryz.zeroValue9
  t22 := Tryz.underlying39
  a22 := Tryz.isAgg39
  z22 := Tryz.sizeOf39
  v22 := Tryz.zeroValue39
  t25 := Tryz.underlying374
  a25 := Tryz.isAgg374
  z25 := Tryz.sizeOf374
  v25 := Tryz.zeroValue374
  t39 := Tryz.underlying284
  a39 := Tryz.isAgg284
  z39 := Tryz.sizeOf284
  v39 := Tryz.zeroValue284
  t45 := Tryz.underlying325
  a45 := Tryz.isAgg325
  z45 := Tryz.sizeOf325
  v45 := Tryz.zeroValue325
  t46 := Tryz.underlying326
  a46 := Tryz.isAgg326
  z46 := Tryz.sizeOf326
  v46 := Tryz.zeroValue326
  t50 := Tryz.underlying306
  a50 := Tryz.isAgg306
  z50 := Tryz.sizeOf306
  v50 := Tryz.zeroValue306
  t53 := Tryz.underlying186
  a53 := Tryz.isAgg186
  z53 := Tryz.sizeOf186
  v53 := Tryz.zeroValue186
  t55 := Tryz.underlying27
  a55 := Tryz.isAgg27
  z55 := Tryz.sizeOf27
  v55 := Tryz.zeroValue27
  t66 := Tryz.underlying367
  a66 := Tryz.isAgg367
  z66 := Tryz.sizeOf367
  v66 := Tryz.zeroValue367
  t70 := Tryz.underlying370
  a70 := Tryz.isAgg370
  z70 := Tryz.sizeOf370
  v70 := Tryz.zeroValue370
  t76 := Tryz.underlying388
  a76 := Tryz.isAgg388
  z76 := Tryz.sizeOf388
  v76 := Tryz.zeroValue388
  t77 := Tryz.underlying389
  a77 := Tryz.isAgg389
  z77 := Tryz.sizeOf389
  v77 := Tryz.zeroValue389 }
def Tryz.cmpS_ren : Go.Shelf.Ren := ⟨fun | 5 => 304 | 7 => 313 | n => n, fun | 22 => 3 | 3 => 3 | 4 => 4 | n => n, fun | n => n⟩
theorem Tryz.cmpS : Go.Proofs.SlLaysC2.n5 Tryz.prog Tryz.cmpS_ren := {
  mixed := by kernel_rfl
  f5 := ⟨Tryz.f304.name, by decide, Tryz.func304.trans (congrArg some (by kernel_rfl))⟩
  f7 := ⟨Tryz.f313.name, by decide, Tryz.func313.trans (congrArg some (by kernel_rfl))⟩
  t3 := Tryz.underlying3
  a3 := Tryz.isAgg3
  z3 := Tryz.sizeOf3
  v3 := Tryz.zeroValue3
  t4 := Tryz.underlying4
  a4 := Tryz.isAgg4
  z4 := Tryz.sizeOf4
  v4 := Tryz.zeroValue4
  t22 := Tryz.underlying3
  a22 := Tryz.isAgg3
  z22 := Tryz.sizeOf3
  v22 := Tryz.zeroValue3 }
end Go.Proofs
namespace Go.Lx
theorem snoc_of {α : Type} (o : List α) (h : 0 < o.length) : ∃ o' y, o = o' ++ [y] := by
  rcases List.eq_nil_or_concat o with h1 | ⟨o', y, h1⟩
  · subst h1; simp at h
  · exact ⟨o', y, by simpa using h1⟩
structure JoI (l : List Sp) (i : Nat) (o : List Sp) : Prop where
  hi : i ≤ l.length
  len : o.length ≤ i
  set : SetOK o o.length
  mem : ∀ t, inS o t ↔ inTo l i t
  lo : ∀ x ∈ o, ∀ j y, i ≤ j → l[j]? = some y → x.1 ≤ y.1
variable {l o : List Sp} {i : Nat} {s y : Sp}
theorem JoI.start : JoI l 0 [] := ⟨Nat.zero_le _, Nat.le_refl _, SetOK.nil _, fun t => ⟨fun h => absurd h (inS_nil t), fun ⟨j, _, hj, _⟩ => absurd hj (Nat.not_lt_zero j)⟩, fun _ h => (by cases h)⟩
theorem SetOK.lastEnds {o : List Sp} {y : Sp} {b : Int} (h : SetOK o o.length) (hy : o[o.length - 1]? = some y) (hb : y.1 + y.2 < b) : ∀ x ∈ o, x.1 + x.2 < b := by
  intro x hx
  obtain ⟨j, hj⟩ := List.mem_iff_getElem?.1 hx
  have hjl := lt_of_get hj
  by_cases e : j = o.length - 1
  · subst e; rw [hj] at hy; cases hy; exact hb
  · have h1 := h.lt (o.length - 1) j x y (by omega) (by omega) hj hy
    have h2 := h.may (by omega : o.length - 1 < o.length) hy
    unfold mayS at h2
    omega
theorem JoI.push (h : JoI l i o) (hsort : ∀ (i j : Nat) (x y : Sp), i < j → l[i]? = some x → l[j]? = some y → ¬ y.1 < x.1) (hm : ∀ x ∈ l, mayS x) (hs : l[i]? = some s) (hend : ∀ y, o[o.length - 1]? = some y → y.1 + y.2 < s.1) : JoI l (i + 1) (o ++ [s]) := by
  refine ⟨lt_of_get hs, by have := h.len; simp; omega, h.set.snoc ?_ (hm s (List.mem_of_getElem? hs)), fun t => ?_, fun x hx j y hj hy => ?_⟩
  · intro x hx
    have hl : 0 < o.length := List.length_pos_of_mem hx
    obtain ⟨z, hz⟩ := Qx (l := o) (k := o.length - 1) (by omega)
    exact h.set.lastEnds hz (hend z hz) x hx
  · rw [inS_append, h.mem t, inS_one, inTo_succ hs]
  · rcases List.mem_append.1 hx with hx | hx
    · exact h.lo x hx j y (by omega) hy
    · simp at hx
      subst hx
      have := hsort i j x y (by omega) hs hy
      omega
theorem JoI.merge (h : JoI l i o) (hsort : ∀ (i j : Nat) (x y : Sp), i < j → l[i]? = some x → l[j]? = some y → ¬ y.1 < x.1) (hm : ∀ x ∈ l, mayS x) (hs : l[i]? = some s) (hy : o[o.length - 1]? = some y) (hend : s.1 ≤ y.1 + y.2) : JoI l (i + 1) (o.set (o.length - 1) (y.1, max (y.1 + y.2) (s.1 + s.2) - y.1)) := by
  have hl := lt_of_get hy
  obtain ⟨o', z, rfl⟩ := snoc_of o (by omega)
  have e1 : (o' ++ [z]).length - 1 = o'.length := by simp
  rw [e1] at hy ⊢
  simp at hy
  subst hy
  have e2 : (o' ++ [z]).set o'.length (z.1, max (z.1 + z.2) (s.1 + s.2) - z.1) = o' ++ [(z.1, max (z.1 + z.2) (s.1 + s.2) - z.1)] := by simp
  rw [e2]
  have hsm := hm s (List.mem_of_getElem? hs)
  have hzm := h.set.may (k := o'.length) (by simp) (x := z) (by simp)
  have hzs := h.lo z (by simp) i s (Nat.le_refl _) hs
  have hset : SetOK o' o'.length := by
    intro k x hk hx
    obtain ⟨h1, h2⟩ := h.set k x (by simp; omega) (by rw [List.getElem?_append_left hk]; exact hx)
    exact ⟨h1, fun y h0 hy => h2 y h0 (by rw [List.getElem?_append_left (by omega)]; exact hy)⟩
  refine ⟨lt_of_get hs, ?_, hset.snoc ?_ ?_, fun t => ?_, fun x hx j y hj hy => ?_⟩
  · have := h.len
    simp at this ⊢
    omega
  · intro x hx
    obtain ⟨j, hj⟩ := List.mem_iff_getElem?.1 hx
    have hjl := lt_of_get hj
    exact h.set.lt o'.length j x z hjl (by simp) (by rw [List.getElem?_append_left hjl]; exact hj) (by simp)
  · unfold mayS at *
    dsimp only
    omega
  · rw [inTo_succ hs, ← h.mem t, inS_append, inS_append, inS_one, inS_one]
    dsimp only
    unfold mayS at *
    constructor
    · rintro (h1 | h1)
      · exact .inl (.inl h1)
      · by_cases q : t < z.1 + z.2
        · exact .inl (.inr (by omega))
        · exact .inr (by omega)
    · rintro ((h1 | h1) | h1)
      · exact .inl h1
      · exact .inr (by omega)
      · exact .inr (by omega)
  · rcases List.mem_append.1 hx with hx | hx
    · exact h.lo x (by simp [hx]) j y (by omega) hy
    · simp at hx
      subst hx
      exact h.lo z (by simp) j y (by omega) hy
end Go.Lx
