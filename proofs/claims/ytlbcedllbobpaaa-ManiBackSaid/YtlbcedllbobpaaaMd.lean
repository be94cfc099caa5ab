/- Which manifests may be: package mani's walk, with its range over a function. -/
import Derived.Test.YtlbcedllbobpaaaMc
import Derived.Test.YtlbcedllbobpaaaXr
namespace Go.Lx
open Go.Proofs
set_option linter.unusedVariables false
set_option linter.unusedSimpArgs false
set_option maxRecDepth 20000
set_option maxHeartbeats 4000000

theorem Rd.bd' {w : World} {sz : Nat} {a : Option Addr} {n c : Nat} {cs : List Value} (h : Rd w sz a n c cs) : n ≤ 9223372036854775807 := by
  have h1 := h.le
  have h2 := h.mx
  unfold maxLen at h2
  omega
theorem get_lt' {α : Type} {l : List α} {k : Nat} (h : k < l.length) : ∃ x, l[k]? = some x := ⟨l[k], List.getElem?_eq_getElem h⟩
/-- Each one with the one ahead of it. -/
def prs (z : Sn3) : List Sn3 → List (Sn3 × Sn3)
  | [] => []
  | x :: l => (z, x) :: prs x l
def Sn3.val (x : Sn3) : Value := .agg #[.string ⟨x.n.toArray⟩, .int .i64 x.q, .int .i64 x.u]
def encP (x : Sn3 × Sn3) : List Value := [x.1.val, x.2.val]
def zSn : Sn3 := ⟨[], 0, 0⟩
def lastS (z : Sn3) (l : List Sn3) (i : Nat) : Sn3 := if i = 0 then z else l.getD (i - 1) z
theorem prs_len (z : Sn3) (l : List Sn3) : (prs z l).length = l.length := by
  induction l generalizing z with
  | nil => rfl
  | cons x l ih => simp [prs, ih]
theorem prs_get (z : Sn3) : ∀ (l : List Sn3) (i : Nat) (x : Sn3), l[i]? = some x → (prs z l)[i]? = some (lastS z l i, x)
  | [], _, _, h => by cases h
  | y :: l, 0, x, h => by simp at h; subst h; rfl
  | y :: l, i + 1, x, h => by
    have := prs_get y l i x (by simpa using h)
    show (prs y l)[i]? = _
    rw [this]
    unfold lastS
    cases i with
    | zero => rfl
    | succ j =>
      have hj : j < l.length := by have := (List.getElem?_eq_some_iff.1 (show l[j + 1]? = some x from by simpa using h)).1; omega
      simp [hj]
theorem prs_split {z : Sn3} {l : List Sn3} {i : Nat} {x : Sn3} (h : l[i]? = some x) : prs z l = (prs z l).take i ++ (lastS z l i, x) :: (prs z l).drop (i + 1) := by
  have h1 := prs_get z l i x h
  obtain ⟨hi, he⟩ := List.getElem?_eq_some_iff.1 h1
  rw [← he, List.getElem_cons_drop hi, List.take_append_drop]

theorem pairs_spec (w : World) (v : Value) (h1 : v.oneCell' = true) : Spec Try.prog 69 #[v] w (fun _ => False) (fun r A => ∃ g, r = .func (.func 86) #[] #[.pointer (some ⟨g, 0, none⟩)] ∧ A = [cells g [v] 27]) := by
  refine Spec.enter (args := [v]) (A := []) Try.func69 rfl Try.ntmps69 rfl (fun _ h => h) ?_
  (refine X.seq ?_ <;> (refine X.text (L := (.op .fin 0 (.op .fin 1 .nil))) rfl (by kernel_rfl) ?_ <;>
    (refine XL.box1 rfl rfl rfl rfl h1 (by intro g; infer_instance) (fun g0 => ?_)) <;>
    ((apply XL.det0F rfl rfl rfl rfl; exact D.assign rfl)) <;>
    (refine XL.nil ?_)) <;> (first | refine Ex.then ?_ | (refine N.next ?_ <;> (refine X.seq ?_ <;> (refine X.text (L := (.op .fin 0 (.op .fin 1 .nil))) rfl (by kernel_rfl) ?_ <;>
    ((apply XL.det0F rfl rfl rfl rfl; exact D.makeFunc rfl rfl)) <;>
    ((apply XL.det0F rfl rfl rfl rfl; exact D.assign rfl)) <;>
    (refine XL.nil ?_)) <;> (first | refine Ex.then ?_ | (refine N.next ?_ <;> ((refine X.ret ?_; (repeat (first | refine Rt.then ?_ | refine Rt.block ?_ | refine Rt.scope ?_)); (first | apply Rt.done (Res.r1 Try.results69 (RV.tmp rfl)) | apply Rt.doneM (Res.r1 Try.results69 (RV.tmp rfl))); (focus (exact ⟨g0, rfl, rfl⟩)); exact fun w h => h.takes))))))))
theorem lastS_succ {z : Sn3} {l : List Sn3} {i : Nat} {x : Sn3} (h : l[i]? = some x) : lastS z l (i + 1) = x := by
  obtain ⟨hi, he⟩ := List.getElem?_eq_some_iff.1 h
  unfold lastS
  simp [hi, he]
theorem Sn3.toQ (x : Sn3) : x.val = .agg (encQ1 x).toArray := rfl
/-- What lies outside of some blocks reads as it did, in a later world. -/
theorem cell_later {P : Program} {w w1 : World} {F H : Nat → Prop} {g o : Nat} {v : Value} (h : w.cell? ⟨g, o, none⟩ = some v ∧ ¬ F g) (hc : Conf ⟨P, 0, w, F⟩ [] w1) (hH : ∀ b, H b → F b ∨ w.heap.size ≤ b) : w1.cell? ⟨g, o, none⟩ = some v ∧ ¬ H g :=
  ⟨hc.cell0 h.1 h.2, fun hb => by
    have := World.block_lt_of_cell? w _ h.1
    rcases hH g hb with h1 | h1
    · exact h.2 h1
    · simp only at this; omega⟩
theorem RdX.later {P : Program} {w w1 : World} {F H : Nat → Prop} {sz n c : Nat} {a : Option Addr} {cs : List Value} (h : RdX w F sz a n c cs) (hc : Conf ⟨P, 0, w, F⟩ [] w1) (hH : ∀ b, H b → F b ∨ w.heap.size ≤ b) : RdX w1 H sz a n c cs :=
  RdX.call h hc (A' := []) ⟨hH, fun _ => False, fun _ h => h, fun _ _ h => h⟩

theorem pairs_iter (w : World) (F : Nat → Prop) (g : Nat) (a : Option Addr) (c : Nat) (l : List Sn3) (hg : w.cell? ⟨g, 0, none⟩ = some (.slice a l.length c) ∧ ¬ F g) (hr : RdX w F 3 a l.length c (encQ l)) : Iter Try.prog 86 [.pointer (some ⟨g, 0, none⟩)] encP (prs zSn l) w F := by
  intro l_ J Jx w1 H hc1 hHo hs hround
  have hg1 := cell_later hg hc1 hHo
  have hr1 := hr.later hc1 hHo
  have hb := hr1.rd.bd'
  have htake : (prs zSn l).take l.length = prs zSn l := List.take_of_length_le (by rw [prs_len]; exact Nat.le_refl _)
  refine Spec.enter (args := [.func (.yield l_) #[] #[], .pointer (some ⟨g, 0, none⟩)]) (A := [J []]) Try.func86 rfl Try.ntmps86 rfl hs ?_
  (refine X.seq ?_ <;> (refine X.text (L := (.op .fin 0 .nil)) rfl (by kernel_rfl) ?_ <;>
    (refine XL.alloc rfl rfl rfl (by intro g; infer_instance) (fun gl => ?_); rw [show cells gl [.string ByteArray.empty, .int .i64 0, .int .i64 0] 56 = cells gl (encQ1 (lastS zSn l 0)) 56 from rfl, show J [] = J ((prs zSn l).take 0) from rfl]) <;>
    (refine XL.nil ?_)) <;> (first | refine Ex.then ?_ | (refine N.next ?_ <;> (refine X.seq ?_ <;> (refine X.text (L := (.op .fin 0 (.op .fin 1 (.op .fin 2 .nil)))) rfl (by kernel_rfl) ?_ <;>
    ((apply XL.detF rfl rfl rfl rfl; exact D.load1 rfl (fun w hw => hw.cell0 hg1.1 hg1.2))) <;>
    ((apply XL.det0F rfl rfl rfl rfl; first | exact D.len rfl | exact D.lenL rfl | exact D.lenS rfl)) <;>
    ((apply XL.det0F rfl rfl rfl rfl; exact D.move rfl)) <;>
    (refine XL.nil ?_)) <;> (first | refine Ex.then ?_ | (refine N.next ?_ <;> (refine X.block ?_ <;> ((refine X.loop (ι := Nat) (fun i => [(0, .func (.yield l_) #[] #[]), (3, .pointer (some ⟨gl, 0, none⟩)), (6, .slice a l.length c), (7, .int .i64 l.length), (8, .int .i64 i)]) (fun i => [cells gl (encQ1 (lastS zSn l i)) 56, J ((prs zSn l).take i)]) (fun i => i ≤ l.length) (fun i => l.length - i) (0) ?_ ?_ ?_ ?_; (focus (exact Nat.zero_le _)); (focus (repeat (first | exact Sub.nil | refine Sub.cons rfl ?_))); (focus (exact (fun w h => h.takes))); rintro i hi; (dsimp only at *)) <;> (refine X.seq ?_ <;> (refine X.text (L := (.op .fin 0 .nil)) rfl (by kernel_rfl) ?_ <;>
    (first | (refine XL.splitF rfl rfl rfl rfl (D.int rfl rfl rfl) (fun h0 => ?_) (fun h0 => ?_) <;> first | (have hil : i < l.length := (by omega)) | (obtain rfl : i = l.length := (by omega); rw [htake]))) <;>
    (refine XL.nil ?_)) <;> (first | refine Ex.then ?_ | (refine N.next ?_ <;> (refine X.seq ?_ <;> ((
    refine X.cond rfl ?_ ?_; rotate_left; (focus (
    intro hc; first | exact absurd hc (by decide) | (cases hc; done) | (refine X.exit ?_))); rotate_right; (focus (
    intro hc; first | exact absurd hc (by decide) | (cases hc; done) | (refine X.skip ?_))))) <;> (first | refine Ex.then ?_ | (refine N.next ?_ <;> (refine X.seq ?_ <;> (refine X.block ?_ <;> (refine X.seq ?_ <;> (refine X.text (L := (.op .fin 0 (.op .fin 1 (.op .fin 2 (.op .fin 3 .nil))))) rfl (by kernel_rfl) ?_ <;>
    (obtain ⟨x, hx⟩ := get_lt' hil; (apply XL.det0F rfl rfl rfl rfl; exact D.indexAddr i rfl rfl rfl hil (hr1.rd.sm (by omega)))) <;>
    ((apply XL.detF rfl rfl rfl rfl; exact D.loadN rfl rfl (fun w hw j u hu => Rd.snap (hr1.now hw) hx j u hu))) <;>
    (refine XL.alloc rfl rfl rfl (by intro g; infer_instance) (fun gx => ?_)) <;>
    (first | refine XL.store1 rfl rfl rfl rfl rfl ?_ | refine XL.storeN rfl rfl rfl rfl rfl rfl ?_) <;>
    (refine XL.nil ?_)) <;> (first | refine Ex.then ?_ | (refine N.next ?_ <;> (refine X.seq ?_ <;> (refine X.seq ?_ <;> (refine X.textY ?_ <;>
    (refine Y.part 3 0 [3, 4] (by kernel_rfl) rfl (L := (.op .fin 0 (.op .fin 1 (.op .fin 2 .nil)))) rfl ?_) <;>
    ((apply XL.det0F rfl rfl rfl rfl; exact D.move rfl)) <;>
    ((apply XL.detF rfl rfl rfl rfl; first | exact D.load1 rfl (fun w h => h.cellAt (Loc.at_) rfl) | exact D.loadN rfl rfl (fun w h j u hu => by rw [at_add, Nat.zero_add]; exact h.cellAt (Loc.at_) hu) | exact D.loadP rfl rfl)) <;>
    ((apply XL.detF rfl rfl rfl rfl; first | exact D.load1 rfl (fun w h => h.cellAt (Loc.at_) rfl) | exact D.loadN rfl rfl (fun w h j u hu => by rw [at_add, Nat.zero_add]; exact h.cellAt (Loc.at_) hu) | exact D.loadP rfl rfl)) <;>
    (refine XL.nil ?_) <;>
    (refine N.rest ?_) <;>
    ((refine Y.yield [J ((prs zSn l).take i)] rfl rfl rfl rfl rfl rfl (fun w F hF hm hw => (hround _ (lastS zSn l i, x) _ w F (prs_split hx) hF hm.out hw.head)) ?_; rintro v B' (⟨rfl, rfl⟩ | ⟨rfl, rfl⟩) <;> refine Y.app ?_)) <;>
    (refine Y.part 1 4 [] (by kernel_rfl) rfl (L := (.op .fin 4 .nil)) rfl ?_) <;>
    ((apply XL.det0F rfl rfl rfl rfl; exact D.not rfl)) <;>
    (refine XL.nil ?_) <;>
    (refine N.rest ?_) <;>
    (refine Y.nil ?_)) <;> (first | refine Ex.then ?_ | (refine N.next ?_ <;> ((
    refine X.cond rfl ?_ ?_; rotate_left; (focus (
    intro hc; first | exact absurd hc (by decide) | (cases hc; done) | (refine X.skip ?_))); rotate_right; (focus (
    intro hc; first | exact absurd hc (by decide) | (cases hc; done) | ((refine X.ret ?_; (repeat (first | refine Rt.then ?_ | refine Rt.block ?_ | refine Rt.scope ?_)); (first | apply Rt.done (Res.r0 Try.results86 ) | apply Rt.doneM (Res.r0 Try.results86 )); (focus (first | exact Or.inr ⟨(prs zSn l).take i ++ [(lastS zSn l i, x)], rfl⟩ | exact Or.inl rfl)); exact fun w h => h.takes))))))))) <;> (first | refine Ex.then ?_ | (refine N.next ?_ <;> (refine X.text (L := (.op .fin 0 (.op .fin 1 .nil))) rfl (by kernel_rfl) ?_ <;>
    (rw [show (prs zSn l).take i ++ [(lastS zSn l i, x)] = (prs zSn l).take (i + 1) from (by rw [List.take_add_one, prs_get zSn l i x hx]; rfl), show encQ1 x = encQ1 (lastS zSn l (i + 1)) from (by rw [lastS_succ hx])]; (apply XL.detF rfl rfl rfl rfl; exact D.loadN rfl rfl (fun w h j u hu => by rw [at_add, Nat.zero_add]; exact h.cellAt (Loc.at_) hu))) <;>
    (first | refine XL.store1 rfl rfl rfl rfl rfl ?_ | refine XL.storeN rfl rfl rfl rfl rfl rfl ?_) <;>
    (refine XL.nil ?_)))))))) <;> (first | refine N.block ?_ | refine Ex.here ?_ | refine Ex.out rfl ?_)) <;> (first | refine Ex.then ?_ | (refine N.next ?_ <;> (refine X.text (L := (.op .fin 0 (.op .fin 1 .nil))) rfl (by kernel_rfl) ?_ <;>
    ((apply XL.det0F rfl rfl rfl rfl; first | exact D.add64 rfl rfl (by omega) | exact D.int rfl rfl rfl)) <;>
    ((apply XL.det0F rfl rfl rfl rfl; exact D.move rfl)) <;>
    (refine XL.nil ?_))))))))))) <;> (first | refine Ex.then ?_ | ((refine N.again ((i + 1)) ?_ ?_ ?_ ?_; (focus (omega)); (focus (first | omega | (dsimp only; omega))); (focus (repeat (first | exact Sub.nil | refine Sub.cons rfl ?_))); exact (fun w h => h.takes))))) <;> (first | refine N.block ?_ | refine Ex.here ?_ | refine Ex.out rfl ?_)))))))) <;> ((repeat (first | refine Rt.then ?_ | refine Rt.block ?_ | refine Rt.scope ?_)); (first | apply N.done (Res.r0 Try.results86 ) | apply N.doneM (Res.r0 Try.results86 )); (focus (first | exact Or.inr ⟨(prs zSn l).take i ++ [(lastS zSn l i, x)], rfl⟩ | exact Or.inl rfl)); exact fun w h => h.takes)
theorem prs_at {z : Sn3} {l : List Sn3} {pre post : List (Sn3 × Sn3)} {y x : Sn3} (h : prs z l = pre ++ (y, x) :: post) : l[pre.length]? = some x ∧ y = lastS z l pre.length := by
  have h1 : (prs z l)[pre.length]? = some (y, x) := by rw [h]; simp
  have hlt : pre.length < l.length := by rw [← prs_len z l, h]; simp
  obtain ⟨u, hu⟩ := get_lt' hlt
  have h2 := prs_get z l _ u hu
  rw [h1] at h2
  cases h2
  exact ⟨hu, rfl⟩
theorem NamesTo.zero (l : List Sn3) : NamesTo l 0 := fun j x h => by omega
theorem NumsTo.zero (l : List Sn3) : NumsTo l 0 := fun j x h => by omega
theorem bless_nil (s : Bs) : Op.bytesLess [] s = true ↔ s ≠ [] := by
  cases s <;> simp [Op.bytesLess]
theorem bless_ne {s t : Bs} (h : Op.bytesLess s t = true) : t ≠ [] := by
  rintro rfl
  cases s <;> simp [Op.bytesLess] at h
theorem NamesTo.step {l : List Sn3} {i : Nat} {x : Sn3} (h : NamesTo l i) (hx : l[i]? = some x) (h1 : Op.bytesLess (lastS zSn l i).n x.n = true) (h2 : x.n.length ≤ 64) : NamesTo l (i + 1) := fun j u hj hu => by
  rcases Nat.lt_or_ge j i with hlt | hge
  · exact h j u hlt hu
  · obtain rfl : j = i := by omega
    rw [hx] at hu
    cases hu
    refine ⟨bless_ne h1, h2, fun y h0 hy => ?_⟩
    have : lastS zSn l j = y := by
      have := lastS_succ (z := zSn) hy
      rwa [show j - 1 + 1 = j from by omega] at this
    rw [← this]
    exact h1
theorem NamesTo.here {l : List Sn3} {i : Nat} {x : Sn3} (h : NamesTo l l.length) (hx : l[i]? = some x) : Op.bytesLess (lastS zSn l i).n x.n = true ∧ x.n.length ≤ 64 := by
  have hlt := (List.getElem?_eq_some_iff.1 hx).1
  obtain ⟨h1, h2, h3⟩ := h i x hlt hx
  refine ⟨?_, h2⟩
  by_cases h0 : i = 0
  · subst h0
    show Op.bytesLess [] x.n = true
    exact (bless_nil _).2 h1
  · obtain ⟨y, hy⟩ := get_lt' (l := l) (k := i - 1) (by omega)
    have := lastS_succ (z := zSn) hy
    rw [show i - 1 + 1 = i from by omega] at this
    rw [this]
    exact h3 y (by omega) hy
theorem NumsTo.step {l : List Sn3} {i : Nat} {x : Sn3} (hx : l[i]? = some x) : NumsTo l (i + 1) ↔ NumsTo l i ∧ nmS x.q ∧ nmS x.u := by
  constructor
  · exact fun h => ⟨fun j u hj hu => h j u (by omega) hu, h i x (by omega) hx⟩
  · rintro ⟨h, h1⟩ j u hj hu
    rcases Nat.lt_or_ge j i with hlt | hge
    · exact h j u hlt hu
    · obtain rfl : j = i := by omega
      rw [hx] at hu
      cases hu
      exact h1
/-- What holds between two rounds of Check's loop. -/
def ChkI (m : Man) (n : Nat) (r : Bool) : Prop := NamesTo m.sn n ∧ (r = true ↔ (nmS m.s ∧ 1 ≤ m.z ∧ m.z ≤ 65536) ∧ NumsTo m.sn n)
theorem bless_cons (a b : UInt8) (x y : Bs) : Op.bytesLess (a :: x) (b :: y) = true ↔ a.toNat < b.toNat ∨ (a = b ∧ Op.bytesLess x y = true) := by
  simp [Op.bytesLess, UInt8.lt_iff_toNat_lt]
theorem bless_tri : ∀ (s t : Bs), Op.bytesLess s t = true ∨ s = t ∨ Op.bytesLess t s = true
  | [], [] => .inr (.inl rfl)
  | [], _ :: _ => .inl rfl
  | _ :: _, [] => .inr (.inr rfl)
  | a :: x, b :: y => by
    rw [bless_cons, bless_cons]
    rcases Nat.lt_trichotomy a.toNat b.toNat with h | h | h
    · exact .inl (.inl h)
    · have hab : a = b := UInt8.toNat_inj.1 h
      subst hab
      rcases bless_tri x y with h1 | h1 | h1
      · exact .inl (.inr ⟨rfl, h1⟩)
      · exact .inr (.inl (by rw [h1]))
      · exact .inr (.inr (.inr ⟨rfl, h1⟩))
    · exact .inr (.inr (.inl h))
theorem bless_asymm : ∀ (s t : Bs), Op.bytesLess s t = true → Op.bytesLess t s = true → False
  | [], [], h, _ => by cases h
  | [], _ :: _, _, h => by cases h
  | _ :: _, [], h, _ => by cases h
  | a :: x, b :: y, h, k => by
    rw [bless_cons] at h k
    rcases h with h | ⟨rfl, h⟩ <;> rcases k with k | ⟨k0, k⟩
    · omega
    · subst k0; omega
    · omega
    · exact bless_asymm x y h k
theorem bless_irrefl (s : Bs) : ¬ Op.bytesLess s s = true := fun h => bless_asymm s s h h
theorem bless_trans : ∀ (s t u : Bs), Op.bytesLess s t = true → Op.bytesLess t u = true → Op.bytesLess s u = true
  | s, [], _, h, _ => by cases s <;> simp [Op.bytesLess] at h
  | _, _ :: _, [], _, k => by simp [Op.bytesLess] at k
  | [], _ :: _, _ :: _, _, _ => rfl
  | a :: x, b :: y, c :: z, h, k => by
    rw [bless_cons] at h k ⊢
    rcases h with h | ⟨rfl, h⟩ <;> rcases k with k | ⟨rfl, k⟩
    · exact .inl (by omega)
    · exact .inl h
    · exact .inl k
    · exact .inr ⟨rfl, bless_trans x y z h k⟩
theorem bless_le {s t : Bs} (h : ¬ (Op.bytesLess s t = true ∨ s = t)) : Op.bytesLess t s = true := by
  rcases bless_tri s t with h1 | h1 | h1
  · exact absurd (.inl h1) h
  · exact absurd (.inr h1) h
  · exact h1
theorem bless_not_le {s t : Bs} (h : Op.bytesLess s t = true ∨ s = t) : ¬ Op.bytesLess t s = true := fun k => by
  rcases h with h | rfl
  · exact bless_asymm _ _ h k
  · exact bless_irrefl _ k

theorem Check_spec (m : Man) (a : Option Addr) (c : Nat) (w : World) (hl : Rd w 3 a m.sn.length c (encQ m.sn)) : Spec Try.prog 35 #[.agg #[.string ⟨List.toArray m.v⟩, .int .u64 ((m.k : Nat) : Int), .int .i64 m.s, .int .i64 m.z, .string ⟨List.toArray m.b⟩, .int .i64 m.bq, .slice a m.sn.length c]] w (fun _ => False) (fun v A => ∃ e : Int, v = .int .i64 e ∧ IsChkM m e ∧ A = []) := by
  have hb := hl.bd'
  refine Spec.enter (args := [.agg #[.string ⟨List.toArray m.v⟩, .int .u64 ((m.k : Nat) : Int), .int .i64 m.s, .int .i64 m.z, .string ⟨List.toArray m.b⟩, .int .i64 m.bq, .slice a m.sn.length c]]) (A := []) Try.func35 rfl Try.ntmps35 rfl (fun _ h => h) ?_
  (refine X.seq ?_ <;> (refine X.text (L := (.op .fin 0 (.op .fin 1 .nil))) rfl (by kernel_rfl) ?_ <;>
    (refine XL.boxN rfl rfl rfl rfl (by intro g; infer_instance) (fun g1 => ?_)) <;>
    (refine XL.alloc rfl rfl rfl (by intro g; infer_instance) (fun g2 => ?_)) <;>
    (refine XL.nil ?_)) <;> (first | refine Ex.then ?_ | (refine N.next ?_ <;> (refine X.seq ?_ <;> (refine X.seq ?_ <;> (refine X.text (L := (.op .fin 0 (.op .fin 1 (.op .fin 2 (.op .fin 3 (.op .fin 4 (.op .fin 5 (.op .fin 6 (.op .fin 7 (.op .fin 8 (.op .fin 9 (.op .fin 10 (.op .fin 11 .nil))))))))))))) rfl (by kernel_rfl) ?_ <;>
    ((apply XL.det0F rfl rfl rfl rfl; first | exact D.fieldAddrB0 rfl rfl | exact D.fieldAddrB rfl rfl | exact D.fieldAddrE0 rfl rfl | exact D.fieldAddrE rfl rfl)) <;>
    ((apply XL.detF rfl rfl rfl rfl; first | exact D.load1 rfl (fun w h => h.cellAt (Loc.at_) rfl) | exact D.loadN rfl rfl (fun w h j u hu => by rw [at_add, Nat.zero_add]; exact h.cellAt (Loc.at_) hu) | exact D.loadP rfl rfl)) <;>
    ((refine XL.call rfl rfl rfl rfl (fun w hw => Volume_spec m.v w) ?_; rintro v B' ⟨rfl, rfl⟩; refine XL.both ?_); (by_cases hv : VolOK m.v <;> first | rw [if_pos hv] | rw [if_neg hv])) <;>
    (first | refine XL.cmpTF rfl rfl rfl rfl (D.int rfl rfl rfl) (by omega) ?_ | refine XL.cmpFF rfl rfl rfl rfl (D.int rfl rfl rfl) (by omega) ?_ | refine XL.splitF rfl rfl rfl rfl (D.int rfl rfl rfl) (fun _ => ?_) (fun _ => ?_) | refine XL.cmpTF rfl rfl rfl rfl (D.neS2 rfl rfl) (by omega) ?_ | refine XL.cmpFF rfl rfl rfl rfl (D.neS2 rfl rfl) (by omega) ?_ | refine XL.splitF rfl rfl rfl rfl (D.neS2 rfl rfl) (fun _ => ?_) (fun _ => ?_) | (apply XL.det0F rfl rfl rfl rfl; first | exact D.neNilS rfl rfl | exact D.boolNe rfl rfl | exact D.neNilP rfl rfl)) <;>
    ((apply XL.det0F rfl rfl rfl rfl; exact D.move rfl)) <;>
    (first | refine XL.skipF rfl rfl rfl rfl ?_ | ((apply XL.det0F rfl rfl rfl rfl; first | exact D.fieldAddrB0 rfl rfl | exact D.fieldAddrB rfl rfl | exact D.fieldAddrE0 rfl rfl | exact D.fieldAddrE rfl rfl))) <;>
    (first | refine XL.skipF rfl rfl rfl rfl ?_ | ((apply XL.detF rfl rfl rfl rfl; first | exact D.load1 rfl (fun w h => h.cellAt (Loc.at_) rfl) | exact D.loadN rfl rfl (fun w h j u hu => by rw [at_add, Nat.zero_add]; exact h.cellAt (Loc.at_) hu) | exact D.loadP rfl rfl))) <;>
    (first | refine XL.skipF rfl rfl rfl rfl ?_ | ((apply XL.det0F rfl rfl rfl rfl; first | exact D.fieldAddrB0 rfl rfl | exact D.fieldAddrB rfl rfl | exact D.fieldAddrE0 rfl rfl | exact D.fieldAddrE rfl rfl))) <;>
    (first | refine XL.skipF rfl rfl rfl rfl ?_ | ((apply XL.detF rfl rfl rfl rfl; first | exact D.load1 rfl (fun w h => h.cellAt (Loc.at_) rfl) | exact D.loadN rfl rfl (fun w h j u hu => by rw [at_add, Nat.zero_add]; exact h.cellAt (Loc.at_) hu) | exact D.loadP rfl rfl))) <;>
    (first | refine XL.skipF rfl rfl rfl rfl ?_ | (first | refine XL.skipC rfl rfl rfl rfl ?_ | refine XL.skipF rfl rfl rfl rfl ?_ | ((refine XL.call rfl rfl rfl rfl (fun w hw => may_spec m.v m.b m.bq w) ?_; rintro v B' ⟨rfl, rfl⟩; refine XL.both ?_); (by_cases hbs : BaseOK m.v m.b m.bq <;> first | rw [decide_eq_true hbs] | rw [decide_eq_false hbs])))) <;>
    (first | refine XL.skipF rfl rfl rfl rfl ?_ | ((apply XL.det0F rfl rfl rfl rfl; exact D.not rfl))) <;>
    ((apply XL.det0F rfl rfl rfl rfl; first | exact D.pickT rfl rfl | exact D.pickF rfl rfl | exact D.pick rfl rfl rfl)) <;>
    (refine XL.nil ?_)) <;> (first | refine Ex.then ?_ | (refine N.next ?_ <;> ((
    refine X.cond rfl ?_ ?_; rotate_left; (focus (
    intro hc; first | exact absurd hc (by decide) | (cases hc; done) | (refine X.skip ?_))); rotate_right; (focus (
    intro hc; first | exact absurd hc (by decide) | (cases hc; done) | (refine X.seq ?_ <;> (refine X.text (L := (.op .fin 0 .nil)) rfl (by kernel_rfl) ?_ <;>
    (first | refine XL.store1 rfl rfl rfl rfl rfl ?_ | refine XL.storeN rfl rfl rfl rfl rfl rfl ?_) <;>
    (refine XL.nil ?_)) <;> (first | refine Ex.then ?_ | (refine N.next ?_ <;> ((refine X.ret ?_; (repeat (first | refine Rt.then ?_ | refine Rt.block ?_ | refine Rt.scope ?_)); (first | apply Rt.done (Res.r1 Try.results35 (by first | exact RV.cell rfl rfl | exact RV.cell1 rfl)) | apply Rt.doneM (Res.r1 Try.results35 (by first | exact RV.cell rfl rfl | exact RV.cell1 rfl))); (focus (first | exact ⟨1, rfl, .inl ⟨.inl hv, rfl⟩, rfl⟩ | exact ⟨1, rfl, .inl ⟨.inr (.inl hbs), rfl⟩, rfl⟩ | exact ⟨1, rfl, .inl ⟨.inr (.inr hk), rfl⟩, rfl⟩ | exact ⟨31, rfl, .inr ⟨⟨hv, hbs, hnm⟩, .inl ⟨fun ⟨u1, u2, u3, u4⟩ => absurd (hnu.2 ⟨⟨u1, u2, u3⟩, u4⟩) (by simp), rfl⟩⟩, rfl⟩ | exact ⟨32, rfl, .inr ⟨⟨hv, hbs, hnm⟩, .inr ⟨⟨(hnu.1 rfl).1.1, (hnu.1 rfl).1.2.1, (hnu.1 rfl).1.2.2, (hnu.1 rfl).2⟩, .inl ⟨by omega, rfl⟩⟩⟩, rfl⟩ | exact ⟨0, rfl, .inr ⟨⟨hv, hbs, hnm⟩, .inr ⟨⟨(hnu.1 rfl).1.1, (hnu.1 rfl).1.2.1, (hnu.1 rfl).1.2.2, (hnu.1 rfl).2⟩, .inr ⟨by omega, rfl⟩⟩⟩, rfl⟩)); exact fun w h => h.takes)))))))))))) <;> (first | refine Ex.then ?_ | (refine N.next ?_ <;> (refine X.seq ?_ <;> (refine X.text (L := (.op .fin 0 (.op .fin 1 (.op .fin 2 (.op .fin 3 (.op .fin 4 (.op .fin 5 (.op .fin 6 (.op .fin 7 (.op .fin 8 (.op .fin 9 (.op .fin 10 (.op .fin 11 (.op .fin 12 (.op .fin 13 (.op .fin 14 .nil)))))))))))))))) rfl (by kernel_rfl) ?_ <;>
    ((apply XL.det0F rfl rfl rfl rfl; first | exact D.fieldAddrB0 rfl rfl | exact D.fieldAddrB rfl rfl | exact D.fieldAddrE0 rfl rfl | exact D.fieldAddrE rfl rfl)) <;>
    ((apply XL.detF rfl rfl rfl rfl; first | exact D.load1 rfl (fun w h => h.cellAt (Loc.at_) rfl) | exact D.loadN rfl rfl (fun w h j u hu => by rw [at_add, Nat.zero_add]; exact h.cellAt (Loc.at_) hu) | exact D.loadP rfl rfl)) <;>
    ((refine XL.call rfl rfl rfl rfl (fun w hw => mNumber_spec m.s w) ?_; rintro v B' ⟨rfl, rfl⟩; refine XL.both ?_); (by_cases hs : nmS m.s <;> first | rw [decide_eq_true hs] | rw [decide_eq_false hs])) <;>
    ((apply XL.det0F rfl rfl rfl rfl; exact D.move rfl)) <;>
    (first | refine XL.skipF rfl rfl rfl rfl ?_ | ((apply XL.det0F rfl rfl rfl rfl; first | exact D.fieldAddrB0 rfl rfl | exact D.fieldAddrB rfl rfl | exact D.fieldAddrE0 rfl rfl | exact D.fieldAddrE rfl rfl))) <;>
    (first | refine XL.skipF rfl rfl rfl rfl ?_ | ((apply XL.detF rfl rfl rfl rfl; first | exact D.load1 rfl (fun w h => h.cellAt (Loc.at_) rfl) | exact D.loadN rfl rfl (fun w h j u hu => by rw [at_add, Nat.zero_add]; exact h.cellAt (Loc.at_) hu) | exact D.loadP rfl rfl))) <;>
    (first | refine XL.skipF rfl rfl rfl rfl ?_ | (first | refine XL.skip0 rfl rfl rfl rfl ?_ | refine XL.skipF rfl rfl rfl rfl ?_ | refine XL.split0 rfl rfl rfl rfl (D.int rfl rfl rfl) (fun hz => ?_) (fun hz => ?_) | refine XL.splitF rfl rfl rfl rfl (D.int rfl rfl rfl) (fun hz => ?_) (fun hz => ?_))) <;>
    ((apply XL.det0F rfl rfl rfl rfl; first | exact D.pickT rfl rfl | exact D.pickF rfl rfl | exact D.pick rfl rfl rfl)) <;>
    ((apply XL.det0F rfl rfl rfl rfl; exact D.move rfl)) <;>
    (first | refine XL.skipF rfl rfl rfl rfl ?_ | ((apply XL.det0F rfl rfl rfl rfl; first | exact D.fieldAddrB0 rfl rfl | exact D.fieldAddrB rfl rfl | exact D.fieldAddrE0 rfl rfl | exact D.fieldAddrE rfl rfl))) <;>
    (first | refine XL.skipF rfl rfl rfl rfl ?_ | ((apply XL.detF rfl rfl rfl rfl; first | exact D.load1 rfl (fun w h => h.cellAt (Loc.at_) rfl) | exact D.loadN rfl rfl (fun w h j u hu => by rw [at_add, Nat.zero_add]; exact h.cellAt (Loc.at_) hu) | exact D.loadP rfl rfl))) <;>
    (first | refine XL.skipF rfl rfl rfl rfl ?_ | (first | refine XL.skip0 rfl rfl rfl rfl ?_ | refine XL.skipF rfl rfl rfl rfl ?_ | refine XL.split0 rfl rfl rfl rfl (D.int rfl rfl rfl) (fun hz2 => ?_) (fun hz2 => ?_) | refine XL.splitF rfl rfl rfl rfl (D.int rfl rfl rfl) (fun hz2 => ?_) (fun hz2 => ?_))) <;>
    ((apply XL.det0F rfl rfl rfl rfl; first | exact D.pickT rfl rfl | exact D.pickF rfl rfl | exact D.pick rfl rfl rfl)) <;>
    (refine XL.alloc rfl rfl rfl (by intro g; infer_instance) (fun g3 => ?_)) <;>
    (first | refine XL.store1 rfl rfl rfl rfl rfl ?_ | refine XL.storeN rfl rfl rfl rfl rfl rfl ?_) <;>
    (refine XL.nil ?_)) <;> (first | refine Ex.then ?_ | (refine N.next ?_ <;> (refine X.seq ?_ <;> (refine X.seq ?_ <;> (refine X.text (L := (.op .fin 0 (.op .fin 1 (.op .fin 2 .nil)))) rfl (by kernel_rfl) ?_ <;>
    ((apply XL.det0F rfl rfl rfl rfl; first | exact D.fieldAddrB0 rfl rfl | exact D.fieldAddrB rfl rfl | exact D.fieldAddrE0 rfl rfl | exact D.fieldAddrE rfl rfl)) <;>
    ((apply XL.detF rfl rfl rfl rfl; first | exact D.load1 rfl (fun w h => h.cellAt (Loc.at_) rfl) | exact D.loadN rfl rfl (fun w h j u hu => by rw [at_add, Nat.zero_add]; exact h.cellAt (Loc.at_) hu) | exact D.loadP rfl rfl)) <;>
    ((refine XL.call rfl rfl rfl rfl (fun w hw => pairs_spec w (.slice a m.sn.length c) rfl) ?_; rintro v B' ⟨gp, rfl, rfl⟩; refine XL.both ?_)) <;>
    (refine XL.nil ?_)) <;> (first | refine Ex.then ?_ | (refine N.next ?_ <;> (refine X.block ?_ <;> (((first | refine X.rangeF (α := Sn3 × Sn3) (ι := Bool) (κ := Bool) (gf := 86) (lb := [.pointer (some ⟨gp, 0, none⟩)]) (encs := encP) (xs := prs zSn m.sn) ([cells g3 [.bool true] 4, cells g2 [.int .i64 0] 30]) (fun pre r => ChkI m pre.length r) (fun _ r => [cells g3 [.bool r] 4, cells g2 [.int .i64 0] 30]) (fun _ => ¬ NamesTo m.sn m.sn.length) (fun _ => .ret) (fun r => [cells g3 [.bool r] 4, cells g2 [.int .i64 1] 30]) rfl rfl rfl (fun _ => rfl) rfl (true) (by refine ⟨NamesTo.zero _, ?_⟩; first | exact ⟨fun _ => ⟨⟨hs, by omega, by omega⟩, NumsTo.zero _⟩, fun _ => rfl⟩ | exact ⟨fun h => (by cases h), fun h => absurd h (fun h => by first | exact hs h.1.1 | (have := h.1.2; omega))⟩) rfl (fun w F hF hm hw => pairs_iter w F gp a c m.sn (hm.cell (g := gp) (k := 0) rfl) (RdX.call0 hl hw hm)) ?_ ?_ ?_ | refine X.rangeF (α := Sn3 × Sn3) (ι := Bool) (κ := Bool) (gf := 86) (lb := [.pointer (some ⟨gp, 0, none⟩)]) (encs := encP) (xs := prs zSn m.sn) ([cells g3 [.bool false] 4, cells g2 [.int .i64 0] 30]) (fun pre r => ChkI m pre.length r) (fun _ r => [cells g3 [.bool r] 4, cells g2 [.int .i64 0] 30]) (fun _ => ¬ NamesTo m.sn m.sn.length) (fun _ => .ret) (fun r => [cells g3 [.bool r] 4, cells g2 [.int .i64 1] 30]) rfl rfl rfl (fun _ => rfl) rfl (false) (by refine ⟨NamesTo.zero _, ?_⟩; first | exact ⟨fun _ => ⟨⟨hs, by omega, by omega⟩, NumsTo.zero _⟩, fun _ => rfl⟩ | exact ⟨fun h => (by cases h), fun h => absurd h (fun h => by first | exact hs h.1.1 | (have := h.1.2; omega))⟩) rfl (fun w F hF hm hw => pairs_iter w F gp a c m.sn (hm.cell (g := gp) (k := 0) rfl) (RdX.call0 hl hw hm)) ?_ ?_ ?_); (focus ((rintro pre x post i_ l_ D_ r_ W_ F_ R_ hxs hi hF hm hRt hRf; (obtain ⟨y, x⟩ := x; obtain ⟨hx, hy⟩ := prs_at hxs; obtain ⟨hnm, hnu⟩ := hi; have hil : pre.length < m.sn.length := ((List.getElem?_eq_some_iff.1 hx).1); subst hy; dsimp only [encP]); dsimp only [puts]; (refine X.seq ?_ <;> (refine X.text (L := (.op .fin 0 (.op .fin 1 .nil))) rfl (by kernel_rfl) ?_ <;>
    (refine XL.alloc rfl rfl rfl (by intro g; infer_instance) (fun g => ?_)) <;>
    (first | refine XL.store1 rfl rfl rfl rfl rfl ?_ | refine XL.storeN rfl rfl rfl rfl rfl rfl ?_) <;>
    (refine XL.nil ?_)) <;> (first | refine Ex.then ?_ | (refine N.next ?_ <;> (refine X.text (L := (.op .fin 0 (.op .fin 1 .nil))) rfl (by kernel_rfl) ?_ <;>
    (refine XL.alloc rfl rfl rfl (by intro g; infer_instance) (fun g => ?_)) <;>
    (first | refine XL.store1 rfl rfl rfl rfl rfl ?_ | refine XL.storeN rfl rfl rfl rfl rfl rfl ?_) <;>
    (refine XL.nil ?_))))) <;> (refine N.begin ?_ <;> (refine X.block ?_ <;> (refine X.seq ?_ <;> (refine X.seq ?_ <;> (refine X.text (L := (.op .fin 0 (.op .fin 1 (.op .fin 2 (.op .fin 3 (.op .fin 4 (.op .fin 5 (.op .fin 6 (.op .fin 7 (.op .fin 8 (.op .fin 9 (.op .fin 10 .nil)))))))))))) rfl (by kernel_rfl) ?_ <;>
    ((apply XL.det0F rfl rfl rfl rfl; first | exact D.fieldAddrB0 rfl rfl | exact D.fieldAddrB rfl rfl | exact D.fieldAddrE0 rfl rfl | exact D.fieldAddrE rfl rfl)) <;>
    ((apply XL.detF rfl rfl rfl rfl; first | exact D.load1 rfl (fun w h => h.cellAt (Loc.at_) rfl) | exact D.loadN rfl rfl (fun w h j u hu => by rw [at_add, Nat.zero_add]; exact h.cellAt (Loc.at_) hu) | exact D.loadP rfl rfl)) <;>
    ((apply XL.det0F rfl rfl rfl rfl; first | exact D.fieldAddrB0 rfl rfl | exact D.fieldAddrB rfl rfl | exact D.fieldAddrE0 rfl rfl | exact D.fieldAddrE rfl rfl)) <;>
    ((apply XL.detF rfl rfl rfl rfl; first | exact D.load1 rfl (fun w h => h.cellAt (Loc.at_) rfl) | exact D.loadN rfl rfl (fun w h j u hu => by rw [at_add, Nat.zero_add]; exact h.cellAt (Loc.at_) hu) | exact D.loadP rfl rfl)) <;>
    (first | refine XL.split0 rfl rfl rfl rfl (D.strLe rfl rfl) (fun h1 => ?_) (fun h1 => ?_) | refine XL.splitF rfl rfl rfl rfl (D.strLe rfl rfl) (fun h1 => ?_) (fun h1 => ?_)) <;>
    ((apply XL.det0F rfl rfl rfl rfl; exact D.move rfl)) <;>
    (first | refine XL.skipF rfl rfl rfl rfl ?_ | ((apply XL.det0F rfl rfl rfl rfl; first | exact D.fieldAddrB0 rfl rfl | exact D.fieldAddrB rfl rfl | exact D.fieldAddrE0 rfl rfl | exact D.fieldAddrE rfl rfl))) <;>
    (first | refine XL.skipF rfl rfl rfl rfl ?_ | ((apply XL.detF rfl rfl rfl rfl; first | exact D.load1 rfl (fun w h => h.cellAt (Loc.at_) rfl) | exact D.loadN rfl rfl (fun w h j u hu => by rw [at_add, Nat.zero_add]; exact h.cellAt (Loc.at_) hu) | exact D.loadP rfl rfl))) <;>
    (first | refine XL.skipF rfl rfl rfl rfl ?_ | ((apply XL.det0F rfl rfl rfl rfl; first | exact D.len rfl | exact D.lenL rfl | exact D.lenS rfl))) <;>
    (first | refine XL.skipF rfl rfl rfl rfl ?_ | (first | refine XL.skip0 rfl rfl rfl rfl ?_ | refine XL.skipF rfl rfl rfl rfl ?_ | refine XL.split0 rfl rfl rfl rfl (D.int rfl rfl rfl) (fun h2 => ?_) (fun h2 => ?_) | refine XL.splitF rfl rfl rfl rfl (D.int rfl rfl rfl) (fun h2 => ?_) (fun h2 => ?_))) <;>
    ((apply XL.det0F rfl rfl rfl rfl; first | exact D.pickT rfl rfl | exact D.pickF rfl rfl | exact D.pick rfl rfl rfl)) <;>
    (refine XL.nil ?_)) <;> (first | refine Ex.then ?_ | (refine N.next ?_ <;> ((
    refine X.cond rfl ?_ ?_; rotate_left; (focus (
    intro hc; first | exact absurd hc (by decide) | (cases hc; done) | (refine X.skip ?_))); rotate_right; (focus (
    intro hc; first | exact absurd hc (by decide) | (cases hc; done) | (refine X.seq ?_ <;> (refine X.text (L := (.op .fin 0 .nil)) rfl (by kernel_rfl) ?_ <;>
    (first | refine XL.store1 rfl rfl rfl rfl rfl ?_ | refine XL.storeN rfl rfl rfl rfl rfl rfl ?_) <;>
    (refine XL.nil ?_)) <;> (first | refine Ex.then ?_ | (refine N.next ?_ <;> ((refine X.ret ?_; (repeat (first | refine Rt.then ?_ | refine Rt.block ?_ | refine Rt.scope ?_)); (refine Rt.leave (hRf _ ⟨i_, ?_, rfl⟩) (fun w h => h.takes); (focus (exact fun h => by first | exact bless_not_le h1 (h.here hx).1 | (have := (h.here hx).2; omega)))))))))))))))) <;> (first | refine Ex.then ?_ | (refine N.next ?_ <;> (refine X.text (L := (.op .fin 0 (.op .fin 1 (.op .fin 2 (.op .fin 3 (.op .fin 4 (.op .fin 5 (.op .fin 6 (.op .fin 7 (.op .fin 8 (.op .fin 9 (.op .fin 10 (.op .fin 11 .nil))))))))))))) rfl (by kernel_rfl) ?_ <;>
    ((have hst := hnm.step hx (bless_le h1) (by omega)); (cases i_ <;> ((first | apply XL.det1 rfl rfl rfl rfl | apply XL.detF rfl rfl rfl rfl); exact D.load1 rfl (fun w h => h.cellAt (Loc.at_) rfl)))) <;>
    ((apply XL.det0F rfl rfl rfl rfl; exact D.move rfl)) <;>
    (first | refine XL.skipF rfl rfl rfl rfl ?_ | ((apply XL.det0F rfl rfl rfl rfl; first | exact D.fieldAddrB0 rfl rfl | exact D.fieldAddrB rfl rfl | exact D.fieldAddrE0 rfl rfl | exact D.fieldAddrE rfl rfl))) <;>
    (first | refine XL.skipF rfl rfl rfl rfl ?_ | ((apply XL.detF rfl rfl rfl rfl; first | exact D.load1 rfl (fun w h => h.cellAt (Loc.at_) rfl) | exact D.loadN rfl rfl (fun w h j u hu => by rw [at_add, Nat.zero_add]; exact h.cellAt (Loc.at_) hu) | exact D.loadP rfl rfl))) <;>
    (first | refine XL.skipF rfl rfl rfl rfl ?_ | (first | refine XL.skipC rfl rfl rfl rfl ?_ | refine XL.skipF rfl rfl rfl rfl ?_ | ((refine XL.call rfl rfl rfl rfl (fun w hw => mNumber_spec x.q w) ?_; rintro v B' ⟨rfl, rfl⟩; refine XL.both ?_); (by_cases h3 : nmS x.q <;> first | rw [decide_eq_true h3] | rw [decide_eq_false h3])))) <;>
    ((apply XL.det0F rfl rfl rfl rfl; first | exact D.pickT rfl rfl | exact D.pickF rfl rfl | exact D.pick rfl rfl rfl)) <;>
    ((apply XL.det0F rfl rfl rfl rfl; exact D.move rfl)) <;>
    (first | refine XL.skipF rfl rfl rfl rfl ?_ | ((apply XL.det0F rfl rfl rfl rfl; first | exact D.fieldAddrB0 rfl rfl | exact D.fieldAddrB rfl rfl | exact D.fieldAddrE0 rfl rfl | exact D.fieldAddrE rfl rfl))) <;>
    (first | refine XL.skipF rfl rfl rfl rfl ?_ | ((apply XL.detF rfl rfl rfl rfl; first | exact D.load1 rfl (fun w h => h.cellAt (Loc.at_) rfl) | exact D.loadN rfl rfl (fun w h j u hu => by rw [at_add, Nat.zero_add]; exact h.cellAt (Loc.at_) hu) | exact D.loadP rfl rfl))) <;>
    (first | refine XL.skipF rfl rfl rfl rfl ?_ | (first | refine XL.skipC rfl rfl rfl rfl ?_ | refine XL.skipF rfl rfl rfl rfl ?_ | ((refine XL.call rfl rfl rfl rfl (fun w hw => mNumber_spec x.u w) ?_; rintro v B' ⟨rfl, rfl⟩; refine XL.both ?_); (by_cases h4 : nmS x.u <;> first | rw [decide_eq_true h4] | rw [decide_eq_false h4])))) <;>
    ((apply XL.det0F rfl rfl rfl rfl; first | exact D.pickT rfl rfl | exact D.pickF rfl rfl | exact D.pick rfl rfl rfl)) <;>
    (first | refine XL.store1 rfl rfl rfl rfl rfl ?_ | refine XL.storeN rfl rfl rfl rfl rfl rfl ?_) <;>
    (refine XL.nil ?_))))) <;> (first | refine N.block ?_ | refine Ex.here ?_ | refine Ex.out rfl ?_))) <;> (first | (refine N.goOn (hRt _ ⟨true, ?_, rfl⟩) (fun w h => h.takes); (focus (rw [List.length_append]; exact ⟨hst, by rw [List.length_singleton, NumsTo.step hx]; exact ⟨fun _ => ⟨(hnu.1 rfl).1, (hnu.1 rfl).2, h3, h4⟩, fun _ => rfl⟩⟩))) | (refine N.goOn (hRt _ ⟨false, ?_, rfl⟩) (fun w h => h.takes); (focus (rw [List.length_append]; exact ⟨hst, by rw [List.length_singleton, NumsTo.step hx]; exact ⟨fun h => (by cases h), fun h => absurd h (fun ⟨u1, u2, u3, u4⟩ => by first | exact h3 u3 | exact h4 u4 | exact absurd (hnu.2 ⟨u1, u2⟩) (by simp))⟩⟩))) | (refine Ex.leave (hRf _ ⟨i_, ?_, rfl⟩) (fun w h => h.takes); (focus (exact fun h => by first | exact bless_not_le h1 (h.here hx).1 | (have := (h.here hx).2; omega)))))))); rotate_left; (focus ((rintro k_ D_ hk; (try dsimp only [List.cons_append, List.nil_append]); (skip); (first | (refine X.ret ?_; (repeat (first | refine Rt.then ?_ | refine Rt.block ?_ | refine Rt.scope ?_)); (first | apply Rt.doneM (Res.r1 Try.results35 (by first | exact RV.cell rfl rfl | exact RV.cell1 rfl))); (focus (first | exact ⟨1, rfl, .inl ⟨.inl hv, rfl⟩, rfl⟩ | exact ⟨1, rfl, .inl ⟨.inr (.inl hbs), rfl⟩, rfl⟩ | exact ⟨1, rfl, .inl ⟨.inr (.inr hk), rfl⟩, rfl⟩ | exact ⟨31, rfl, .inr ⟨⟨hv, hbs, hnm⟩, .inl ⟨fun ⟨u1, u2, u3, u4⟩ => absurd (hnu.2 ⟨⟨u1, u2, u3⟩, u4⟩) (by simp), rfl⟩⟩, rfl⟩ | exact ⟨32, rfl, .inr ⟨⟨hv, hbs, hnm⟩, .inr ⟨⟨(hnu.1 rfl).1.1, (hnu.1 rfl).1.2.1, (hnu.1 rfl).1.2.2, (hnu.1 rfl).2⟩, .inl ⟨by omega, rfl⟩⟩⟩, rfl⟩ | exact ⟨0, rfl, .inr ⟨⟨hv, hbs, hnm⟩, .inr ⟨⟨(hnu.1 rfl).1.1, (hnu.1 rfl).1.2.1, (hnu.1 rfl).1.2.2, (hnu.1 rfl).2⟩, .inr ⟨by omega, rfl⟩⟩⟩, rfl⟩)); exact fun w h => h.takes) | refine X.exit ?_)))); (rintro i_ D_ hi; (try dsimp only [List.cons_append, List.nil_append]); (obtain ⟨hnm, hnu⟩ := hi; rw [prs_len] at hnm hnu; cases i_)))) <;> (first | refine N.block ?_ | refine Ex.here ?_ | refine Ex.out rfl ?_))))) <;> (first | refine Ex.then ?_ | (refine N.next ?_ <;> (refine X.seq ?_ <;> (refine X.block ?_ <;> (refine X.seq ?_ <;> (refine X.text (L := (.op .fin 0 (.op .fin 1 (.op .fin 2 .nil)))) rfl (by kernel_rfl) ?_ <;>
    ((apply XL.detF rfl rfl rfl rfl; first | exact D.load1 rfl (fun w h => h.cellAt (Loc.at_) rfl) | exact D.loadN rfl rfl (fun w h j u hu => by rw [at_add, Nat.zero_add]; exact h.cellAt (Loc.at_) hu) | exact D.loadP rfl rfl)) <;>
    ((apply XL.det0F rfl rfl rfl rfl; exact D.not rfl)) <;>
    ((apply XL.det0F rfl rfl rfl rfl; exact D.assign rfl)) <;>
    (refine XL.nil ?_)) <;> (first | refine Ex.then ?_ | (refine N.next ?_ <;> ((
    refine X.cond rfl ?_ ?_; rotate_left; (focus (
    intro hc; first | exact absurd hc (by decide) | (cases hc; done) | (refine X.seq ?_ <;> (refine X.text (L := (.op .fin 0 (.op .fin 1 (.op .fin 2 (.op .fin 3 (.op .fin 4 .nil)))))) rfl (by kernel_rfl) ?_ <;>
    ((apply XL.det0F rfl rfl rfl rfl; first | exact D.fieldAddrB0 rfl rfl | exact D.fieldAddrB rfl rfl | exact D.fieldAddrE0 rfl rfl | exact D.fieldAddrE rfl rfl)) <;>
    ((apply XL.detF rfl rfl rfl rfl; first | exact D.load1 rfl (fun w h => h.cellAt (Loc.at_) rfl) | exact D.loadN rfl rfl (fun w h j u hu => by rw [at_add, Nat.zero_add]; exact h.cellAt (Loc.at_) hu) | exact D.loadP rfl rfl)) <;>
    ((apply XL.det0F rfl rfl rfl rfl; first | exact D.len rfl | exact D.lenL rfl | exact D.lenS rfl)) <;>
    (first | refine XL.splitF rfl rfl rfl rfl (D.int rfl rfl rfl) (fun h5 => ?_) (fun h5 => ?_)) <;>
    ((apply XL.det0F rfl rfl rfl rfl; exact D.assign rfl)) <;>
    (refine XL.nil ?_)) <;> (first | refine Ex.then ?_ | (refine N.next ?_ <;> ((
    refine X.cond rfl ?_ ?_; rotate_left; (focus (
    intro hc; first | exact absurd hc (by decide) | (cases hc; done) | (refine X.skip ?_))); rotate_right; (focus (
    intro hc; first | exact absurd hc (by decide) | (cases hc; done) | (refine X.seq ?_ <;> (refine X.text (L := (.op .fin 0 .nil)) rfl (by kernel_rfl) ?_ <;>
    (first | refine XL.store1 rfl rfl rfl rfl rfl ?_ | refine XL.storeN rfl rfl rfl rfl rfl rfl ?_) <;>
    (refine XL.nil ?_)) <;> (first | refine Ex.then ?_ | (refine N.next ?_ <;> ((refine X.ret ?_; (repeat (first | refine Rt.then ?_ | refine Rt.block ?_ | refine Rt.scope ?_)); (first | apply Rt.done (Res.r1 Try.results35 (by first | exact RV.cell rfl rfl | exact RV.cell1 rfl)) | apply Rt.doneM (Res.r1 Try.results35 (by first | exact RV.cell rfl rfl | exact RV.cell1 rfl))); (focus (first | exact ⟨1, rfl, .inl ⟨.inl hv, rfl⟩, rfl⟩ | exact ⟨1, rfl, .inl ⟨.inr (.inl hbs), rfl⟩, rfl⟩ | exact ⟨1, rfl, .inl ⟨.inr (.inr hk), rfl⟩, rfl⟩ | exact ⟨31, rfl, .inr ⟨⟨hv, hbs, hnm⟩, .inl ⟨fun ⟨u1, u2, u3, u4⟩ => absurd (hnu.2 ⟨⟨u1, u2, u3⟩, u4⟩) (by simp), rfl⟩⟩, rfl⟩ | exact ⟨32, rfl, .inr ⟨⟨hv, hbs, hnm⟩, .inr ⟨⟨(hnu.1 rfl).1.1, (hnu.1 rfl).1.2.1, (hnu.1 rfl).1.2.2, (hnu.1 rfl).2⟩, .inl ⟨by omega, rfl⟩⟩⟩, rfl⟩ | exact ⟨0, rfl, .inr ⟨⟨hv, hbs, hnm⟩, .inr ⟨⟨(hnu.1 rfl).1.1, (hnu.1 rfl).1.2.1, (hnu.1 rfl).1.2.2, (hnu.1 rfl).2⟩, .inr ⟨by omega, rfl⟩⟩⟩, rfl⟩)); exact fun w h => h.takes)))))))))))))); rotate_right; (focus (
    intro hc; first | exact absurd hc (by decide) | (cases hc; done) | (refine X.seq ?_ <;> (refine X.text (L := (.op .fin 0 .nil)) rfl (by kernel_rfl) ?_ <;>
    (first | refine XL.store1 rfl rfl rfl rfl rfl ?_ | refine XL.storeN rfl rfl rfl rfl rfl rfl ?_) <;>
    (refine XL.nil ?_)) <;> (first | refine Ex.then ?_ | (refine N.next ?_ <;> ((refine X.ret ?_; (repeat (first | refine Rt.then ?_ | refine Rt.block ?_ | refine Rt.scope ?_)); (first | apply Rt.done (Res.r1 Try.results35 (by first | exact RV.cell rfl rfl | exact RV.cell1 rfl)) | apply Rt.doneM (Res.r1 Try.results35 (by first | exact RV.cell rfl rfl | exact RV.cell1 rfl))); (focus (first | exact ⟨1, rfl, .inl ⟨.inl hv, rfl⟩, rfl⟩ | exact ⟨1, rfl, .inl ⟨.inr (.inl hbs), rfl⟩, rfl⟩ | exact ⟨1, rfl, .inl ⟨.inr (.inr hk), rfl⟩, rfl⟩ | exact ⟨31, rfl, .inr ⟨⟨hv, hbs, hnm⟩, .inl ⟨fun ⟨u1, u2, u3, u4⟩ => absurd (hnu.2 ⟨⟨u1, u2, u3⟩, u4⟩) (by simp), rfl⟩⟩, rfl⟩ | exact ⟨32, rfl, .inr ⟨⟨hv, hbs, hnm⟩, .inr ⟨⟨(hnu.1 rfl).1.1, (hnu.1 rfl).1.2.1, (hnu.1 rfl).1.2.2, (hnu.1 rfl).2⟩, .inl ⟨by omega, rfl⟩⟩⟩, rfl⟩ | exact ⟨0, rfl, .inr ⟨⟨hv, hbs, hnm⟩, .inr ⟨⟨(hnu.1 rfl).1.1, (hnu.1 rfl).1.2.1, (hnu.1 rfl).1.2.2, (hnu.1 rfl).2⟩, .inr ⟨by omega, rfl⟩⟩⟩, rfl⟩)); exact fun w h => h.takes)))))))))))) <;> (first | refine N.block ?_ | refine Ex.here ?_ | refine Ex.out rfl ?_)) <;> (first | refine Ex.then ?_ | (refine N.next ?_ <;> (refine X.seq ?_ <;> (refine X.text (L := (.op .fin 0 .nil)) rfl (by kernel_rfl) ?_ <;>
    (first | refine XL.store1 rfl rfl rfl rfl rfl ?_ | refine XL.storeN rfl rfl rfl rfl rfl rfl ?_) <;>
    (refine XL.nil ?_)) <;> (first | refine Ex.then ?_ | (refine N.next ?_ <;> ((refine X.ret ?_; (repeat (first | refine Rt.then ?_ | refine Rt.block ?_ | refine Rt.scope ?_)); (first | apply Rt.done (Res.r1 Try.results35 (by first | exact RV.cell rfl rfl | exact RV.cell1 rfl)) | apply Rt.doneM (Res.r1 Try.results35 (by first | exact RV.cell rfl rfl | exact RV.cell1 rfl))); (focus (first | exact ⟨1, rfl, .inl ⟨.inl hv, rfl⟩, rfl⟩ | exact ⟨1, rfl, .inl ⟨.inr (.inl hbs), rfl⟩, rfl⟩ | exact ⟨1, rfl, .inl ⟨.inr (.inr hk), rfl⟩, rfl⟩ | exact ⟨31, rfl, .inr ⟨⟨hv, hbs, hnm⟩, .inl ⟨fun ⟨u1, u2, u3, u4⟩ => absurd (hnu.2 ⟨⟨u1, u2, u3⟩, u4⟩) (by simp), rfl⟩⟩, rfl⟩ | exact ⟨32, rfl, .inr ⟨⟨hv, hbs, hnm⟩, .inr ⟨⟨(hnu.1 rfl).1.1, (hnu.1 rfl).1.2.1, (hnu.1 rfl).1.2.2, (hnu.1 rfl).2⟩, .inl ⟨by omega, rfl⟩⟩⟩, rfl⟩ | exact ⟨0, rfl, .inr ⟨⟨hv, hbs, hnm⟩, .inr ⟨⟨(hnu.1 rfl).1.1, (hnu.1 rfl).1.2.1, (hnu.1 rfl).1.2.2, (hnu.1 rfl).2⟩, .inr ⟨by omega, rfl⟩⟩⟩, rfl⟩)); exact fun w h => h.takes))))))))))))))))))))
end Go.Lx
