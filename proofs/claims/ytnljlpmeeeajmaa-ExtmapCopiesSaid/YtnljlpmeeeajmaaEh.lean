/- Package extmap's walks, part h: puts, cuts, moves. -/
import Derived.Test.YtnljlpmeeeajmaaEi
namespace Go.Lx
open Go.Proofs
set_option linter.unusedVariables false
set_option linter.unusedSimpArgs false
set_option maxRecDepth 20000
set_option maxHeartbeats 2000000

theorem all_mayE {l : List Ext} (h : (l.any fun x => decide (¬ mayE x)) = false) : ∀ x ∈ l, mayE x := fun x hx => by
  have := List.any_eq_false.1 h x hx
  simpa using this
theorem not_mayE {l : List Ext} (h : (l.any fun x => decide (¬ mayE x)) = true) : ¬ ∀ x ∈ l, mayE x := fun hall => by
  obtain ⟨x, hx, hm⟩ := List.any_eq_true.1 h
  simp at hm
  exact hm (hall x hx)
theorem all_mayS {l : List Sp} (h : (l.any fun x => decide (¬ mayS x)) = false) : ∀ x ∈ l, mayS x := fun x hx => by
  have := List.any_eq_false.1 h x hx
  simpa using this
theorem not_mayS {l : List Sp} (h : (l.any fun x => decide (¬ mayS x)) = true) : ¬ ∀ x ∈ l, mayS x := fun hall => by
  obtain ⟨x, hx, hm⟩ := List.any_eq_true.1 h
  simp at hm
  exact hm (hall x hx)

theorem Put_spec (w : World) (H : Nat → Prop) (gm : Nat) (a ax : Option Addr) (c cx : Nat) (l xs : List Ext) (σ : Sig) (hown : Sep [cells gm [.slice a (List.length l) c] 76, own 30 4 (.slice a (List.length l) c) (List.length l) (encE l)] w H) (hx : RdX w H 4 ax xs.length cx (encE xs)) (hM : IsMap l σ) (hbd : xs.length ≤ 1000000) :
    Spec Try.prog 27 #[.pointer (some ⟨gm, 0, none⟩), .slice ax xs.length cx] w H (fun v B => ∃ po co L e a2 c2 l2, v = .tuple #[.slice po (List.length L) co, .int .i64 e] ∧ ((e = 0 ∧ (∀ x ∈ xs, mayE x) ∧ FindsP σ xs L ∧ IsMap l2 (xs.foldl updE σ) ∧ L.length ≤ xs.length * 65536) ∨ (e = 1 ∧ (¬ ∀ x ∈ xs, mayE x) ∧ L = [] ∧ l2 = l)) ∧
      B = [cells gm [.slice a2 (List.length l2) c2] 76, own 30 4 (.slice a2 (List.length l2) c2) (List.length l2) (encE l2), own 30 4 (.slice po (List.length L) co) (List.length L) (encE L)]) := by
  refine Spec.enter (args := [.pointer (some ⟨gm, 0, none⟩), .slice ax xs.length cx]) (A := [cells gm [.slice a (List.length l) c] 76, own 30 4 (.slice a (List.length l) c) (List.length l) (encE l)]) Try.func27 rfl Try.ntmps27 rfl hown ?_
  refine X.mem (B := [own 30 4 (.slice none (List.length (([] : List Ext))) 0) (List.length (([] : List Ext))) (encE (([] : List Ext))), cells gm [.slice a (List.length l) c] 76, own 30 4 (.slice a (List.length l) c) (List.length l) (encE l)]) (fun w h => h.nilOwn 30 4) ?_
  (refine X.seq ?_ <;> (refine X.text (L := (.op .fin 0 (.op .fin 1 .nil))) rfl ?_ <;>
    ((apply XL.det0F rfl rfl rfl rfl; exact D.assign rfl)) <;>
    ((apply XL.det0F rfl rfl rfl rfl; exact D.assign rfl)) <;>
    (refine XL.nil ?_)) <;> (first | refine Ex.then ?_ | (refine N.next ?_ <;> (refine X.seq ?_ <;> (refine X.block ?_ <;> (refine X.seq ?_ <;> (refine X.text (L := (.op .fin 0 (.op .fin 1 (.op .fin 2 .nil)))) rfl ?_ <;>
    ((apply XL.det0F rfl rfl rfl rfl; exact D.move rfl)) <;>
    (first | refine XL.cmpTF rfl rfl rfl rfl (D.int rfl rfl rfl) (by omega) ?_ | refine XL.cmpFF rfl rfl rfl rfl (D.int rfl rfl rfl) (by omega) ?_ | refine XL.splitF rfl rfl rfl rfl (D.int rfl rfl rfl) (fun _ => ?_) (fun _ => ?_) | refine XL.cmpTF rfl rfl rfl rfl (D.eqS2 rfl rfl) (by omega) ?_ | refine XL.cmpFF rfl rfl rfl rfl (D.eqS2 rfl rfl) (by omega) ?_ | refine XL.splitF rfl rfl rfl rfl (D.eqS2 rfl rfl) (fun _ => ?_) (fun _ => ?_) | (apply XL.det0F rfl rfl rfl rfl; first | exact D.eqNilS rfl rfl | exact D.boolEq rfl rfl | exact D.eqNilP rfl rfl)) <;>
    ((apply XL.det0F rfl rfl rfl rfl; exact D.assign rfl)) <;>
    (refine XL.nil ?_)) <;> (first | refine Ex.then ?_ | (refine N.next ?_ <;> ((
    refine X.cond rfl ?_ ?_; rotate_left; (focus (
    intro hc; first | exact absurd hc (by decide) | (cases hc; done) | (refine X.seq ?_ <;> (refine X.text (L := (.op .fin 0 (.op .fin 1 (.op .fin 2 .nil)))) rfl ?_ <;>
    ((apply XL.det0F rfl rfl rfl rfl; exact D.move rfl)) <;>
    ((refine XL.call rfl rfl rfl rfl (fun w hw => ContainsFuncE_spec w ax xs.length cx xs (hx.now hw) 50 [] _ (fun x hx w' hw' => Put1_spec w' x)) ?_; rintro v B' ⟨rfl, rfl⟩; refine XL.both ?_)) <;>
    ((apply XL.det0F rfl rfl rfl rfl; exact D.assign rfl)) <;>
    (refine XL.nil ?_)) <;> (first | refine Ex.then ?_ | (refine N.next ?_ <;> ((
    refine X.cond rfl ?_ ?_; rotate_left; (focus (
    intro hc; first | exact absurd hc (by decide) | (cases hc; done) | (refine X.skip ?_))); rotate_right; (focus (
    intro hc; first | exact absurd hc (by decide) | (cases hc; done) | (refine X.seq ?_ <;> (refine X.text (L := (.op .fin 0 (.op .fin 1 .nil))) rfl ?_ <;>
    ((apply XL.det0F rfl rfl rfl rfl; exact D.assign rfl)) <;>
    ((apply XL.det0F rfl rfl rfl rfl; exact D.assign rfl)) <;>
    (refine XL.nil ?_)) <;> (first | refine Ex.then ?_ | (refine N.next ?_ <;> ((refine X.ret ?_; (repeat (first | refine Rt.then ?_ | refine Rt.block ?_ | refine Rt.scope ?_)); apply Rt.done (Res.r2 Try.results27 (RV.tmp rfl) (RV.tmp rfl)); (focus (first | (exact ⟨po, co, L, 0, a2, c2, l2, rfl, .inl ⟨rfl, all_mayE (by assumption), hL, hM2, Nat.le_trans hLl (Nat.mul_le_mul_right _ hi)⟩, rfl⟩) | (exact ⟨none, 0, [], 1, a, c, l, rfl, .inr ⟨rfl, not_mayE (by assumption), rfl, rfl⟩, rfl⟩))); exact fun w h => h.takes)))))))))))))); rotate_right; (focus (
    intro hc; first | exact absurd hc (by decide) | (cases hc; done) | (refine X.seq ?_ <;> (refine X.text (L := (.op .fin 0 (.op .fin 1 .nil))) rfl ?_ <;>
    ((apply XL.det0F rfl rfl rfl rfl; exact D.assign rfl)) <;>
    ((apply XL.det0F rfl rfl rfl rfl; exact D.assign rfl)) <;>
    (refine XL.nil ?_)) <;> (first | refine Ex.then ?_ | (refine N.next ?_ <;> ((refine X.ret ?_; (repeat (first | refine Rt.then ?_ | refine Rt.block ?_ | refine Rt.scope ?_)); apply Rt.done (Res.r2 Try.results27 (RV.tmp rfl) (RV.tmp rfl)); (focus (first | (exact ⟨po, co, L, 0, a2, c2, l2, rfl, .inl ⟨rfl, all_mayE (by assumption), hL, hM2, Nat.le_trans hLl (Nat.mul_le_mul_right _ hi)⟩, rfl⟩) | (exact ⟨none, 0, [], 1, a, c, l, rfl, .inr ⟨rfl, not_mayE (by assumption), rfl, rfl⟩, rfl⟩))); exact fun w h => h.takes)))))))))))) <;> (first | refine N.block ?_ | refine Ex.here ?_ | refine Ex.out rfl ?_)) <;> (first | refine Ex.then ?_ | (refine N.next ?_ <;> (refine X.seq ?_ <;> (refine X.text (L := (.op .fin 0 .nil)) rfl ?_ <;>
    ((apply XL.det0F rfl rfl rfl rfl; exact D.assign rfl)) <;>
    (refine XL.nil ?_)) <;> (first | refine Ex.then ?_ | (refine N.next ?_ <;> (refine X.seq ?_ <;> (refine X.seq ?_ <;> (refine X.text (L := (.op .fin 0 (.op .fin 1 (.op .fin 2 .nil)))) rfl ?_ <;>
    ((apply XL.det0F rfl rfl rfl rfl; exact D.move rfl)) <;>
    ((apply XL.det0F rfl rfl rfl rfl; first | exact D.len rfl | exact D.lenS rfl)) <;>
    ((apply XL.det0F rfl rfl rfl rfl; exact D.move rfl)) <;>
    (refine XL.nil ?_)) <;> (first | refine Ex.then ?_ | (refine N.next ?_ <;> (refine X.block ?_ <;> ((refine X.loop (ι := Nat × List Ext × Option Addr × Nat × Option Addr × Nat × List Ext) (fun y => [(0, .pointer (some ⟨gm, 0, none⟩)), (6, .slice y.2.2.1 y.2.1.length y.2.2.2.1), (15, .slice ax xs.length cx), (16, .int .i64 xs.length), (17, .int .i64 y.1)]) (fun y => [own 30 4 (.slice y.2.2.1 (List.length y.2.1) y.2.2.2.1) (List.length y.2.1) (encE y.2.1), cells gm [.slice y.2.2.2.2.1 (List.length y.2.2.2.2.2.2) y.2.2.2.2.2.1] 76, own 30 4 (.slice y.2.2.2.2.1 (List.length y.2.2.2.2.2.2) y.2.2.2.2.2.1) (List.length y.2.2.2.2.2.2) (encE y.2.2.2.2.2.2)]) (fun y => y.1 ≤ xs.length ∧ FindsP σ (xs.take y.1) y.2.1 ∧ IsMap y.2.2.2.2.2.2 ((xs.take y.1).foldl updE σ) ∧ y.2.1.length ≤ y.1 * 65536) (fun y => xs.length - y.1) ((0, [], none, 0, a, c, l)) ?_ ?_ ?_ ?_; (focus (exact ⟨Nat.zero_le _, rfl, hM, Nat.zero_le _⟩)); (focus (repeat (first | exact Sub.nil | refine Sub.cons rfl ?_))); (focus (exact (fun w h => h.takes))); rintro ⟨i, L, po, co, a2, c2, l2⟩ ⟨hi, hL, hM2, hLl⟩; (dsimp only at *)) <;> (refine X.seq ?_ <;> (refine X.text (L := (.op .fin 0 .nil)) rfl ?_ <;>
    (first | refine XL.splitF rfl rfl rfl rfl (D.int rfl rfl rfl) (fun h0 => ?_) (fun h0 => ?_)) <;>
    (refine XL.nil ?_)) <;> (first | refine Ex.then ?_ | (refine N.next ?_ <;> (refine X.seq ?_ <;> ((
    refine X.cond rfl ?_ ?_; rotate_left; (focus (
    intro hc; first | exact absurd hc (by decide) | (cases hc; done) | (refine X.exit ?_))); rotate_right; (focus (
    intro hc; first | exact absurd hc (by decide) | (cases hc; done) | (refine X.skip ?_))))) <;> (first | refine Ex.then ?_ | (refine N.next ?_ <;> (refine X.seq ?_ <;> (refine X.block ?_ <;> (refine X.seq ?_ <;> (refine X.text (L := (.op .fin 0 (.op .fin 1 (.op .fin 2 (.op .fin 3 .nil))))) rfl ?_ <;>
    (have hall := all_mayE (by assumption); have hil : i < xs.length := (by omega); obtain ⟨x, hxi⟩ := get_lt hil; have hmx := hall x (List.mem_of_getElem? hxi); have hlen2 := rise_len l2 0 hM2.rise (by omega); (apply XL.detF rfl rfl rfl rfl; exact D.indexAddr i rfl rfl rfl hil (hx.rd.sm (by omega)))) <;>
    ((apply XL.detF rfl rfl rfl rfl; exact D.loadN rfl rfl (fun w hw j u hu => Rd.ext (hx.now hw) hxi j u hu))) <;>
    (refine XL.alloc rfl rfl rfl (by intro g; infer_instance) (fun g => ?_)) <;>
    (first | refine XL.store1 rfl rfl rfl rfl rfl ?_ | refine XL.storeN rfl rfl rfl rfl rfl rfl ?_) <;>
    (refine XL.nil ?_)) <;> (first | refine Ex.then ?_ | (refine N.next ?_ <;> (refine X.text (L := (.op .fin 0 (.op .fin 1 (.op .fin 2 (.op .fin 3 (.op .fin 4 (.op .fin 5 (.op .fin 6 (.op .fin 7 (.op .fin 8 .nil)))))))))) rfl ?_ <;>
    ((apply XL.det0F rfl rfl rfl rfl; exact D.move rfl)) <;>
    ((apply XL.det0F rfl rfl rfl rfl; exact D.move rfl)) <;>
    ((apply XL.det0F rfl rfl rfl rfl; first | exact D.fieldAddrB0 rfl rfl | exact D.fieldAddrB rfl rfl | exact D.fieldAddrE0 rfl rfl | exact D.fieldAddrE rfl rfl)) <;>
    ((apply XL.detF rfl rfl rfl rfl; first | exact D.load1 rfl (fun w h => h.cellAt (Loc.at_) rfl) | exact D.loadN rfl rfl (fun w h j u hu => by rw [at_add, Nat.zero_add]; exact h.cellAt (Loc.at_) hu) | exact D.loadP rfl rfl)) <;>
    ((apply XL.detF rfl rfl rfl rfl; first | exact D.load1 rfl (fun w h => h.cellAt (Loc.at_) rfl) | exact D.loadN rfl rfl (fun w h j u hu => by rw [at_add, Nat.zero_add]; exact h.cellAt (Loc.at_) hu) | exact D.loadP rfl rfl)) <;>
    ((refine XL.sliceL valE encE1 [x] (fun _ => rfl) (fun _ => rfl) rfl rfl rfl rfl rfl rfl (fun _ => by infer_instance) (fun gl => ?_))) <;>
    ((refine XL.callH [cells gm [.slice a2 (List.length l2) c2] 76, own 30 4 (.slice a2 (List.length l2) c2) (List.length l2) (encE l2), own 30 4 (.slice (some ⟨gl, 0, none⟩) 1 1) 1 ([x].flatMap encE1)] rfl rfl rfl rfl (fun w F hF hw => lay_spec w F gm a2 (some ⟨gl, 0, none⟩) c2 1 l2 [x] (x.a, x.n) hF hM2.rise hmx.1 ⟨Int.le_refl _, hmx.inE, trivial⟩ (Int.le_refl _) ⟨by omega, by simp⟩) ?_; rintro v B' ⟨pi, ci, a3, c3, A, I, K, l3, rfl, hA, hJ, hIl, rfl⟩; refine XL.both ?_)) <;>
    ((refine XL.appendR (a2 := pi) (news := encE I) rfl rfl rfl rfl rfl (fun w hw => hw.rd (a := pi)) (encE_one I) (by unfold maxLen; omega) (fun _ _ => by infer_instance) (fun a' c' => ?_)); rw [show encE L ++ encE I = encE (L ++ I) from (by simp [encE]), show L.length + I.length = (L ++ I).length from (by simp)]) <;>
    ((apply XL.det0F rfl rfl rfl rfl; exact D.assign rfl)) <;>
    (refine XL.nil ?_))))) <;> (first | refine N.block ?_ | refine Ex.here ?_ | refine Ex.out rfl ?_)) <;> (first | refine Ex.then ?_ | (refine N.next ?_ <;> (refine X.text (L := (.op .fin 0 (.op .fin 1 .nil))) rfl ?_ <;>
    ((apply XL.det0F rfl rfl rfl rfl; first | exact D.add64 rfl rfl (by omega) | exact D.int rfl rfl rfl)) <;>
    ((apply XL.det0F rfl rfl rfl rfl; exact D.move rfl)) <;>
    (refine XL.nil ?_))))))))))) <;> (first | refine Ex.then ?_ | ((refine N.again ((i + 1, L ++ I, a', c', a3, c3, l3)) ?_ ?_ ?_ ?_; (focus (exact ⟨by dsimp only; omega, by dsimp only; rw [take_succ_snoc hxi]; exact hL.snoc (hM2.find hA), by dsimp only; rw [take_succ_snoc hxi, List.foldl_append]; exact hM2.put hA hJ, by dsimp only; simp only [List.length_append]; omega⟩)); (focus (first | omega | (dsimp only; omega))); (focus (repeat (first | exact Sub.nil | refine Sub.cons rfl ?_))); exact (fun w h => h.takes))))) <;> (first | refine N.block ?_ | refine Ex.here ?_ | refine Ex.out rfl ?_))))) <;> (first | refine Ex.then ?_ | (refine N.next ?_ <;> (refine X.seq ?_ <;> (refine X.text (L := (.op .fin 0 (.op .fin 1 (.op .fin 2 .nil)))) rfl ?_ <;>
    (have hje : xs.take i = xs := (List.take_of_length_le (by omega)); rw [hje] at hL hM2; (apply XL.det0F rfl rfl rfl rfl; exact D.move rfl)) <;>
    ((apply XL.det0F rfl rfl rfl rfl; exact D.assign rfl)) <;>
    ((apply XL.det0F rfl rfl rfl rfl; exact D.assign rfl)) <;>
    (refine XL.nil ?_)) <;> (first | refine Ex.then ?_ | (refine N.next ?_ <;> ((refine X.ret ?_; (repeat (first | refine Rt.then ?_ | refine Rt.block ?_ | refine Rt.scope ?_)); apply Rt.done (Res.r2 Try.results27 (RV.tmp rfl) (RV.tmp rfl)); (focus (first | (exact ⟨po, co, L, 0, a2, c2, l2, rfl, .inl ⟨rfl, all_mayE (by assumption), hL, hM2, Nat.le_trans hLl (Nat.mul_le_mul_right _ hi)⟩, rfl⟩) | (exact ⟨none, 0, [], 1, a, c, l, rfl, .inr ⟨rfl, not_mayE (by assumption), rfl, rfl⟩, rfl⟩))); exact fun w h => h.takes)))))))))))))))))
theorem CutM_spec (w : World) (H : Nat → Prop) (gm : Nat) (a ax : Option Addr) (c cx : Nat) (l : List Ext) (xs : List Sp) (σ : Sig) (hown : Sep [cells gm [.slice a (List.length l) c] 76, own 30 4 (.slice a (List.length l) c) (List.length l) (encE l)] w H) (hx : RdX w H 2 ax xs.length cx (encS xs)) (hM : IsMap l σ) (hbd : xs.length ≤ 1000000) :
    Spec Try.prog 26 #[.pointer (some ⟨gm, 0, none⟩), .slice ax xs.length cx] w H (fun v B => ∃ po co L e a2 c2 l2, v = .tuple #[.slice po (List.length L) co, .int .i64 e] ∧ ((e = 0 ∧ (∀ x ∈ xs, mayS x) ∧ FindsC σ xs L ∧ IsMap l2 (xs.foldl cutE σ) ∧ L.length ≤ xs.length * 65536) ∨ (e = 1 ∧ (¬ ∀ x ∈ xs, mayS x) ∧ L = [] ∧ l2 = l)) ∧
      B = [cells gm [.slice a2 (List.length l2) c2] 76, own 30 4 (.slice a2 (List.length l2) c2) (List.length l2) (encE l2), own 30 4 (.slice po (List.length L) co) (List.length L) (encE L)]) := by
  refine Spec.enter (args := [.pointer (some ⟨gm, 0, none⟩), .slice ax xs.length cx]) (A := [cells gm [.slice a (List.length l) c] 76, own 30 4 (.slice a (List.length l) c) (List.length l) (encE l)]) Try.func26 rfl Try.ntmps26 rfl hown ?_
  refine X.mem (B := [own 30 4 (.slice none (List.length (([] : List Ext))) 0) (List.length (([] : List Ext))) (encE (([] : List Ext))), cells gm [.slice a (List.length l) c] 76, own 30 4 (.slice a (List.length l) c) (List.length l) (encE l)]) (fun w h => h.nilOwn 30 4) ?_
  (refine X.seq ?_ <;> (refine X.text (L := (.op .fin 0 (.op .fin 1 .nil))) rfl ?_ <;>
    ((apply XL.det0F rfl rfl rfl rfl; exact D.assign rfl)) <;>
    ((apply XL.det0F rfl rfl rfl rfl; exact D.assign rfl)) <;>
    (refine XL.nil ?_)) <;> (first | refine Ex.then ?_ | (refine N.next ?_ <;> (refine X.seq ?_ <;> (refine X.block ?_ <;> (refine X.seq ?_ <;> (refine X.text (L := (.op .fin 0 (.op .fin 1 (.op .fin 2 .nil)))) rfl ?_ <;>
    ((apply XL.det0F rfl rfl rfl rfl; exact D.move rfl)) <;>
    (first | refine XL.cmpTF rfl rfl rfl rfl (D.int rfl rfl rfl) (by omega) ?_ | refine XL.cmpFF rfl rfl rfl rfl (D.int rfl rfl rfl) (by omega) ?_ | refine XL.splitF rfl rfl rfl rfl (D.int rfl rfl rfl) (fun _ => ?_) (fun _ => ?_) | refine XL.cmpTF rfl rfl rfl rfl (D.eqS2 rfl rfl) (by omega) ?_ | refine XL.cmpFF rfl rfl rfl rfl (D.eqS2 rfl rfl) (by omega) ?_ | refine XL.splitF rfl rfl rfl rfl (D.eqS2 rfl rfl) (fun _ => ?_) (fun _ => ?_) | (apply XL.det0F rfl rfl rfl rfl; first | exact D.eqNilS rfl rfl | exact D.boolEq rfl rfl | exact D.eqNilP rfl rfl)) <;>
    ((apply XL.det0F rfl rfl rfl rfl; exact D.assign rfl)) <;>
    (refine XL.nil ?_)) <;> (first | refine Ex.then ?_ | (refine N.next ?_ <;> ((
    refine X.cond rfl ?_ ?_; rotate_left; (focus (
    intro hc; first | exact absurd hc (by decide) | (cases hc; done) | (refine X.seq ?_ <;> (refine X.text (L := (.op .fin 0 (.op .fin 1 (.op .fin 2 .nil)))) rfl ?_ <;>
    ((apply XL.det0F rfl rfl rfl rfl; exact D.move rfl)) <;>
    ((refine XL.call rfl rfl rfl rfl (fun w hw => ContainsFunc_spec w ax xs.length cx xs (hx.now hw) 48 [] _ (fun x hx w' hw' => Cut1_spec w' x)) ?_; rintro v B' ⟨rfl, rfl⟩; refine XL.both ?_)) <;>
    ((apply XL.det0F rfl rfl rfl rfl; exact D.assign rfl)) <;>
    (refine XL.nil ?_)) <;> (first | refine Ex.then ?_ | (refine N.next ?_ <;> ((
    refine X.cond rfl ?_ ?_; rotate_left; (focus (
    intro hc; first | exact absurd hc (by decide) | (cases hc; done) | (refine X.skip ?_))); rotate_right; (focus (
    intro hc; first | exact absurd hc (by decide) | (cases hc; done) | (refine X.seq ?_ <;> (refine X.text (L := (.op .fin 0 (.op .fin 1 .nil))) rfl ?_ <;>
    ((apply XL.det0F rfl rfl rfl rfl; exact D.assign rfl)) <;>
    ((apply XL.det0F rfl rfl rfl rfl; exact D.assign rfl)) <;>
    (refine XL.nil ?_)) <;> (first | refine Ex.then ?_ | (refine N.next ?_ <;> ((refine X.ret ?_; (repeat (first | refine Rt.then ?_ | refine Rt.block ?_ | refine Rt.scope ?_)); apply Rt.done (Res.r2 Try.results26 (RV.tmp rfl) (RV.tmp rfl)); (focus (first | (exact ⟨po, co, L, 0, a2, c2, l2, rfl, .inl ⟨rfl, all_mayS (by assumption), hL, hM2, Nat.le_trans hLl (Nat.mul_le_mul_right _ hi)⟩, rfl⟩) | (exact ⟨none, 0, [], 1, a, c, l, rfl, .inr ⟨rfl, not_mayS (by assumption), rfl, rfl⟩, rfl⟩))); exact fun w h => h.takes)))))))))))))); rotate_right; (focus (
    intro hc; first | exact absurd hc (by decide) | (cases hc; done) | (refine X.seq ?_ <;> (refine X.text (L := (.op .fin 0 (.op .fin 1 .nil))) rfl ?_ <;>
    ((apply XL.det0F rfl rfl rfl rfl; exact D.assign rfl)) <;>
    ((apply XL.det0F rfl rfl rfl rfl; exact D.assign rfl)) <;>
    (refine XL.nil ?_)) <;> (first | refine Ex.then ?_ | (refine N.next ?_ <;> ((refine X.ret ?_; (repeat (first | refine Rt.then ?_ | refine Rt.block ?_ | refine Rt.scope ?_)); apply Rt.done (Res.r2 Try.results26 (RV.tmp rfl) (RV.tmp rfl)); (focus (first | (exact ⟨po, co, L, 0, a2, c2, l2, rfl, .inl ⟨rfl, all_mayS (by assumption), hL, hM2, Nat.le_trans hLl (Nat.mul_le_mul_right _ hi)⟩, rfl⟩) | (exact ⟨none, 0, [], 1, a, c, l, rfl, .inr ⟨rfl, not_mayS (by assumption), rfl, rfl⟩, rfl⟩))); exact fun w h => h.takes)))))))))))) <;> (first | refine N.block ?_ | refine Ex.here ?_ | refine Ex.out rfl ?_)) <;> (first | refine Ex.then ?_ | (refine N.next ?_ <;> (refine X.seq ?_ <;> (refine X.text (L := (.op .fin 0 .nil)) rfl ?_ <;>
    ((apply XL.det0F rfl rfl rfl rfl; exact D.assign rfl)) <;>
    (refine XL.nil ?_)) <;> (first | refine Ex.then ?_ | (refine N.next ?_ <;> (refine X.seq ?_ <;> (refine X.seq ?_ <;> (refine X.text (L := (.op .fin 0 (.op .fin 1 (.op .fin 2 .nil)))) rfl ?_ <;>
    ((apply XL.det0F rfl rfl rfl rfl; exact D.move rfl)) <;>
    ((apply XL.det0F rfl rfl rfl rfl; first | exact D.len rfl | exact D.lenS rfl)) <;>
    ((apply XL.det0F rfl rfl rfl rfl; exact D.move rfl)) <;>
    (refine XL.nil ?_)) <;> (first | refine Ex.then ?_ | (refine N.next ?_ <;> (refine X.block ?_ <;> ((refine X.loop (ι := Nat × List Ext × Option Addr × Nat × Option Addr × Nat × List Ext) (fun y => [(0, .pointer (some ⟨gm, 0, none⟩)), (6, .slice y.2.2.1 y.2.1.length y.2.2.2.1), (15, .slice ax xs.length cx), (16, .int .i64 xs.length), (17, .int .i64 y.1)]) (fun y => [own 30 4 (.slice y.2.2.1 (List.length y.2.1) y.2.2.2.1) (List.length y.2.1) (encE y.2.1), cells gm [.slice y.2.2.2.2.1 (List.length y.2.2.2.2.2.2) y.2.2.2.2.2.1] 76, own 30 4 (.slice y.2.2.2.2.1 (List.length y.2.2.2.2.2.2) y.2.2.2.2.2.1) (List.length y.2.2.2.2.2.2) (encE y.2.2.2.2.2.2)]) (fun y => y.1 ≤ xs.length ∧ FindsC σ (xs.take y.1) y.2.1 ∧ IsMap y.2.2.2.2.2.2 ((xs.take y.1).foldl cutE σ) ∧ y.2.1.length ≤ y.1 * 65536) (fun y => xs.length - y.1) ((0, [], none, 0, a, c, l)) ?_ ?_ ?_ ?_; (focus (exact ⟨Nat.zero_le _, rfl, hM, Nat.zero_le _⟩)); (focus (repeat (first | exact Sub.nil | refine Sub.cons rfl ?_))); (focus (exact (fun w h => h.takes))); rintro ⟨i, L, po, co, a2, c2, l2⟩ ⟨hi, hL, hM2, hLl⟩; (dsimp only at *)) <;> (refine X.seq ?_ <;> (refine X.text (L := (.op .fin 0 .nil)) rfl ?_ <;>
    (first | refine XL.splitF rfl rfl rfl rfl (D.int rfl rfl rfl) (fun h0 => ?_) (fun h0 => ?_)) <;>
    (refine XL.nil ?_)) <;> (first | refine Ex.then ?_ | (refine N.next ?_ <;> (refine X.seq ?_ <;> ((
    refine X.cond rfl ?_ ?_; rotate_left; (focus (
    intro hc; first | exact absurd hc (by decide) | (cases hc; done) | (refine X.exit ?_))); rotate_right; (focus (
    intro hc; first | exact absurd hc (by decide) | (cases hc; done) | (refine X.skip ?_))))) <;> (first | refine Ex.then ?_ | (refine N.next ?_ <;> (refine X.seq ?_ <;> (refine X.block ?_ <;> (refine X.seq ?_ <;> (refine X.text (L := (.op .fin 0 (.op .fin 1 (.op .fin 2 (.op .fin 3 .nil))))) rfl ?_ <;>
    (have hall := all_mayS (by assumption); have hil : i < xs.length := (by omega); obtain ⟨x, hxi⟩ := get_lt hil; have hmx := hall x (List.mem_of_getElem? hxi); have hlen2 := rise_len l2 0 hM2.rise (by omega); (apply XL.detF rfl rfl rfl rfl; exact D.indexAddr i rfl rfl rfl hil (hx.rd.sm (by omega)))) <;>
    ((apply XL.detF rfl rfl rfl rfl; exact D.loadN rfl rfl (fun w hw j u hu => Rd.sp (hx.now hw) hxi j u hu))) <;>
    (refine XL.alloc rfl rfl rfl (by intro g; infer_instance) (fun g => ?_)) <;>
    (first | refine XL.store1 rfl rfl rfl rfl rfl ?_ | refine XL.storeN rfl rfl rfl rfl rfl rfl ?_) <;>
    (refine XL.nil ?_)) <;> (first | refine Ex.then ?_ | (refine N.next ?_ <;> (refine X.text (L := (.op .fin 0 (.op .fin 1 (.op .fin 2 (.op .fin 3 (.op .fin 4 (.op .fin 5 .nil))))))) rfl ?_ <;>
    ((apply XL.det0F rfl rfl rfl rfl; exact D.move rfl)) <;>
    ((apply XL.det0F rfl rfl rfl rfl; exact D.move rfl)) <;>
    ((apply XL.detF rfl rfl rfl rfl; first | exact D.load1 rfl (fun w h => h.cellAt (Loc.at_) rfl) | exact D.loadN rfl rfl (fun w h j u hu => by rw [at_add, Nat.zero_add]; exact h.cellAt (Loc.at_) hu) | exact D.loadP rfl rfl)) <;>
    (refine XL.mem (B := [own 30 4 (.slice none (List.length (([] : List Ext))) 0) (List.length (([] : List Ext))) (encE (([] : List Ext))), cells g [.int .i64 x.1, .int .i64 x.2] 26, own 30 4 (.slice po (List.length L) co) (List.length L) (encE L), cells gm [.slice a2 (List.length l2) c2] 76, own 30 4 (.slice a2 (List.length l2) c2) (List.length l2) (encE l2)]) (fun w h => h.nilOwn 30 4) ?_; (refine XL.callH [cells gm [.slice a2 (List.length l2) c2] 76, own 30 4 (.slice a2 (List.length l2) c2) (List.length l2) (encE l2), own 30 4 (.slice none (List.length (([] : List Ext))) 0) (List.length (([] : List Ext))) (encE (([] : List Ext)))] rfl rfl rfl rfl (fun w F hF hw => lay_spec w F gm a2 none c2 0 l2 [] x hF hM2.rise hmx trivial (by unfold mayS at hmx; simp only [endE]; omega) ⟨by omega, by simp⟩) ?_; rintro v B' ⟨pi, ci, a3, c3, A, I, K, l3, rfl, hA, hJ, hIl, rfl⟩; refine XL.both ?_)) <;>
    ((refine XL.appendR (a2 := pi) (news := encE I) rfl rfl rfl rfl rfl (fun w hw => hw.rd (a := pi)) (encE_one I) (by unfold maxLen; omega) (fun _ _ => by infer_instance) (fun a' c' => ?_)); rw [show encE L ++ encE I = encE (L ++ I) from (by simp [encE]), show L.length + I.length = (L ++ I).length from (by simp)]) <;>
    ((apply XL.det0F rfl rfl rfl rfl; exact D.assign rfl)) <;>
    (refine XL.nil ?_))))) <;> (first | refine N.block ?_ | refine Ex.here ?_ | refine Ex.out rfl ?_)) <;> (first | refine Ex.then ?_ | (refine N.next ?_ <;> (refine X.text (L := (.op .fin 0 (.op .fin 1 .nil))) rfl ?_ <;>
    ((apply XL.det0F rfl rfl rfl rfl; first | exact D.add64 rfl rfl (by omega) | exact D.int rfl rfl rfl)) <;>
    ((apply XL.det0F rfl rfl rfl rfl; exact D.move rfl)) <;>
    (refine XL.nil ?_))))))))))) <;> (first | refine Ex.then ?_ | ((refine N.again ((i + 1, L ++ I, a', c', a3, c3, l3)) ?_ ?_ ?_ ?_; (focus (exact ⟨by dsimp only; omega, by dsimp only; rw [take_succ_snoc hxi]; exact hL.snoc (hM2.find hA), by dsimp only; rw [take_succ_snoc hxi, List.foldl_append]; exact hM2.cut hA hJ, by dsimp only; simp only [List.length_append]; omega⟩)); (focus (first | omega | (dsimp only; omega))); (focus (repeat (first | exact Sub.nil | refine Sub.cons rfl ?_))); exact (fun w h => h.takes))))) <;> (first | refine N.block ?_ | refine Ex.here ?_ | refine Ex.out rfl ?_))))) <;> (first | refine Ex.then ?_ | (refine N.next ?_ <;> (refine X.seq ?_ <;> (refine X.text (L := (.op .fin 0 (.op .fin 1 (.op .fin 2 .nil)))) rfl ?_ <;>
    (have hje : xs.take i = xs := (List.take_of_length_le (by omega)); rw [hje] at hL hM2; (apply XL.det0F rfl rfl rfl rfl; exact D.move rfl)) <;>
    ((apply XL.det0F rfl rfl rfl rfl; exact D.assign rfl)) <;>
    ((apply XL.det0F rfl rfl rfl rfl; exact D.assign rfl)) <;>
    (refine XL.nil ?_)) <;> (first | refine Ex.then ?_ | (refine N.next ?_ <;> ((refine X.ret ?_; (repeat (first | refine Rt.then ?_ | refine Rt.block ?_ | refine Rt.scope ?_)); apply Rt.done (Res.r2 Try.results26 (RV.tmp rfl) (RV.tmp rfl)); (focus (first | (exact ⟨po, co, L, 0, a2, c2, l2, rfl, .inl ⟨rfl, all_mayS (by assumption), hL, hM2, Nat.le_trans hLl (Nat.mul_le_mul_right _ hi)⟩, rfl⟩) | (exact ⟨none, 0, [], 1, a, c, l, rfl, .inr ⟨rfl, not_mayS (by assumption), rfl, rfl⟩, rfl⟩))); exact fun w h => h.takes)))))))))))))))))
end Go.Lx
