/- The chapter's examples. -/
import Derived.Test.YtpkchhcedbgfhaaSg
namespace Go.Lx
open Go.Proofs
set_option linter.unusedVariables false
set_option linter.unusedSimpArgs false
set_option maxRecDepth 20000

theorem setOK1 {x : Sp} (h : mayS x) : SetOK [x] ([x] : List Sp).length := SetOK.one h
theorem setOK2 {x y : Sp} (h : mayS x) (k : mayS y) (hlt : x.1 + x.2 < y.1) : SetOK [x, y] ([x, y] : List Sp).length := (SetOK.one h).snoc (fun z hz => by simp at hz; subst hz; exact hlt) k

def valS (x : Sp) : Value := .agg #[.int .i64 x.1, .int .i64 x.2]

theorem fit_ex {o : List Sp} {p q e : Int} (h : (e = 1 ∧ ¬ (SetOK [(2, 2)] ([(2, 2)] : List Sp).length ∧ mayS (0, 5) ∧ (1 : Int) ≤ 2) ∧ p = 0 ∧ q = 0) ∨ (∃ o : List Sp, (SetOK [(2, 2)] ([(2, 2)] : List Sp).length ∧ mayS (0, 5) ∧ (1 : Int) ≤ 2) ∧ SetOK o o.length ∧ (∀ t, inS o t ↔ (((0, 5) : Sp).1 ≤ t ∧ t < ((0, 5) : Sp).1 + ((0, 5) : Sp).2) ∧ ¬ inS [(2, 2)] t) ∧ ((e = 0 ∧ ∃ (i : Nat) (x : Sp), o[i]? = some x ∧ 2 ≤ x.2 ∧ (∀ (j : Nat) (y : Sp), j < i → o[j]? = some y → y.2 < 2) ∧ p = x.1 ∧ q = 2) ∨ (e = 15 ∧ (∀ y ∈ o, y.2 < 2) ∧ p = 0 ∧ q = 0)))) : p = 0 ∧ q = 2 ∧ e = 0 := by
  rcases h with ⟨_, h, _⟩ | ⟨o, _, h1, h2, h3⟩
  · exact absurd ⟨setOK1 (by unfold mayS; decide), by unfold mayS; decide, by decide⟩ h
  · have ho : o = [(0, 2), (4, 1)] := set_unique o [(0, 2), (4, 1)] h1 (setOK2 (by unfold mayS; decide) (by unfold mayS; decide) (by decide)) (fun t => by rw [h2 t]; simp [inS]; omega)
    subst ho
    rcases h3 with ⟨rfl, i, x, hx, h4, h5, rfl, rfl⟩ | ⟨_, h4, _⟩
    · match i, hx with
      | 0, hx => simp at hx; subst hx; simp
      | 1, hx => simp at hx; subst hx; simp at h4
    · have := h4 (0, 2) (by simp); simp at this

theorem awake_spec (w : World) : Spec Try.prog 13 #[] w (fun _ => False) (fun v A => v = .bool true ∧ A = []) := by
  refine Spec.enter (args := []) (A := []) Try.func13 rfl Try.ntmps13 rfl (fun _ h => h) ?_
  (refine X.seq ?_ <;> (refine X.text rfl ?_ <;>
    ((apply XL.det0F rfl rfl rfl rfl; exact D.assign rfl)) <;>
    (refine XL.nil ?_)) <;> (first | refine Ex.then ?_ | (refine N.next ?_ <;> (refine X.seq ?_ <;> (refine X.text rfl ?_ <;>
    ((apply XL.det0F rfl rfl rfl rfl; exact D.build rfl)) <;>
    ((apply XL.det0F rfl rfl rfl rfl; exact D.build rfl)) <;>
    ((apply XL.det0F rfl rfl rfl rfl; exact D.build rfl)) <;>
    ((refine XL.sliceL valS encS1 [(0, 2), (5, 1), (2, 3)] (fun _ => rfl) (fun _ => rfl) rfl rfl rfl rfl rfl rfl (fun _ => by infer_instance) (fun g => ?_))) <;>
    ((refine XL.call rfl rfl rfl rfl (fun w hw => Join_spec w _ _ [(0, 2), (5, 1), (2, 3)] (hw.ownRd (xs := encS [(0, 2), (5, 1), (2, 3)]) (i := 0) rfl) (by decide)) ?_; rintro v B' ⟨a1, c1, o1, e1, rfl, h1, rfl⟩; refine XL.both ?_); rcases h1 with ⟨rfl, q1, q2, q3, q4⟩ | ⟨rfl, q1, _⟩; rotate_left; (focus (exact absurd (fun x hx => by simp at hx; rcases hx with rfl | rfl | rfl <;> (unfold mayS; decide)) q1)); have ho1 : o1 = [(0, 6)] := (set_unique o1 [(0, 6)] q2 (setOK1 (by unfold mayS; decide)) (fun t => by rw [q3 t]; simp [inS]; omega)); subst ho1) <;>
    ((apply XL.det0F rfl rfl rfl rfl; exact D.move rfl)) <;>
    ((apply XL.det0F rfl rfl rfl rfl; exact D.extract rfl rfl)) <;>
    ((apply XL.det0F rfl rfl rfl rfl; exact D.extract rfl rfl)) <;>
    ((apply XL.det0F rfl rfl rfl rfl; exact D.assign rfl)) <;>
    ((apply XL.det0F rfl rfl rfl rfl; exact D.assign rfl)) <;>
    (refine XL.nil ?_)) <;> (first | refine Ex.then ?_ | (refine N.next ?_ <;> (refine X.seq ?_ <;> (refine X.text rfl ?_ <;>
    ((apply XL.det0F rfl rfl rfl rfl; exact D.move rfl)) <;>
    ((apply XL.det0F rfl rfl rfl rfl; exact D.build rfl)) <;>
    ((refine XL.slice1 rfl rfl rfl rfl rfl rfl (by intro g; infer_instance) (fun g => ?_)); refine XL.mem (fun w h => h.cellsOwn (n := ([(1, 2)] : List Sp).length) (sz := 2) rfl) ?_) <;>
    ((refine XL.call rfl rfl rfl rfl (fun w hw => Cut_spec w _ _ _ _ [(0, 6)] [(1, 2)] (hw.ownRd (i := 1) rfl) (hw.ownRd (xs := encS [(1, 2)]) (i := 0) rfl) (by decide)) ?_; rintro v B' ⟨a2, c2, o2, e2, rfl, h2, rfl⟩; refine XL.both ?_); rcases h2 with ⟨rfl, r1, r2, r3, r4⟩ | ⟨rfl, r1, _⟩; rotate_left; (focus (exact absurd ⟨setOK1 (by unfold mayS; decide), fun x hx => by simp at hx; subst hx; unfold mayS; decide⟩ r1)); have ho2 : o2 = [(0, 1), (3, 3)] := (set_unique o2 [(0, 1), (3, 3)] r2 (setOK2 (by unfold mayS; decide) (by unfold mayS; decide) (by decide)) (fun t => by rw [r3 t]; simp [inS]; omega)); subst ho2) <;>
    ((apply XL.det0F rfl rfl rfl rfl; exact D.move rfl)) <;>
    ((apply XL.det0F rfl rfl rfl rfl; exact D.extract rfl rfl)) <;>
    ((apply XL.det0F rfl rfl rfl rfl; exact D.extract rfl rfl)) <;>
    ((apply XL.det0F rfl rfl rfl rfl; exact D.assign rfl)) <;>
    ((apply XL.det0F rfl rfl rfl rfl; exact D.assign rfl)) <;>
    (refine XL.nil ?_)) <;> (first | refine Ex.then ?_ | (refine N.next ?_ <;> (refine X.seq ?_ <;> (refine X.text rfl ?_ <;>
    ((apply XL.det0F rfl rfl rfl rfl; exact D.build rfl)) <;>
    ((refine XL.slice1 rfl rfl rfl rfl rfl rfl (by intro g; infer_instance) (fun g => ?_)); refine XL.mem (fun w h => h.cellsOwn (n := ([(2, 2)] : List Sp).length) (sz := 2) rfl) ?_) <;>
    ((apply XL.det0F rfl rfl rfl rfl; exact D.build rfl)) <;>
    ((refine XL.call rfl rfl rfl rfl (fun w hw => Fit_spec w _ _ [(2, 2)] (0, 5) 2 (hw.ownRd (xs := encS [(2, 2)]) (i := 0) rfl) (by decide)) ?_; rintro v B' ⟨p, q, e, rfl, h3, rfl⟩; refine XL.both ?_); obtain ⟨rfl, rfl, rfl⟩ := fit_ex (o := []) h3) <;>
    ((apply XL.det0F rfl rfl rfl rfl; exact D.move rfl)) <;>
    ((apply XL.det0F rfl rfl rfl rfl; exact D.extract rfl rfl)) <;>
    ((apply XL.det0F rfl rfl rfl rfl; exact D.extract rfl rfl)) <;>
    (refine XL.alloc rfl rfl rfl (by intro g; infer_instance) (fun g => ?_)) <;>
    (first | refine XL.store1 rfl rfl rfl rfl rfl ?_ | refine XL.storeN rfl rfl rfl rfl rfl rfl ?_) <;>
    ((apply XL.det0F rfl rfl rfl rfl; exact D.assign rfl)) <;>
    (refine XL.nil ?_)) <;> (first | refine Ex.then ?_ | (refine N.next ?_ <;> (refine X.seq ?_ <;> (refine X.text rfl ?_ <;>
    ((apply XL.det0F rfl rfl rfl rfl; exact D.move rfl)) <;>
    (first | refine XL.cmpTF rfl rfl rfl rfl (D.int rfl rfl rfl) (by omega) ?_ | refine XL.cmpFF rfl rfl rfl rfl (D.int rfl rfl rfl) (by omega) ?_ | refine XL.splitF rfl rfl rfl rfl (D.int rfl rfl rfl) (fun _ => ?_) (fun _ => ?_) | refine XL.cmpTF rfl rfl rfl rfl (D.eqS2 rfl rfl) (by omega) ?_ | refine XL.cmpFF rfl rfl rfl rfl (D.eqS2 rfl rfl) (by omega) ?_ | refine XL.splitF rfl rfl rfl rfl (D.eqS2 rfl rfl) (fun _ => ?_) (fun _ => ?_) | (apply XL.det0F rfl rfl rfl rfl; first | exact D.eqNilS rfl rfl | exact D.boolEq rfl rfl)) <;>
    ((apply XL.det0F rfl rfl rfl rfl; exact D.move rfl)) <;>
    (first | refine XL.skipF rfl rfl rfl rfl ?_ | ((apply XL.det0F rfl rfl rfl rfl; exact D.move rfl))) <;>
    (first | refine XL.skipF rfl rfl rfl rfl ?_ | ((apply XL.det0F rfl rfl rfl rfl; exact D.build rfl))) <;>
    (first | refine XL.skipF rfl rfl rfl rfl ?_ | ((refine XL.slice1 rfl rfl rfl rfl rfl rfl (by intro g; infer_instance) (fun g => ?_)); refine XL.mem (fun w h => h.cellsOwn (n := ([(0, 6)] : List Sp).length) (sz := 2) rfl) ?_)) <;>
    (first | refine XL.skipF rfl rfl rfl rfl ?_ | ((refine XL.call rfl rfl rfl rfl (fun w hw => Same_spec w _ _ _ _ [(0, 6)] [(0, 6)] (hw.ownRd (xs := encS [(0, 6)]) (i := 5) rfl) (hw.ownRd (xs := encS [(0, 6)]) (i := 0) rfl) (by decide)) ?_; rintro v B' ⟨rfl, rfl⟩; refine XL.both ?_))) <;>
    ((apply XL.det0F rfl rfl rfl rfl; first | exact D.pickT rfl rfl | exact D.pickF rfl rfl | exact D.pick rfl rfl rfl)) <;>
    ((apply XL.det0F rfl rfl rfl rfl; exact D.move rfl)) <;>
    (first | refine XL.skipF rfl rfl rfl rfl ?_ | ((apply XL.det0F rfl rfl rfl rfl; exact D.move rfl))) <;>
    (first | refine XL.skipF rfl rfl rfl rfl ?_ | (first | refine XL.cmpTF rfl rfl rfl rfl (D.int rfl rfl rfl) (by omega) ?_ | refine XL.cmpFF rfl rfl rfl rfl (D.int rfl rfl rfl) (by omega) ?_ | refine XL.splitF rfl rfl rfl rfl (D.int rfl rfl rfl) (fun _ => ?_) (fun _ => ?_) | refine XL.cmpTF rfl rfl rfl rfl (D.eqS2 rfl rfl) (by omega) ?_ | refine XL.cmpFF rfl rfl rfl rfl (D.eqS2 rfl rfl) (by omega) ?_ | refine XL.splitF rfl rfl rfl rfl (D.eqS2 rfl rfl) (fun _ => ?_) (fun _ => ?_) | (apply XL.det0F rfl rfl rfl rfl; first | exact D.eqNilS rfl rfl | exact D.boolEq rfl rfl))) <;>
    ((apply XL.det0F rfl rfl rfl rfl; first | exact D.pickT rfl rfl | exact D.pickF rfl rfl | exact D.pick rfl rfl rfl)) <;>
    ((apply XL.det0F rfl rfl rfl rfl; exact D.move rfl)) <;>
    (first | refine XL.skipF rfl rfl rfl rfl ?_ | ((apply XL.det0F rfl rfl rfl rfl; exact D.move rfl))) <;>
    (first | refine XL.skipF rfl rfl rfl rfl ?_ | ((apply XL.det0F rfl rfl rfl rfl; exact D.build rfl))) <;>
    (first | refine XL.skipF rfl rfl rfl rfl ?_ | ((apply XL.det0F rfl rfl rfl rfl; exact D.build rfl))) <;>
    (first | refine XL.skipF rfl rfl rfl rfl ?_ | ((refine XL.sliceL valS encS1 [(0, 1), (3, 3)] (fun _ => rfl) (fun _ => rfl) rfl rfl rfl rfl rfl rfl (fun _ => by infer_instance) (fun g => ?_)))) <;>
    (first | refine XL.skipF rfl rfl rfl rfl ?_ | ((refine XL.call rfl rfl rfl rfl (fun w hw => Same_spec w _ _ _ _ [(0, 1), (3, 3)] [(0, 1), (3, 3)] (hw.ownRd (xs := encS [(0, 1), (3, 3)]) (i := 4) rfl) (hw.ownRd (xs := encS [(0, 1), (3, 3)]) (i := 0) rfl) (by decide)) ?_; rintro v B' ⟨rfl, rfl⟩; refine XL.both ?_))) <;>
    ((apply XL.det0F rfl rfl rfl rfl; first | exact D.pickT rfl rfl | exact D.pickF rfl rfl | exact D.pick rfl rfl rfl)) <;>
    ((apply XL.det0F rfl rfl rfl rfl; exact D.move rfl)) <;>
    (first | refine XL.skipF rfl rfl rfl rfl ?_ | ((apply XL.detF rfl rfl rfl rfl; first | exact D.load1 rfl (fun w h => h.cellAt (Loc.at_) rfl) | exact D.loadN rfl rfl (fun w h j u hu => by rw [at_add, Nat.zero_add]; exact h.cellAt (Loc.at_) hu)))) <;>
    (first | refine XL.skipF rfl rfl rfl rfl ?_ | ((apply XL.det0F rfl rfl rfl rfl; exact D.build rfl))) <;>
    (first | refine XL.skipF rfl rfl rfl rfl ?_ | (first | refine XL.cmpTF rfl rfl rfl rfl (D.int rfl rfl rfl) (by omega) ?_ | refine XL.cmpFF rfl rfl rfl rfl (D.int rfl rfl rfl) (by omega) ?_ | refine XL.splitF rfl rfl rfl rfl (D.int rfl rfl rfl) (fun _ => ?_) (fun _ => ?_) | refine XL.cmpTF rfl rfl rfl rfl (D.eqS2 rfl rfl) (by omega) ?_ | refine XL.cmpFF rfl rfl rfl rfl (D.eqS2 rfl rfl) (by omega) ?_ | refine XL.splitF rfl rfl rfl rfl (D.eqS2 rfl rfl) (fun _ => ?_) (fun _ => ?_) | (apply XL.det0F rfl rfl rfl rfl; first | exact D.eqNilS rfl rfl | exact D.boolEq rfl rfl))) <;>
    ((apply XL.det0F rfl rfl rfl rfl; first | exact D.pickT rfl rfl | exact D.pickF rfl rfl | exact D.pick rfl rfl rfl)) <;>
    ((apply XL.det0F rfl rfl rfl rfl; exact D.move rfl)) <;>
    (first | refine XL.skipF rfl rfl rfl rfl ?_ | ((apply XL.det0F rfl rfl rfl rfl; exact D.move rfl))) <;>
    (first | refine XL.skipF rfl rfl rfl rfl ?_ | (first | refine XL.cmpTF rfl rfl rfl rfl (D.int rfl rfl rfl) (by omega) ?_ | refine XL.cmpFF rfl rfl rfl rfl (D.int rfl rfl rfl) (by omega) ?_ | refine XL.splitF rfl rfl rfl rfl (D.int rfl rfl rfl) (fun _ => ?_) (fun _ => ?_) | refine XL.cmpTF rfl rfl rfl rfl (D.eqS2 rfl rfl) (by omega) ?_ | refine XL.cmpFF rfl rfl rfl rfl (D.eqS2 rfl rfl) (by omega) ?_ | refine XL.splitF rfl rfl rfl rfl (D.eqS2 rfl rfl) (fun _ => ?_) (fun _ => ?_) | (apply XL.det0F rfl rfl rfl rfl; first | exact D.eqNilS rfl rfl | exact D.boolEq rfl rfl))) <;>
    ((apply XL.det0F rfl rfl rfl rfl; first | exact D.pickT rfl rfl | exact D.pickF rfl rfl | exact D.pick rfl rfl rfl)) <;>
    ((apply XL.det0F rfl rfl rfl rfl; exact D.assign rfl)) <;>
    (refine XL.nil ?_)) <;> (first | refine Ex.then ?_ | (refine N.next ?_ <;> ((refine X.ret ?_; (repeat (first | refine Rt.then ?_ | refine Rt.block ?_ | refine Rt.scope ?_)); apply Rt.done (Res.r1 Try.results13 (RV.tmp rfl)); (focus (exact ⟨rfl, rfl⟩)); exact fun w h => h.takes)))))))))))))))))
end Go.Lx
