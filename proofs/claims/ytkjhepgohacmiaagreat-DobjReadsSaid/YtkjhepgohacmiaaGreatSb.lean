/- Package span's walks, part b: the predicates. -/
import Derived.Test.YtkjhepgohacmiaaGreatSa
namespace Go.Lx
open Go.Proofs
set_option linter.unusedVariables false
set_option linter.unusedSimpArgs false

/-- A closure that tells of an element, in whatever memory that extends w. -/
def Pred (P : Program) (w : World) (k : FuncId) (cps : List Value) (l : List Sp) (p : Sp → Bool) : Prop :=
  ∀ x, x ∈ l → ∀ w', Conf ⟨P, 0, w, fun _ => False⟩ [] w' → Spec P k (.agg #[.int .i64 x.1, .int .i64 x.2] :: cps).toArray w' (fun _ => False) (fun v A => v = .bool (p x) ∧ A = [])

theorem Conf.bare {C : Cx} {A : List Assn} {w : World} (h : Conf C A w) (hH : C.H = fun _ => False) : Conf ⟨C.P, 0, C.w0, fun _ => False⟩ [] w := by
  have := (h.sub (List.nil_sublist A)).any (n := 0)
  rw [hH] at this
  exact this

theorem IndexFunc_spec (w : World) (a : Option Addr) (n c : Nat) (l : List Sp) (hl : Rd w 2 a n c (encS l)) (k : FuncId) (cps : List Value) [Enters Tryz.prog k] (p : Sp → Bool) (hp : Pred Tryz.prog w k cps l p) :
    Spec Tryz.prog 107 #[.slice a n c, .func (.func k) #[] cps.toArray] w (fun _ => False) (fun v A => ∃ r : Int, v = .int .i64 r ∧ (r = -1 ∧ (∀ x ∈ l, p x = false) ∨ ∃ i x, r = (i : Nat) ∧ l[i]? = some x ∧ p x = true ∧ ∀ j y, j < i → l[j]? = some y → p y = false) ∧ A = []) := by
  refine Spec.enter (args := [.slice a n c, .func (.func k) #[] cps.toArray]) (A := []) Tryz.func107 rfl Tryz.ntmps107 rfl (fun _ h => h) ?_
  have hlen := hl.spLen; have hbd := hl.bd
  (refine X.seq ?_ <;> (refine X.text (L := (.op .fin 0 .nil)) rfl (by kernel_rfl) ?_ <;>
    ((apply XL.det0F rfl rfl rfl rfl; exact D.assign rfl)) <;>
    (refine XL.nil ?_)) <;> (first | refine Ex.then ?_ | (refine N.next ?_ <;> (refine X.seq ?_ <;> (refine X.seq ?_ <;> (refine X.text (L := (.op .fin 0 (.op .fin 1 (.op .fin 2 .nil)))) rfl (by kernel_rfl) ?_ <;>
    ((apply XL.det0F rfl rfl rfl rfl; exact D.move rfl)) <;>
    ((apply XL.det0F rfl rfl rfl rfl; first | exact D.len rfl | exact D.lenL rfl | exact D.lenS rfl)) <;>
    ((apply XL.det0F rfl rfl rfl rfl; exact D.move rfl)) <;>
    (refine XL.nil ?_)) <;> (first | refine Ex.then ?_ | (refine N.next ?_ <;> (refine X.block ?_ <;> ((refine X.loop (ι := Nat) (fun i => [(0, .slice a n c), (1, .func (.func k) #[] cps.toArray), (6, .slice a n c), (7, .int .i64 n), (8, .int .i64 i)]) (fun _ => []) (fun i => i ≤ n ∧ ∀ j y, j < i → l[j]? = some y → p y = false) (fun i => n - i) (0) ?_ ?_ ?_ ?_; (focus (exact ⟨Nat.zero_le _, fun j y hj => by omega⟩)); (focus (repeat (first | exact Sub.nil | refine Sub.cons rfl ?_))); (focus (exact (fun w h => h.takes))); rintro i ⟨hi, hok⟩) <;> (refine X.seq ?_ <;> (refine X.text (L := (.op .fin 0 .nil)) rfl (by kernel_rfl) ?_ <;>
    (first | refine XL.splitF rfl rfl rfl rfl (D.int rfl rfl rfl) (fun h0 => ?_) (fun h0 => ?_)) <;>
    (refine XL.nil ?_)) <;> (first | refine Ex.then ?_ | (refine N.next ?_ <;> (refine X.seq ?_ <;> ((
    refine X.cond rfl ?_ ?_; rotate_left; (focus (
    intro hc; first | exact absurd hc (by decide) | (cases hc; done) | (refine X.exit ?_))); rotate_right; (focus (
    intro hc; first | exact absurd hc (by decide) | (cases hc; done) | (refine X.skip ?_))))) <;> (first | refine Ex.then ?_ | (refine N.next ?_ <;> (refine X.seq ?_ <;> (refine X.block ?_ <;> (refine X.seq ?_ <;> (refine X.text (L := (.op .fin 0 (.op .fin 1 .nil))) rfl (by kernel_rfl) ?_ <;>
    ((apply XL.det0F rfl rfl rfl rfl; exact D.move rfl)) <;>
    ((apply XL.det0F rfl rfl rfl rfl; exact D.assign rfl)) <;>
    (refine XL.nil ?_)) <;> (first | refine Ex.then ?_ | (refine N.next ?_ <;> (refine X.seq ?_ <;> (refine X.text (L := (.op .fin 0 (.op .fin 1 (.op .fin 2 (.op .fin 3 (.op .fin 4 (.op .fin 5 .nil))))))) rfl (by kernel_rfl) ?_ <;>
    ((apply XL.det0F rfl rfl rfl rfl; exact D.move rfl)) <;>
    ((apply XL.det0F rfl rfl rfl rfl; exact D.move rfl)) <;>
    ((apply XL.det0F rfl rfl rfl rfl; exact D.move rfl)) <;>
    (have hin : i < n := (by omega); obtain ⟨x, hx⟩ := get_lt (l := l) (k := i) (by omega); (apply XL.detF rfl rfl rfl rfl; exact D.indexAddr i rfl rfl rfl hin (hl.sm (by omega)))) <;>
    ((apply XL.detF rfl rfl rfl rfl; exact D.loadN rfl rfl (fun w hw j u hu => Rd.sp (Rd.conf0 hl hw) hx j u hu))) <;>
    ((refine XL.callV (fs := []) (cps := cps) rfl rfl rfl rfl rfl (fun w' hw => hp x (List.mem_of_getElem? hx) w' (hw.bare rfl)) ?_; rintro v B' ⟨rfl, rfl⟩; refine XL.both ?_); (cases hpx : p x)) <;>
    (refine XL.nil ?_)) <;> (first | refine Ex.then ?_ | (refine N.next ?_ <;> ((
    refine X.cond rfl ?_ ?_; rotate_left; (focus (
    intro hc; first | exact absurd hc (by decide) | (cases hc; done) | (refine X.skip ?_))); rotate_right; (focus (
    intro hc; first | exact absurd hc (by decide) | (cases hc; done) | (refine X.seq ?_ <;> (refine X.text (L := (.op .fin 0 (.op .fin 1 .nil))) rfl (by kernel_rfl) ?_ <;>
    ((apply XL.det0F rfl rfl rfl rfl; exact D.move rfl)) <;>
    ((apply XL.det0F rfl rfl rfl rfl; exact D.assign rfl)) <;>
    (refine XL.nil ?_)) <;> (first | refine Ex.then ?_ | (refine N.next ?_ <;> ((refine X.ret ?_; (repeat (first | refine Rt.then ?_ | refine Rt.block ?_ | refine Rt.scope ?_)); (first | apply Rt.done (Res.r1 Tryz.results107 (RV.tmp rfl)) | apply Rt.doneM (Res.r1 Tryz.results107 (RV.tmp rfl))); (focus (first | (refine ⟨_, rfl, .inr ⟨i, x, rfl, hx, hpx, hok⟩, rfl⟩) | (refine ⟨_, rfl, .inl ⟨rfl, fun y hy => ?_⟩, rfl⟩; obtain ⟨j, hj⟩ := List.mem_iff_getElem?.1 hy; exact hok j y (by have := (List.getElem?_eq_some_iff.1 hj).1; omega) hj))); exact fun w h => h.takes))))))))))))))) <;> (first | refine N.block ?_ | refine Ex.here ?_ | refine Ex.out rfl ?_)) <;> (first | refine Ex.then ?_ | (refine N.next ?_ <;> (refine X.text (L := (.op .fin 0 (.op .fin 1 .nil))) rfl (by kernel_rfl) ?_ <;>
    ((apply XL.det0F rfl rfl rfl rfl; first | exact D.add64 rfl rfl (by omega) | exact D.int rfl rfl rfl)) <;>
    ((apply XL.det0F rfl rfl rfl rfl; exact D.move rfl)) <;>
    (refine XL.nil ?_))))))))))) <;> (first | refine Ex.then ?_ | ((refine N.again (i + 1) ?_ ?_ ?_ ?_; (focus (exact ⟨by omega, fun j y hj hy => by rcases Nat.lt_or_ge j i with h | h; exact hok j y h hy; (obtain rfl : j = i := by omega); rw [hx] at hy; cases hy; exact hpx⟩)); (focus (first | omega | (dsimp only; omega))); (focus (repeat (first | exact Sub.nil | refine Sub.cons rfl ?_))); exact (fun w h => h.takes))))) <;> (first | refine N.block ?_ | refine Ex.here ?_ | refine Ex.out rfl ?_))))) <;> (first | refine Ex.then ?_ | (refine N.next ?_ <;> (refine X.seq ?_ <;> (refine X.text (L := (.op .fin 0 .nil)) rfl (by kernel_rfl) ?_ <;>
    ((apply XL.det0F rfl rfl rfl rfl; exact D.assign rfl)) <;>
    (refine XL.nil ?_)) <;> (first | refine Ex.then ?_ | (refine N.next ?_ <;> ((refine X.ret ?_; (repeat (first | refine Rt.then ?_ | refine Rt.block ?_ | refine Rt.scope ?_)); (first | apply Rt.done (Res.r1 Tryz.results107 (RV.tmp rfl)) | apply Rt.doneM (Res.r1 Tryz.results107 (RV.tmp rfl))); (focus (first | (refine ⟨_, rfl, .inr ⟨i, x, rfl, hx, hpx, hok⟩, rfl⟩) | (refine ⟨_, rfl, .inl ⟨rfl, fun y hy => ?_⟩, rfl⟩; obtain ⟨j, hj⟩ := List.mem_iff_getElem?.1 hy; exact hok j y (by have := (List.getElem?_eq_some_iff.1 hj).1; omega) hj))); exact fun w h => h.takes)))))))))))

theorem ContainsFunc_spec (w : World) (a : Option Addr) (n c : Nat) (l : List Sp) (hl : Rd w 2 a n c (encS l)) (k : FuncId) (cps : List Value) [Enters Tryz.prog k] (p : Sp → Bool) (hp : Pred Tryz.prog w k cps l p) :
    Spec Tryz.prog 75 #[.slice a n c, .func (.func k) #[] cps.toArray] w (fun _ => False) (fun v A => v = .bool (l.any p) ∧ A = []) := by
  refine Spec.enter (args := [.slice a n c, .func (.func k) #[] cps.toArray]) (A := []) Tryz.func75 rfl Tryz.ntmps75 rfl (fun _ h => h) ?_
  (refine X.seq ?_ <;> (refine X.text (L := (.op .fin 0 .nil)) rfl (by kernel_rfl) ?_ <;>
    ((apply XL.det0F rfl rfl rfl rfl; exact D.assign rfl)) <;>
    (refine XL.nil ?_)) <;> (first | refine Ex.then ?_ | (refine N.next ?_ <;> (refine X.seq ?_ <;> (refine X.text (L := (.op .fin 0 (.op .fin 1 (.op .fin 2 (.op .fin 3 (.op .fin 4 .nil)))))) rfl (by kernel_rfl) ?_ <;>
    ((apply XL.det0F rfl rfl rfl rfl; exact D.move rfl)) <;>
    ((apply XL.det0F rfl rfl rfl rfl; exact D.move rfl)) <;>
    ((refine XL.call rfl rfl rfl rfl (fun w hw => IndexFunc_spec w a n c l (hl.conf0 hw) k cps p (fun x hx w' hw' => hp x hx w' (hw'.over hw))) ?_; rintro v B' ⟨r, rfl, hr, rfl⟩; refine XL.both ?_)) <;>
    ((apply XL.det0F rfl rfl rfl rfl; exact D.int rfl rfl rfl)) <;>
    ((apply XL.det0F rfl rfl rfl rfl; exact D.assign rfl)) <;>
    (refine XL.nil ?_)) <;> (first | refine Ex.then ?_ | (refine N.next ?_ <;> ((refine X.ret ?_; (repeat (first | refine Rt.then ?_ | refine Rt.block ?_ | refine Rt.scope ?_)); (first | apply Rt.done (Res.r1 Tryz.results75 (RV.tmp rfl)) | apply Rt.doneM (Res.r1 Tryz.results75 (RV.tmp rfl))); (focus (refine ⟨congrArg Value.bool ?_, rfl⟩; rcases hr with ⟨rfl, h⟩ | ⟨i, x, rfl, hx, hpx, _⟩; (rw [show l.any p = false from List.any_eq_false.2 (fun x hx => by simp [h x hx])]; rfl); (rw [show l.any p = true from List.any_eq_true.2 ⟨x, List.mem_of_getElem? hx, hpx⟩]; simp))); exact fun w h => h.takes))))))))

theorem wrong1_spec (w : World) (x : Sp) : Spec Tryz.prog 127 #[.agg #[.int .i64 x.1, .int .i64 x.2]] w (fun _ => False) (fun v A => v = .bool (decide (¬ mayS x)) ∧ A = []) := by
  refine Spec.enter (args := [.agg #[.int .i64 x.1, .int .i64 x.2]]) (A := []) Tryz.func127 rfl Tryz.ntmps127 rfl (fun _ h => h) ?_
  (refine X.seq ?_ <;> (refine X.text (L := (.op .fin 0 (.op .fin 1 .nil))) rfl (by kernel_rfl) ?_ <;>
    (first | refine XL.boxN rfl rfl rfl rfl (by intro g; infer_instance) (fun g => ?_) | refine XL.box1 rfl rfl rfl rfl rfl (by intro g; infer_instance) (fun g => ?_)) <;>
    ((apply XL.det0F rfl rfl rfl rfl; exact D.assign rfl)) <;>
    (refine XL.nil ?_)) <;> (first | refine Ex.then ?_ | (refine N.next ?_ <;> (refine X.seq ?_ <;> (refine X.text (L := (.op .fin 0 (.op .fin 1 (.op .fin 2 (.op .fin 3 .nil))))) rfl (by kernel_rfl) ?_ <;>
    ((apply XL.detF rfl rfl rfl rfl; first | exact D.load1 rfl (fun w h => h.cellAt (Loc.at_) rfl) | exact D.loadN rfl rfl (fun w h j u hu => by rw [at_add, Nat.zero_add]; exact h.cellAt (Loc.at_) hu) | exact D.loadP rfl rfl)) <;>
    ((refine XL.call rfl rfl rfl rfl (fun w hw => May_spec _ _ w) ?_; rintro v B' ⟨rfl, rfl⟩; refine XL.both ?_); (by_cases hm : mayS x <;> first | rw [if_pos hm] | rw [if_neg hm])) <;>
    (first | refine XL.cmpTF rfl rfl rfl rfl (D.int rfl rfl rfl) (by omega) ?_ | refine XL.cmpFF rfl rfl rfl rfl (D.int rfl rfl rfl) (by omega) ?_ | refine XL.splitF rfl rfl rfl rfl (D.int rfl rfl rfl) (fun _ => ?_) (fun _ => ?_) | refine XL.cmpTF rfl rfl rfl rfl (D.neS2 rfl rfl) (by omega) ?_ | refine XL.cmpFF rfl rfl rfl rfl (D.neS2 rfl rfl) (by omega) ?_ | refine XL.splitF rfl rfl rfl rfl (D.neS2 rfl rfl) (fun _ => ?_) (fun _ => ?_) | (apply XL.det0F rfl rfl rfl rfl; first | exact D.neNilS rfl rfl | exact D.boolNe rfl rfl | exact D.neNilP rfl rfl)) <;>
    ((apply XL.det0F rfl rfl rfl rfl; exact D.assign rfl)) <;>
    (refine XL.nil ?_)) <;> (first | refine Ex.then ?_ | (refine N.next ?_ <;> ((refine X.ret ?_; (repeat (first | refine Rt.then ?_ | refine Rt.block ?_ | refine Rt.scope ?_)); (first | apply Rt.done (Res.r1 Tryz.results127 (RV.tmp rfl)) | apply Rt.doneM (Res.r1 Tryz.results127 (RV.tmp rfl))); (focus (refine ⟨congrArg Value.bool ?_, rfl⟩; simp [hm])); exact fun w h => h.takes))))))))

theorem wrong_spec (w : World) (a : Option Addr) (n c : Nat) (l : List Sp) (hl : Rd w 2 a n c (encS l)) : Spec Tryz.prog 116 #[.slice a n c] w (fun _ => False) (fun v A => v = .bool (l.any fun x => decide (¬ mayS x)) ∧ A = []) := by
  refine Spec.enter (args := [.slice a n c]) (A := []) Tryz.func116 rfl Tryz.ntmps116 rfl (fun _ h => h) ?_
  (refine X.seq ?_ <;> (refine X.text (L := (.op .fin 0 .nil)) rfl (by kernel_rfl) ?_ <;>
    ((apply XL.det0F rfl rfl rfl rfl; exact D.assign rfl)) <;>
    (refine XL.nil ?_)) <;> (first | refine Ex.then ?_ | (refine N.next ?_ <;> (refine X.seq ?_ <;> (refine X.text (L := (.op .fin 0 (.op .fin 1 (.op .fin 2 .nil)))) rfl (by kernel_rfl) ?_ <;>
    ((apply XL.det0F rfl rfl rfl rfl; exact D.move rfl)) <;>
    ((refine XL.call rfl rfl rfl rfl (fun w hw => ContainsFunc_spec w a n c l (hl.conf0 hw) 127 [] _ (fun x hx w' hw' => wrong1_spec w' x)) ?_; rintro v B' ⟨rfl, rfl⟩; refine XL.both ?_)) <;>
    ((apply XL.det0F rfl rfl rfl rfl; exact D.assign rfl)) <;>
    (refine XL.nil ?_)) <;> (first | refine Ex.then ?_ | (refine N.next ?_ <;> ((refine X.ret ?_; (repeat (first | refine Rt.then ?_ | refine Rt.block ?_ | refine Rt.scope ?_)); (first | apply Rt.done (Res.r1 Tryz.results116 (RV.tmp rfl)) | apply Rt.doneM (Res.r1 Tryz.results116 (RV.tmp rfl))); (focus (exact ⟨rfl, rfl⟩)); exact fun w h => h.takes))))))))

end Go.Lx
