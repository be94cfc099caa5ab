/- Package dobj's walks: an object's bytes. -/
import Derived.Test.YtkjhepgohacmiaaDb
namespace Go.Lx
open Go.Proofs
set_option linter.unusedVariables false
set_option linter.unusedSimpArgs false
set_option maxRecDepth 20000
set_option maxHeartbeats 4000000
theorem OrdP.spans {sq : Int} {l : List Ext} (h : OrdP sq l l.length) : ∀ x ∈ spansOf l, mayS x := fun x hx => by
  unfold spansOf at hx
  obtain ⟨y, hy, rfl⟩ := List.mem_map.1 hx
  obtain ⟨i, hi⟩ := List.mem_iff_getElem?.1 hy
  exact (h i y (lt_of_get hi) hi).1.1
theorem spansOf_len (l : List Ext) : (spansOf l).length = l.length := by unfold spansOf; rw [List.length_map]
theorem meet_none {o : List Sp} (h : SetOK o o.length) : o.length = 0 ↔ ∀ t, ¬ inS o t := by
  constructor
  · intro h0 t ⟨x, hx, _⟩
    rw [List.length_eq_zero_iff.1 h0] at hx
    cases hx
  · intro hn
    cases o with
    | nil => rfl
    | cons x l =>
      have hm := h.may (x := x) (k := 0) (by simp) rfl
      unfold mayS at hm
      exact absurd ⟨x, List.mem_cons_self, by omega, by omega⟩ (hn x.1)
theorem dLaid_spec (w : World) (o : Dob) (a b : Option Addr) (c d : Nat) (hl : Rd w 4 a o.ps.length c (encE o.ps)) (hcs : Rd w 2 b o.cs.length d (encS o.cs)) : Spec Try.prog 25 #[.agg #[.int .u64 ((o.k : Nat) : Int), .int .i64 o.ep, .int .i64 o.sq, .int .i64 o.up, .slice a o.ps.length c, .slice b o.cs.length d, .string ⟨List.toArray o.d⟩]] w (fun _ => False) (fun v A => ∃ f : Bool, v = .bool f ∧ (f = true ↔ LaidP o) ∧ A = []) := by
  have hbd := hl.bd'
  refine Spec.enter (args := [.agg #[.int .u64 ((o.k : Nat) : Int), .int .i64 o.ep, .int .i64 o.sq, .int .i64 o.up, .slice a o.ps.length c, .slice b o.cs.length d, .string ⟨List.toArray o.d⟩]]) (A := []) Try.func25 rfl Try.ntmps25 rfl (fun _ h => h) ?_
  (refine X.seq ?_ <;> (refine X.text (L := (.op .fin 0 (.op .fin 1 .nil))) rfl (by kernel_rfl) ?_ <;>
    (refine XL.boxN rfl rfl rfl rfl (by intro g; infer_instance) (fun g1 => ?_)) <;>
    ((apply XL.det0F rfl rfl rfl rfl; exact D.assign rfl)) <;>
    (refine XL.nil ?_)) <;> (first | refine Ex.then ?_ | (refine N.next ?_ <;> (refine X.seq ?_ <;> (refine X.seq ?_ <;> (refine X.text (L := (.op .fin 0 (.op .fin 1 (.op .fin 2 (.op .fin 3 (.op .fin 4 (.op .fin 5 (.op .fin 6 (.op .fin 7 (.op .fin 8 (.op .fin 9 .nil))))))))))) rfl (by kernel_rfl) ?_ <;>
    ((apply XL.det0F rfl rfl rfl rfl; first | exact D.fieldAddrB0 rfl rfl | exact D.fieldAddrB rfl rfl | exact D.fieldAddrE0 rfl rfl | exact D.fieldAddrE rfl rfl)) <;>
    ((apply XL.detF rfl rfl rfl rfl; first | exact D.load1 rfl (fun w h => h.cellAt (Loc.at_) rfl) | exact D.loadN rfl rfl (fun w h j u hu => by rw [at_add, Nat.zero_add]; exact h.cellAt (Loc.at_) hu) | exact D.loadP rfl rfl)) <;>
    ((apply XL.det0F rfl rfl rfl rfl; first | exact D.len rfl | exact D.lenL rfl | exact D.lenS rfl)) <;>
    (refine XL.splitF rfl rfl rfl rfl (D.int rfl rfl rfl) (fun h1 => ?_) (fun h1 => ?_)) <;>
    ((apply XL.det0F rfl rfl rfl rfl; exact D.move rfl)) <;>
    (first | refine XL.skipF rfl rfl rfl rfl ?_ | ((apply XL.det0F rfl rfl rfl rfl; first | exact D.fieldAddrB0 rfl rfl | exact D.fieldAddrB rfl rfl | exact D.fieldAddrE0 rfl rfl | exact D.fieldAddrE rfl rfl))) <;>
    (first | refine XL.skipF rfl rfl rfl rfl ?_ | ((apply XL.detF rfl rfl rfl rfl; first | exact D.load1 rfl (fun w h => h.cellAt (Loc.at_) rfl) | exact D.loadN rfl rfl (fun w h j u hu => by rw [at_add, Nat.zero_add]; exact h.cellAt (Loc.at_) hu) | exact D.loadP rfl rfl))) <;>
    (first | refine XL.skipF rfl rfl rfl rfl ?_ | ((apply XL.det0F rfl rfl rfl rfl; first | exact D.len rfl | exact D.lenL rfl | exact D.lenS rfl))) <;>
    (first | refine XL.skipF rfl rfl rfl rfl ?_ | (first | refine XL.skipF rfl rfl rfl rfl ?_ | refine XL.splitF rfl rfl rfl rfl (D.int rfl rfl rfl) (fun h2 => ?_) (fun h2 => ?_))) <;>
    ((apply XL.det0F rfl rfl rfl rfl; first | exact D.pickT rfl rfl | exact D.pickF rfl rfl | exact D.pick rfl rfl rfl)) <;>
    (refine XL.nil ?_)) <;> (first | refine Ex.then ?_ | (refine N.next ?_ <;> ((
    refine X.cond rfl ?_ ?_; rotate_left; (focus (
    intro hc; first | exact absurd hc (by decide) | (cases hc; done) | (refine X.skip ?_))); rotate_right; (focus (
    intro hc; first | exact absurd hc (by decide) | (cases hc; done) | (refine X.seq ?_ <;> (refine X.text (L := (.op .fin 0 .nil)) rfl (by kernel_rfl) ?_ <;>
    ((apply XL.det0F rfl rfl rfl rfl; exact D.assign rfl)) <;>
    (refine XL.nil ?_)) <;> (first | refine Ex.then ?_ | (refine N.next ?_ <;> ((refine X.ret ?_; (repeat (first | refine Rt.then ?_ | refine Rt.block ?_ | refine Rt.scope ?_)); (first | apply Rt.done (Res.r1 Try.results25 (RV.tmp rfl)) | apply Rt.doneM (Res.r1 Try.results25 (RV.tmp rfl))); (focus (first | exact ⟨false, rfl, iff_of_false Bool.false_ne_true (fun h => absurd h.1 (by omega)), rfl⟩ | exact ⟨false, rfl, iff_of_false Bool.false_ne_true (fun h => absurd h.2.1 (by omega)), rfl⟩ | exact ⟨false, rfl, iff_of_false Bool.false_ne_true (fun h => hm (h.2.2.1 i x hil hx).1), rfl⟩ | exact ⟨false, rfl, iff_of_false Bool.false_ne_true (fun h => absurd (h.2.2.1.endE hil hx) (by omega)), rfl⟩ | exact ⟨false, rfl, iff_of_false Bool.false_ne_true (fun h => (hJ.elim (fun g => h5 g.1) (fun g => g.2.1 (by rw [hq]; exact hOe.spans)))), rfl⟩ | exact ⟨true, rfl, iff_of_true rfl ⟨by omega, by omega, hOe, (hM.elim (fun g => g.2.1.2) (fun g => by omega)), fun t t1 t2 => (hM.elim (fun g => (meet_none g.2.2.1).1 (by omega) t ((g.2.2.2.1 t).2 ⟨(hin t).2 (by rw [hq]; exact t1), t2⟩)) (fun g => by omega))⟩, rfl⟩ | exact ⟨false, rfl, iff_of_false Bool.false_ne_true (fun h => (hM.elim (fun g => h6 g.1) (fun g => g.2.1 ⟨hal, h.2.2.2.1⟩))), rfl⟩ | exact ⟨false, rfl, iff_of_false Bool.false_ne_true (fun h => (hM.elim (fun g => absurd ((meet_none g.2.2.1).2 (fun t ht => (h.2.2.2.2 t (by rw [← hq]; exact (hin t).1 ((g.2.2.2.1 t).1 ht).1) ((g.2.2.2.1 t).1 ht).2))) (by omega)) (fun g => by omega))), rfl⟩)); exact fun w h => h.takes)))))))))))) <;> (first | refine Ex.then ?_ | (refine N.next ?_ <;> (refine X.seq ?_ <;> (refine X.text (L := (.op .fin 0 .nil)) rfl (by kernel_rfl) ?_ <;>
    ((apply XL.det0F rfl rfl rfl rfl; exact D.assign rfl)) <;>
    (refine XL.nil ?_)) <;> (first | refine Ex.then ?_ | (refine N.next ?_ <;> (refine X.seq ?_ <;> (refine X.seq ?_ <;> (refine X.text (L := (.op .fin 0 (.op .fin 1 (.op .fin 2 (.op .fin 3 .nil))))) rfl (by kernel_rfl) ?_ <;>
    ((apply XL.det0F rfl rfl rfl rfl; first | exact D.fieldAddrB0 rfl rfl | exact D.fieldAddrB rfl rfl | exact D.fieldAddrE0 rfl rfl | exact D.fieldAddrE rfl rfl)) <;>
    ((apply XL.detF rfl rfl rfl rfl; first | exact D.load1 rfl (fun w h => h.cellAt (Loc.at_) rfl) | exact D.loadN rfl rfl (fun w h j u hu => by rw [at_add, Nat.zero_add]; exact h.cellAt (Loc.at_) hu) | exact D.loadP rfl rfl)) <;>
    ((apply XL.det0F rfl rfl rfl rfl; first | exact D.len rfl | exact D.lenL rfl | exact D.lenS rfl)) <;>
    ((apply XL.det0F rfl rfl rfl rfl; exact D.move rfl)) <;>
    (refine XL.nil ?_)) <;> (first | refine Ex.then ?_ | (refine N.next ?_ <;> (refine X.block ?_ <;> ((refine X.loop (ι := Nat) (fun i => [(1, .pointer (some ⟨g1, 0, none⟩)), (2, .bool false), (3, .int .i64 (endP o.ps i)), (20, .slice a o.ps.length c), (21, .int .i64 o.ps.length), (22, .int .i64 ((i : Nat) : Int))]) (fun i => [cells g1 [.int .u64 ((o.k : Nat) : Int), .int .i64 o.ep, .int .i64 o.sq, .int .i64 o.up, .slice a o.ps.length c, .slice b o.cs.length d, .string ⟨List.toArray o.d⟩] 26]) (fun i => i ≤ o.ps.length ∧ OrdP o.sq o.ps i) (fun i => o.ps.length - i) (0) ?_ ?_ ?_ ?_; (focus (exact ⟨Nat.zero_le _, fun _ _ h => by omega⟩)); (focus (repeat (first | exact Sub.nil | refine Sub.cons rfl ?_))); (focus (exact (fun w h => h.takes))); rintro i ⟨hi, hO⟩; (dsimp only at *)) <;> (refine X.seq ?_ <;> (refine X.text (L := (.op .fin 0 .nil)) rfl (by kernel_rfl) ?_ <;>
    (refine XL.splitF rfl rfl rfl rfl (D.int rfl rfl rfl) (fun h3 => ?_) (fun h3 => ?_)) <;>
    (refine XL.nil ?_)) <;> (first | refine Ex.then ?_ | (refine N.next ?_ <;> (refine X.seq ?_ <;> ((
    refine X.cond rfl ?_ ?_; rotate_left; (focus (
    intro hc; first | exact absurd hc (by decide) | (cases hc; done) | (refine X.exit ?_))); rotate_right; (focus (
    intro hc; first | exact absurd hc (by decide) | (cases hc; done) | (refine X.skip ?_))))) <;> (first | refine Ex.then ?_ | (refine N.next ?_ <;> (refine X.seq ?_ <;> (refine X.block ?_ <;> (refine X.seq ?_ <;> (refine X.text (L := (.op .fin 0 (.op .fin 1 (.op .fin 2 (.op .fin 3 .nil))))) rfl (by kernel_rfl) ?_ <;>
    (have hil : i < o.ps.length := (by omega); (obtain ⟨x, hx⟩ := get_lt hil); (apply XL.det0F rfl rfl rfl rfl; exact D.indexAddr i rfl rfl rfl hil (hl.sm (by omega)))) <;>
    ((apply XL.detF rfl rfl rfl rfl; exact D.loadN rfl rfl (fun w hw j u hu => Rd.ext (hl.conf0 hw) hx j u hu))) <;>
    (refine XL.alloc rfl rfl rfl (by intro g; infer_instance) (fun g => ?_)) <;>
    (first | refine XL.store1 rfl rfl rfl rfl rfl ?_ | refine XL.storeN rfl rfl rfl rfl rfl rfl ?_ | refine XL.storeP rfl rfl rfl rfl rfl rfl ?_) <;>
    (refine XL.nil ?_)) <;> (first | refine Ex.then ?_ | (refine N.next ?_ <;> (refine X.seq ?_ <;> (refine X.seq ?_ <;> (refine X.text (L := (.op .fin 0 (.op .fin 1 (.op .fin 2 (.op .fin 3 (.op .fin 4 (.op .fin 5 (.op .fin 6 (.op .fin 7 (.op .fin 8 (.op .fin 9 (.op .fin 10 (.op .fin 11 .nil))))))))))))) rfl (by kernel_rfl) ?_ <;>
    ((apply XL.detF rfl rfl rfl rfl; first | exact D.load1 rfl (fun w h => h.cellAt (Loc.at_) rfl) | exact D.loadN rfl rfl (fun w h j u hu => by rw [at_add, Nat.zero_add]; exact h.cellAt (Loc.at_) hu) | exact D.loadP rfl rfl)) <;>
    ((apply XL.det0F rfl rfl rfl rfl; first | exact D.fieldAddrB0 rfl rfl | exact D.fieldAddrB rfl rfl | exact D.fieldAddrE0 rfl rfl | exact D.fieldAddrE rfl rfl)) <;>
    ((apply XL.detF rfl rfl rfl rfl; first | exact D.load1 rfl (fun w h => h.cellAt (Loc.at_) rfl) | exact D.loadN rfl rfl (fun w h j u hu => by rw [at_add, Nat.zero_add]; exact h.cellAt (Loc.at_) hu) | exact D.loadP rfl rfl)) <;>
    ((refine XL.call rfl rfl rfl rfl (fun w hw => dMay_spec x o.sq w) ?_; rintro v B' ⟨rfl, rfl⟩; refine XL.both ?_); (by_cases hm : MayP o.sq x <;> first | rw [decide_eq_true hm] | rw [decide_eq_false hm])) <;>
    ((apply XL.det0F rfl rfl rfl rfl; exact D.not rfl)) <;>
    ((apply XL.det0F rfl rfl rfl rfl; exact D.move rfl)) <;>
    (first | refine XL.skipF rfl rfl rfl rfl ?_ | ((apply XL.det0F rfl rfl rfl rfl; first | exact D.fieldAddrB0 rfl rfl | exact D.fieldAddrB rfl rfl | exact D.fieldAddrE0 rfl rfl | exact D.fieldAddrE rfl rfl))) <;>
    (first | refine XL.skipF rfl rfl rfl rfl ?_ | ((apply XL.det0F rfl rfl rfl rfl; first | exact D.fieldAddrB0 rfl rfl | exact D.fieldAddrB rfl rfl | exact D.fieldAddrE0 rfl rfl | exact D.fieldAddrE rfl rfl))) <;>
    (first | refine XL.skipF rfl rfl rfl rfl ?_ | ((apply XL.detF rfl rfl rfl rfl; first | exact D.load1 rfl (fun w h => h.cellAt (Loc.at_) rfl) | exact D.loadN rfl rfl (fun w h j u hu => by rw [at_add, Nat.zero_add]; exact h.cellAt (Loc.at_) hu) | exact D.loadP rfl rfl))) <;>
    (first | refine XL.skipF rfl rfl rfl rfl ?_ | ((apply XL.det0F rfl rfl rfl rfl; exact D.move rfl))) <;>
    (first | refine XL.skipF rfl rfl rfl rfl ?_ | (first | refine XL.skipF rfl rfl rfl rfl ?_ | refine XL.splitF rfl rfl rfl rfl (D.int rfl rfl rfl) (fun h4 => ?_) (fun h4 => ?_))) <;>
    ((apply XL.det0F rfl rfl rfl rfl; first | exact D.pickT rfl rfl | exact D.pickF rfl rfl | exact D.pick rfl rfl rfl)) <;>
    (refine XL.nil ?_)) <;> (first | refine Ex.then ?_ | (refine N.next ?_ <;> ((
    refine X.cond rfl ?_ ?_; rotate_left; (focus (
    intro hc; first | exact absurd hc (by decide) | (cases hc; done) | (refine X.skip ?_))); rotate_right; (focus (
    intro hc; first | exact absurd hc (by decide) | (cases hc; done) | (refine X.seq ?_ <;> (refine X.text (L := (.op .fin 0 .nil)) rfl (by kernel_rfl) ?_ <;>
    ((apply XL.det0F rfl rfl rfl rfl; exact D.assign rfl)) <;>
    (refine XL.nil ?_)) <;> (first | refine Ex.then ?_ | (refine N.next ?_ <;> ((refine X.ret ?_; (repeat (first | refine Rt.then ?_ | refine Rt.block ?_ | refine Rt.scope ?_)); (first | apply Rt.done (Res.r1 Try.results25 (RV.tmp rfl)) | apply Rt.doneM (Res.r1 Try.results25 (RV.tmp rfl))); (focus (first | exact ⟨false, rfl, iff_of_false Bool.false_ne_true (fun h => absurd h.1 (by omega)), rfl⟩ | exact ⟨false, rfl, iff_of_false Bool.false_ne_true (fun h => absurd h.2.1 (by omega)), rfl⟩ | exact ⟨false, rfl, iff_of_false Bool.false_ne_true (fun h => hm (h.2.2.1 i x hil hx).1), rfl⟩ | exact ⟨false, rfl, iff_of_false Bool.false_ne_true (fun h => absurd (h.2.2.1.endE hil hx) (by omega)), rfl⟩ | exact ⟨false, rfl, iff_of_false Bool.false_ne_true (fun h => (hJ.elim (fun g => h5 g.1) (fun g => g.2.1 (by rw [hq]; exact hOe.spans)))), rfl⟩ | exact ⟨true, rfl, iff_of_true rfl ⟨by omega, by omega, hOe, (hM.elim (fun g => g.2.1.2) (fun g => by omega)), fun t t1 t2 => (hM.elim (fun g => (meet_none g.2.2.1).1 (by omega) t ((g.2.2.2.1 t).2 ⟨(hin t).2 (by rw [hq]; exact t1), t2⟩)) (fun g => by omega))⟩, rfl⟩ | exact ⟨false, rfl, iff_of_false Bool.false_ne_true (fun h => (hM.elim (fun g => h6 g.1) (fun g => g.2.1 ⟨hal, h.2.2.2.1⟩))), rfl⟩ | exact ⟨false, rfl, iff_of_false Bool.false_ne_true (fun h => (hM.elim (fun g => absurd ((meet_none g.2.2.1).2 (fun t ht => (h.2.2.2.2 t (by rw [← hq]; exact (hin t).1 ((g.2.2.2.1 t).1 ht).1) ((g.2.2.2.1 t).1 ht).2))) (by omega)) (fun g => by omega))), rfl⟩)); exact fun w h => h.takes)))))))))))) <;> (first | refine Ex.then ?_ | (refine N.next ?_ <;> (refine X.text (L := (.op .fin 0 (.op .fin 1 (.op .fin 2 (.op .fin 3 .nil))))) rfl (by kernel_rfl) ?_ <;>
    ((apply XL.det0F rfl rfl rfl rfl; first | exact D.fieldAddrB0 rfl rfl | exact D.fieldAddrB rfl rfl | exact D.fieldAddrE0 rfl rfl | exact D.fieldAddrE rfl rfl)) <;>
    ((apply XL.detF rfl rfl rfl rfl; first | exact D.load1 rfl (fun w h => h.cellAt (Loc.at_) rfl) | exact D.loadN rfl rfl (fun w h j u hu => by rw [at_add, Nat.zero_add]; exact h.cellAt (Loc.at_) hu) | exact D.loadP rfl rfl)) <;>
    (have hms := hm.1; unfold mayS at hms; (refine XL.call rfl rfl rfl rfl (fun w hw => dEnd_spec (x.a, x.n) (by dsimp only at *; omega) w) ?_; rintro v B' ⟨rfl, rfl⟩; refine XL.both ?_); rw [show (x.a, x.n).1 + (x.a, x.n).2 = endP o.ps (i + 1) from (endP_succ hx).symm]) <;>
    ((apply XL.det0F rfl rfl rfl rfl; exact D.assign rfl)) <;>
    (refine XL.nil ?_)))))))) <;> (first | refine N.block ?_ | refine Ex.here ?_ | refine Ex.out rfl ?_)) <;> (first | refine Ex.then ?_ | (refine N.next ?_ <;> (refine X.text (L := (.op .fin 0 (.op .fin 1 .nil))) rfl (by kernel_rfl) ?_ <;>
    ((apply XL.det0F rfl rfl rfl rfl; first | exact D.add64 rfl rfl (by omega) | exact D.int rfl rfl rfl)) <;>
    ((apply XL.det0F rfl rfl rfl rfl; exact D.move rfl)) <;>
    (refine XL.nil ?_))))))))))) <;> (first | refine Ex.then ?_ | ((refine N.again ((i + 1)) ?_ ?_ ?_ ?_; (focus (exact ⟨hil, hO.stepE hx hm (by omega)⟩)); (focus (first | omega | (dsimp only; omega))); (focus (repeat (first | exact Sub.nil | refine Sub.cons rfl ?_))); exact (fun w h => h.takes))))) <;> (first | refine N.block ?_ | refine Ex.here ?_ | refine Ex.out rfl ?_))))) <;> (first | refine Ex.then ?_ | (refine N.next ?_ <;> (refine X.seq ?_ <;> (refine X.text (L := (.op .fin 0 (.op .fin 1 (.op .fin 2 (.op .fin 3 (.op .fin 4 (.op .fin 5 (.op .fin 6 (.op .fin 7 .nil))))))))) rfl (by kernel_rfl) ?_ <;>
    ((apply XL.detF rfl rfl rfl rfl; first | exact D.load1 rfl (fun w h => h.cellAt (Loc.at_) rfl) | exact D.loadN rfl rfl (fun w h j u hu => by rw [at_add, Nat.zero_add]; exact h.cellAt (Loc.at_) hu) | exact D.loadP rfl rfl)) <;>
    (have hOe : OrdP o.sq o.ps o.ps.length := (by have e : i = o.ps.length := (by omega); rw [e] at hO; exact hO); (refine XL.call rfl rfl rfl rfl (fun w hw => spans_spec w o a b c d (hl.conf0 hw) (by omega)) ?_; rintro v B' ⟨a1, c1, q, rfl, hq, rfl⟩; refine XL.both ?_); have hql : q.length = o.ps.length := (by rw [hq, spansOf_len])) <;>
    ((refine XL.call rfl rfl rfl rfl (fun w hw => Join_spec w a1 c1 q (hw.rd (a := a1)) (by omega)) ?_; rintro v B' ⟨a2, c2, al, e2, rfl, hJ, rfl⟩; refine XL.both ?_)) <;>
    ((apply XL.det0F rfl rfl rfl rfl; exact D.move rfl)) <;>
    ((apply XL.det0F rfl rfl rfl rfl; exact D.extract rfl rfl)) <;>
    ((apply XL.det0F rfl rfl rfl rfl; exact D.extract rfl rfl)) <;>
    ((apply XL.det0F rfl rfl rfl rfl; exact D.assign rfl)) <;>
    ((apply XL.det0F rfl rfl rfl rfl; exact D.assign rfl)) <;>
    (refine XL.nil ?_)) <;> (first | refine Ex.then ?_ | (refine N.next ?_ <;> (refine X.seq ?_ <;> (refine X.seq ?_ <;> (refine X.text (L := (.op .fin 0 (.op .fin 1 .nil))) rfl (by kernel_rfl) ?_ <;>
    ((apply XL.det0F rfl rfl rfl rfl; exact D.move rfl)) <;>
    (refine XL.splitF rfl rfl rfl rfl (D.int rfl rfl rfl) (fun h5 => ?_) (fun h5 => ?_)) <;>
    (refine XL.nil ?_)) <;> (first | refine Ex.then ?_ | (refine N.next ?_ <;> ((
    refine X.cond rfl ?_ ?_; rotate_left; (focus (
    intro hc; first | exact absurd hc (by decide) | (cases hc; done) | (refine X.skip ?_))); rotate_right; (focus (
    intro hc; first | exact absurd hc (by decide) | (cases hc; done) | (refine X.seq ?_ <;> (refine X.text (L := (.op .fin 0 .nil)) rfl (by kernel_rfl) ?_ <;>
    ((apply XL.det0F rfl rfl rfl rfl; exact D.assign rfl)) <;>
    (refine XL.nil ?_)) <;> (first | refine Ex.then ?_ | (refine N.next ?_ <;> ((refine X.ret ?_; (repeat (first | refine Rt.then ?_ | refine Rt.block ?_ | refine Rt.scope ?_)); (first | apply Rt.done (Res.r1 Try.results25 (RV.tmp rfl)) | apply Rt.doneM (Res.r1 Try.results25 (RV.tmp rfl))); (focus (first | exact ⟨false, rfl, iff_of_false Bool.false_ne_true (fun h => absurd h.1 (by omega)), rfl⟩ | exact ⟨false, rfl, iff_of_false Bool.false_ne_true (fun h => absurd h.2.1 (by omega)), rfl⟩ | exact ⟨false, rfl, iff_of_false Bool.false_ne_true (fun h => hm (h.2.2.1 i x hil hx).1), rfl⟩ | exact ⟨false, rfl, iff_of_false Bool.false_ne_true (fun h => absurd (h.2.2.1.endE hil hx) (by omega)), rfl⟩ | exact ⟨false, rfl, iff_of_false Bool.false_ne_true (fun h => (hJ.elim (fun g => h5 g.1) (fun g => g.2.1 (by rw [hq]; exact hOe.spans)))), rfl⟩ | exact ⟨true, rfl, iff_of_true rfl ⟨by omega, by omega, hOe, (hM.elim (fun g => g.2.1.2) (fun g => by omega)), fun t t1 t2 => (hM.elim (fun g => (meet_none g.2.2.1).1 (by omega) t ((g.2.2.2.1 t).2 ⟨(hin t).2 (by rw [hq]; exact t1), t2⟩)) (fun g => by omega))⟩, rfl⟩ | exact ⟨false, rfl, iff_of_false Bool.false_ne_true (fun h => (hM.elim (fun g => h6 g.1) (fun g => g.2.1 ⟨hal, h.2.2.2.1⟩))), rfl⟩ | exact ⟨false, rfl, iff_of_false Bool.false_ne_true (fun h => (hM.elim (fun g => absurd ((meet_none g.2.2.1).2 (fun t ht => (h.2.2.2.2 t (by rw [← hq]; exact (hin t).1 ((g.2.2.2.1 t).1 ht).1) ((g.2.2.2.1 t).1 ht).2))) (by omega)) (fun g => by omega))), rfl⟩)); exact fun w h => h.takes)))))))))))) <;> (first | refine Ex.then ?_ | (refine N.next ?_ <;> (refine X.seq ?_ <;> (refine X.text (L := (.op .fin 0 (.op .fin 1 (.op .fin 2 (.op .fin 3 (.op .fin 4 (.op .fin 5 (.op .fin 6 (.op .fin 7 (.op .fin 8 .nil)))))))))) rfl (by kernel_rfl) ?_ <;>
    ((apply XL.det0F rfl rfl rfl rfl; exact D.move rfl)) <;>
    ((apply XL.det0F rfl rfl rfl rfl; first | exact D.fieldAddrB0 rfl rfl | exact D.fieldAddrB rfl rfl | exact D.fieldAddrE0 rfl rfl | exact D.fieldAddrE rfl rfl)) <;>
    ((apply XL.detF rfl rfl rfl rfl; first | exact D.load1 rfl (fun w h => h.cellAt (Loc.at_) rfl) | exact D.loadN rfl rfl (fun w h j u hu => by rw [at_add, Nat.zero_add]; exact h.cellAt (Loc.at_) hu) | exact D.loadP rfl rfl)) <;>
    ((obtain ⟨hal, hin, hlal⟩ : SetOK al al.length ∧ (∀ t, inS al t ↔ inS q t) ∧ al.length ≤ q.length := (by rcases hJ with ⟨_, _, g1, g2, g3⟩ | ⟨g, _⟩; exact ⟨g1, g2, g3⟩; omega)); (refine XL.call rfl rfl rfl rfl (fun w hw => Meet_spec w a2 b c2 d al o.cs (hw.rd (a := a2)) (hcs.conf0 hw) (by omega)) ?_; rintro v B' ⟨a3, c3, bo, e3, rfl, hM, rfl⟩; refine XL.both ?_)) <;>
    ((apply XL.det0F rfl rfl rfl rfl; exact D.move rfl)) <;>
    ((apply XL.det0F rfl rfl rfl rfl; exact D.extract rfl rfl)) <;>
    ((apply XL.det0F rfl rfl rfl rfl; exact D.extract rfl rfl)) <;>
    ((apply XL.det0F rfl rfl rfl rfl; exact D.assign rfl)) <;>
    ((apply XL.det0F rfl rfl rfl rfl; exact D.assign rfl)) <;>
    (refine XL.nil ?_)) <;> (first | refine Ex.then ?_ | (refine N.next ?_ <;> (refine X.seq ?_ <;> (refine X.text (L := (.op .fin 0 (.op .fin 1 (.op .fin 2 (.op .fin 3 (.op .fin 4 (.op .fin 5 (.op .fin 6 (.op .fin 7 .nil))))))))) rfl (by kernel_rfl) ?_ <;>
    ((apply XL.det0F rfl rfl rfl rfl; exact D.move rfl)) <;>
    (refine XL.splitF rfl rfl rfl rfl (D.int rfl rfl rfl) (fun h6 => ?_) (fun h6 => ?_)) <;>
    ((apply XL.det0F rfl rfl rfl rfl; exact D.move rfl)) <;>
    (first | refine XL.skipF rfl rfl rfl rfl ?_ | ((apply XL.det0F rfl rfl rfl rfl; exact D.move rfl))) <;>
    (first | refine XL.skipF rfl rfl rfl rfl ?_ | ((apply XL.det0F rfl rfl rfl rfl; first | exact D.len rfl | exact D.lenL rfl | exact D.lenS rfl))) <;>
    (first | refine XL.skipF rfl rfl rfl rfl ?_ | (first | refine XL.skipF rfl rfl rfl rfl ?_ | refine XL.splitF rfl rfl rfl rfl (D.int rfl rfl rfl) (fun h7 => ?_) (fun h7 => ?_))) <;>
    ((apply XL.det0F rfl rfl rfl rfl; first | exact D.pickT rfl rfl | exact D.pickF rfl rfl | exact D.pick rfl rfl rfl)) <;>
    ((apply XL.det0F rfl rfl rfl rfl; exact D.assign rfl)) <;>
    (refine XL.nil ?_)) <;> (first | refine Ex.then ?_ | (refine N.next ?_ <;> ((refine X.ret ?_; (repeat (first | refine Rt.then ?_ | refine Rt.block ?_ | refine Rt.scope ?_)); (first | apply Rt.done (Res.r1 Try.results25 (RV.tmp rfl)) | apply Rt.doneM (Res.r1 Try.results25 (RV.tmp rfl))); (focus (first | exact ⟨false, rfl, iff_of_false Bool.false_ne_true (fun h => absurd h.1 (by omega)), rfl⟩ | exact ⟨false, rfl, iff_of_false Bool.false_ne_true (fun h => absurd h.2.1 (by omega)), rfl⟩ | exact ⟨false, rfl, iff_of_false Bool.false_ne_true (fun h => hm (h.2.2.1 i x hil hx).1), rfl⟩ | exact ⟨false, rfl, iff_of_false Bool.false_ne_true (fun h => absurd (h.2.2.1.endE hil hx) (by omega)), rfl⟩ | exact ⟨false, rfl, iff_of_false Bool.false_ne_true (fun h => (hJ.elim (fun g => h5 g.1) (fun g => g.2.1 (by rw [hq]; exact hOe.spans)))), rfl⟩ | exact ⟨true, rfl, iff_of_true rfl ⟨by omega, by omega, hOe, (hM.elim (fun g => g.2.1.2) (fun g => by omega)), fun t t1 t2 => (hM.elim (fun g => (meet_none g.2.2.1).1 (by omega) t ((g.2.2.2.1 t).2 ⟨(hin t).2 (by rw [hq]; exact t1), t2⟩)) (fun g => by omega))⟩, rfl⟩ | exact ⟨false, rfl, iff_of_false Bool.false_ne_true (fun h => (hM.elim (fun g => h6 g.1) (fun g => g.2.1 ⟨hal, h.2.2.2.1⟩))), rfl⟩ | exact ⟨false, rfl, iff_of_false Bool.false_ne_true (fun h => (hM.elim (fun g => absurd ((meet_none g.2.2.1).2 (fun t ht => (h.2.2.2.2 t (by rw [← hq]; exact (hin t).1 ((g.2.2.2.1 t).1 ht).1) ((g.2.2.2.1 t).1 ht).2))) (by omega)) (fun g => by omega))), rfl⟩)); exact fun w h => h.takes))))))))))))))))))))))))))
theorem numbers_spec (w : World) (H : Nat → Prop) (g : Nat) (a al : Option Addr) (c cl : Nat) (l : Bs) (xs : List Int) (hown : Sep [cells g [.slice a (List.length l) c] 81, own 5 1 (.slice a (List.length l) c) (List.length l) (encY l)] w H) (hl : RdX w H 1 al xs.length cl (encN xs)) (hx : ∀ x ∈ xs, 0 ≤ x ∧ x < 9223372036854775808) (hbd : l.length + 9 * xs.length ≤ 1000000000) : Spec Try.prog 59 #[.pointer (some ⟨g, 0, none⟩), .slice al xs.length cl] w H (fun v A => ∃ a' c' o, v = .tuple #[] ∧ o = l ++ xs.flatMap (fun x => varB x.toNat) ∧ A = [cells g [.slice a' (List.length o) c'] 81, own 5 1 (.slice a' (List.length o) c') (List.length o) (encY o)]) := by
  refine Spec.enter (args := [.pointer (some ⟨g, 0, none⟩), .slice al xs.length cl]) (A := [cells g [.slice a (List.length l) c] 81, own 5 1 (.slice a (List.length l) c) (List.length l) (encY l)]) Try.func59 rfl Try.ntmps59 rfl hown ?_
  (refine X.seq ?_ <;> (refine X.text (L := (.op .fin 0 (.op .fin 1 (.op .fin 2 .nil)))) rfl (by kernel_rfl) ?_ <;>
    ((apply XL.det0F rfl rfl rfl rfl; exact D.move rfl)) <;>
    ((apply XL.det0F rfl rfl rfl rfl; first | exact D.len rfl | exact D.lenL rfl | exact D.lenS rfl)) <;>
    ((apply XL.det0F rfl rfl rfl rfl; exact D.move rfl)) <;>
    (refine XL.nil ?_)) <;> (first | refine Ex.then ?_ | (refine N.next ?_ <;> (refine X.block ?_ <;> ((refine X.loop (ι := Nat × Option Addr × Nat × Bs) (fun y => [(0, .pointer (some ⟨g, 0, none⟩)), (6, .slice al xs.length cl), (7, .int .i64 xs.length), (8, .int .i64 y.1)]) (fun y => [cells g [.slice y.2.1 (List.length y.2.2.2) y.2.2.1] 81, own 5 1 (.slice y.2.1 (List.length y.2.2.2) y.2.2.1) (List.length y.2.2.2) (encY y.2.2.2)]) (fun y => y.1 ≤ xs.length ∧ y.2.2.2 = l ++ (xs.take y.1).flatMap (fun x => varB x.toNat) ∧ y.2.2.2.length ≤ l.length + 9 * y.1) (fun y => xs.length - y.1) ((0, a, c, l)) ?_ ?_ ?_ ?_; (focus (exact ⟨Nat.zero_le _, by simp, by simp⟩)); (focus (repeat (first | exact Sub.nil | refine Sub.cons rfl ?_))); (focus (exact (fun w h => h.takes))); rintro ⟨i, a1, c1, o⟩ ⟨hi, ho, hol⟩; (dsimp only at *)) <;> (refine X.seq ?_ <;> (refine X.text (L := (.op .fin 0 .nil)) rfl (by kernel_rfl) ?_ <;>
    (refine XL.splitF rfl rfl rfl rfl (D.int rfl rfl rfl) (fun h1 => ?_) (fun h1 => ?_)) <;>
    (refine XL.nil ?_)) <;> (first | refine Ex.then ?_ | (refine N.next ?_ <;> (refine X.seq ?_ <;> ((
    refine X.cond rfl ?_ ?_; rotate_left; (focus (
    intro hc; first | exact absurd hc (by decide) | (cases hc; done) | (refine X.exit ?_))); rotate_right; (focus (
    intro hc; first | exact absurd hc (by decide) | (cases hc; done) | (refine X.skip ?_))))) <;> (first | refine Ex.then ?_ | (refine N.next ?_ <;> (refine X.seq ?_ <;> (refine X.block ?_ <;> (refine X.seq ?_ <;> (refine X.text (L := (.op .fin 0 (.op .fin 1 (.op .fin 2 .nil)))) rfl (by kernel_rfl) ?_ <;>
    (have hil : i < xs.length := (by omega); (obtain ⟨x, hxi⟩ := get_lt hil); have hxl := hx x (List.mem_of_getElem? hxi); have hvl := varB_le x.toNat; (apply XL.det0F rfl rfl rfl rfl; exact D.indexAddr i rfl rfl rfl hil (hl.rd.sm (by omega)))) <;>
    ((apply XL.detF rfl rfl rfl rfl; exact D.load1 rfl (fun w hw => Rd.intAt (hl.now hw) hxi))) <;>
    ((apply XL.det0F rfl rfl rfl rfl; exact D.assign rfl)) <;>
    (refine XL.nil ?_)) <;> (first | refine Ex.then ?_ | (refine N.next ?_ <;> (refine X.text (L := (.op .fin 0 (.op .fin 1 (.op .fin 2 (.op .fin 3 (.op .fin 4 .nil)))))) rfl (by kernel_rfl) ?_ <;>
    ((apply XL.det0F rfl rfl rfl rfl; exact D.move rfl)) <;>
    ((apply XL.det0F rfl rfl rfl rfl; exact D.move rfl)) <;>
    ((apply XL.det0F rfl rfl rfl rfl; exact D.convI rfl hxl)) <;>
    ((refine XL.sliceL (fun n : Nat => .int .u64 (n : Int)) encW1 [x.toNat] (fun _ => rfl) (fun _ => rfl) rfl rfl rfl rfl rfl rfl (fun _ => by infer_instance) (fun gy => ?_))) <;>
    ((refine XL.callF [cells g [.slice a1 (List.length o) c1] 81, own 5 1 (.slice a1 (List.length o) c1) (List.length o) (encY o)] rfl rfl rfl rfl (fun w F hF hm hw => OVar_spec w F g a1 (some ⟨gy, 0, none⟩) c1 1 o [x.toNat] hF (hm.own (a := some ⟨gy, 0, none⟩)) (fun z hz => by rw [List.mem_singleton] at hz; omega) (by simp only [List.length_cons, List.length_nil]; omega)) ?_; rintro v B' ⟨a2, c2, o2, rfl, ho2, rfl⟩; refine XL.both ?_); have ho2' : o2 = o ++ varB x.toNat := (by rw [ho2]; simp)) <;>
    (refine XL.nil ?_))))) <;> (first | refine N.block ?_ | refine Ex.here ?_ | refine Ex.out rfl ?_)) <;> (first | refine Ex.then ?_ | (refine N.next ?_ <;> (refine X.text (L := (.op .fin 0 (.op .fin 1 .nil))) rfl (by kernel_rfl) ?_ <;>
    ((apply XL.det0F rfl rfl rfl rfl; first | exact D.add64 rfl rfl (by omega) | exact D.int rfl rfl rfl)) <;>
    ((apply XL.det0F rfl rfl rfl rfl; exact D.move rfl)) <;>
    (refine XL.nil ?_))))))))))) <;> (first | refine Ex.then ?_ | ((refine N.again ((i + 1, a2, c2, o2)) ?_ ?_ ?_ ?_; (focus (exact ⟨by dsimp only; omega, by dsimp only; rw [ho2', ho, take_snocE hxi]; simp, by dsimp only; rw [ho2', List.length_append]; omega⟩)); (focus (first | omega | (dsimp only; omega))); (focus (repeat (first | exact Sub.nil | refine Sub.cons rfl ?_))); exact (fun w h => h.takes))))) <;> (first | refine N.block ?_ | refine Ex.here ?_ | refine Ex.out rfl ?_))))) <;> ((repeat (first | refine Rt.then ?_ | refine Rt.block ?_ | refine Rt.scope ?_)); (first | apply N.done (Res.r0 Try.results59 ) | apply N.doneM (Res.r0 Try.results59 )); (focus (exact ⟨a1, c1, o, rfl, by rw [ho, List.take_of_length_le (by omega)], rfl⟩)); exact fun w h => h.takes)
theorem dHead_spec (w : World) (o : Dob) (a b : Option Addr) (c d : Nat) (hl : Rd w 4 a o.ps.length c (encE o.ps)) (hcs : Rd w 2 b o.cs.length d (encS o.cs)) (h1 : NumsD o) (h2 : LaidP o) (hk : o.k < 18446744073709551616) (hd : o.d.length ≤ 1000000) : Spec Try.prog 38 #[.agg #[.int .u64 ((o.k : Nat) : Int), .int .i64 o.ep, .int .i64 o.sq, .int .i64 o.up, .slice a o.ps.length c, .slice b o.cs.length d, .string ⟨List.toArray o.d⟩]] w (fun _ => False) (fun v A => v = .string ⟨List.toArray (headD o)⟩ ∧ A = []) := by
  have hz := okZ_of h1 h2 hk
  have hzp : ∀ x ∈ o.ps, OkP x := hz.1.1.2.2
  have hzc : ∀ x ∈ o.cs, OkC x := hz.1.2.2
  have hn1 := h2.1
  have hn2 := h2.2.1
  obtain ⟨⟨n1, n2⟩, ⟨n3, n4⟩, n5, n6⟩ := h1
  refine Spec.enter (args := [.agg #[.int .u64 ((o.k : Nat) : Int), .int .i64 o.ep, .int .i64 o.sq, .int .i64 o.up, .slice a o.ps.length c, .slice b o.cs.length d, .string ⟨List.toArray o.d⟩]]) (A := []) Try.func38 rfl Try.ntmps38 rfl (fun _ h => h) ?_
  refine X.mem (B := [own 5 1 (.slice none 0 0) 0 []]) (fun w h => h.nilOwn 5 1) ?_
  (refine X.seq ?_ <;> (refine X.text (L := (.op .fin 0 (.op .fin 1 .nil))) rfl (by kernel_rfl) ?_ <;>
    (refine XL.boxN rfl rfl rfl rfl (by intro g; infer_instance) (fun g1 => ?_)) <;>
    ((apply XL.det0F rfl rfl rfl rfl; exact D.assign rfl)) <;>
    (refine XL.nil ?_)) <;> (first | refine Ex.then ?_ | (refine N.next ?_ <;> (refine X.seq ?_ <;> (refine X.text (L := (.op .fin 0 .nil)) rfl (by kernel_rfl) ?_ <;>
    (refine XL.alloc rfl rfl rfl (by intro g; infer_instance) (fun g3 => ?_)) <;>
    (refine XL.nil ?_)) <;> (first | refine Ex.then ?_ | (refine N.next ?_ <;> (refine X.seq ?_ <;> (refine X.text (L := (.op .fin 0 (.op .fin 1 .nil))) rfl (by kernel_rfl) ?_ <;>
    (obtain ⟨l0, hl0⟩ : ∃ l0 : Bs, l0 = [] := (⟨_, rfl⟩); refine XL.mem (B := [cells g3 [.slice none (List.length l0) 0] 81, own 5 1 (.slice none (List.length l0) 0) (List.length l0) (encY l0), cells g1 [.int .u64 ((o.k : Nat) : Int), .int .i64 o.ep, .int .i64 o.sq, .int .i64 o.up, .slice a o.ps.length c, .slice b o.cs.length d, .string ⟨List.toArray o.d⟩] 26]) (fun w h => by subst hl0; exact (h.takes : Conf _ [cells g3 [.slice none 0 0] 81, own 5 1 (.slice none 0 0) 0 [], cells g1 [.int .u64 ((o.k : Nat) : Int), .int .i64 o.ep, .int .i64 o.sq, .int .i64 o.up, .slice a o.ps.length c, .slice b o.cs.length d, .string ⟨List.toArray o.d⟩] 26] w)) ?_; (refine XL.sliceL (fun s : Bs => .string ⟨s.toArray⟩) encT1 [kdD] (fun _ => rfl) (fun _ => rfl) rfl rfl rfl rfl rfl rfl (fun _ => by infer_instance) (fun ga => ?_))) <;>
    ((refine XL.callF [cells g3 [.slice none (List.length l0) 0] 81, own 5 1 (.slice none (List.length l0) 0) (List.length l0) (encY l0)] rfl rfl rfl rfl (fun w F hF hm hw => ORaw_spec w F g3 none (some ⟨ga, 0, none⟩) 0 1 l0 [kdD] hF (hm.own (a := some ⟨ga, 0, none⟩)) ⟨by rw [hl0]; decide, by decide⟩) ?_; rintro v B' ⟨a1, c1, o1, rfl, ho1, rfl⟩; refine XL.both ?_); have hk1 : o1 = kdD := (by rw [ho1, hl0]; rfl); have hb1 : o1.length = 4 := (by rw [hk1]; rfl)) <;>
    (refine XL.nil ?_)) <;> (first | refine Ex.then ?_ | (refine N.next ?_ <;> (refine X.seq ?_ <;> (refine X.text (L := (.op .fin 0 (.op .fin 1 (.op .fin 2 .nil)))) rfl (by kernel_rfl) ?_ <;>
    ((apply XL.det0F rfl rfl rfl rfl; first | exact D.fieldAddrB0 rfl rfl | exact D.fieldAddrB rfl rfl | exact D.fieldAddrE0 rfl rfl | exact D.fieldAddrE rfl rfl)) <;>
    ((apply XL.detF rfl rfl rfl rfl; first | exact D.load1 rfl (fun w h => h.cellAt (Loc.at_) rfl) | exact D.loadN rfl rfl (fun w h j u hu => by rw [at_add, Nat.zero_add]; exact h.cellAt (Loc.at_) hu) | exact D.loadP rfl rfl)) <;>
    ((refine XL.callF [cells g3 [.slice a1 (List.length o1) c1] 81, own 5 1 (.slice a1 (List.length o1) c1) (List.length o1) (encY o1)] rfl rfl rfl rfl (fun w F hF hm hw => OFixed_spec w F g3 a1 c1 o1 o.k 8 hF (by decide) (by omega)) ?_; rintro v B' ⟨a2, c2, o2, rfl, ho2, rfl⟩; refine XL.both ?_); have hb2 : o2.length = o1.length + 8 := (by rw [ho2, List.length_append, fixB_len])) <;>
    (refine XL.nil ?_)) <;> (first | refine Ex.then ?_ | (refine N.next ?_ <;> (refine X.seq ?_ <;> (refine X.text (L := (.op .fin 0 (.op .fin 1 (.op .fin 2 (.op .fin 3 (.op .fin 4 (.op .fin 5 (.op .fin 6 (.op .fin 7 (.op .fin 8 (.op .fin 9 (.op .fin 10 .nil)))))))))))) rfl (by kernel_rfl) ?_ <;>
    ((apply XL.det0F rfl rfl rfl rfl; first | exact D.fieldAddrB0 rfl rfl | exact D.fieldAddrB rfl rfl | exact D.fieldAddrE0 rfl rfl | exact D.fieldAddrE rfl rfl)) <;>
    ((apply XL.detF rfl rfl rfl rfl; first | exact D.load1 rfl (fun w h => h.cellAt (Loc.at_) rfl) | exact D.loadN rfl rfl (fun w h j u hu => by rw [at_add, Nat.zero_add]; exact h.cellAt (Loc.at_) hu) | exact D.loadP rfl rfl)) <;>
    ((apply XL.det0F rfl rfl rfl rfl; first | exact D.fieldAddrB0 rfl rfl | exact D.fieldAddrB rfl rfl | exact D.fieldAddrE0 rfl rfl | exact D.fieldAddrE rfl rfl)) <;>
    ((apply XL.detF rfl rfl rfl rfl; first | exact D.load1 rfl (fun w h => h.cellAt (Loc.at_) rfl) | exact D.loadN rfl rfl (fun w h j u hu => by rw [at_add, Nat.zero_add]; exact h.cellAt (Loc.at_) hu) | exact D.loadP rfl rfl)) <;>
    ((apply XL.det0F rfl rfl rfl rfl; first | exact D.fieldAddrB0 rfl rfl | exact D.fieldAddrB rfl rfl | exact D.fieldAddrE0 rfl rfl | exact D.fieldAddrE rfl rfl)) <;>
    ((apply XL.detF rfl rfl rfl rfl; first | exact D.load1 rfl (fun w h => h.cellAt (Loc.at_) rfl) | exact D.loadN rfl rfl (fun w h j u hu => by rw [at_add, Nat.zero_add]; exact h.cellAt (Loc.at_) hu) | exact D.loadP rfl rfl)) <;>
    ((apply XL.det0F rfl rfl rfl rfl; first | exact D.fieldAddrB0 rfl rfl | exact D.fieldAddrB rfl rfl | exact D.fieldAddrE0 rfl rfl | exact D.fieldAddrE rfl rfl)) <;>
    ((apply XL.detF rfl rfl rfl rfl; first | exact D.load1 rfl (fun w h => h.cellAt (Loc.at_) rfl) | exact D.loadN rfl rfl (fun w h j u hu => by rw [at_add, Nat.zero_add]; exact h.cellAt (Loc.at_) hu) | exact D.loadP rfl rfl)) <;>
    ((apply XL.det0F rfl rfl rfl rfl; first | exact D.len rfl | exact D.lenL rfl | exact D.lenS rfl)) <;>
    ((refine XL.sliceL (fun n : Int => .int .i64 n) encN1 [o.ep, o.sq, o.up, ((o.ps.length : Nat) : Int)] (fun _ => rfl) (fun _ => rfl) rfl rfl rfl rfl rfl rfl (fun _ => by infer_instance) (fun gb => ?_))) <;>
    ((refine XL.callF [cells g3 [.slice a2 (List.length o2) c2] 81, own 5 1 (.slice a2 (List.length o2) c2) (List.length o2) (encY o2)] rfl rfl rfl rfl (fun w F hF hm hw => numbers_spec w F g3 a2 (some ⟨gb, 0, none⟩) c2 4 o2 [o.ep, o.sq, o.up, ((o.ps.length : Nat) : Int)] hF (hm.own (a := some ⟨gb, 0, none⟩)) (fun z hz => by simp only [List.mem_cons, List.not_mem_nil, or_false] at hz; omega) (by simp only [List.length_cons, List.length_nil]; omega)) ?_; rintro v B' ⟨a3, c3, o3, rfl, ho3, rfl⟩; refine XL.both ?_); have hk3 : o3 = kdD ++ (((((fixB o.k 8 ++ varB o.ep.toNat) ++ varB o.sq.toNat) ++ varB o.up.toNat) ++ varB o.ps.length)) := (by rw [ho3, ho2, hk1]; simp); have hb3 : o3.length ≤ 60 := (by have q1 := varB_le o.ep.toNat; have q2 := varB_le o.sq.toNat; have q3 := varB_le o.up.toNat; have q4 := varB_le o.ps.length; have q5 := fixB_len o.k 8; have q6 : kdD.length = 4 := rfl; rw [hk3]; simp only [List.length_append]; omega)) <;>
    (refine XL.nil ?_)) <;> (first | refine Ex.then ?_ | (refine N.next ?_ <;> (refine X.seq ?_ <;> (refine X.seq ?_ <;> (refine X.text (L := (.op .fin 0 (.op .fin 1 (.op .fin 2 (.op .fin 3 .nil))))) rfl (by kernel_rfl) ?_ <;>
    ((apply XL.det0F rfl rfl rfl rfl; first | exact D.fieldAddrB0 rfl rfl | exact D.fieldAddrB rfl rfl | exact D.fieldAddrE0 rfl rfl | exact D.fieldAddrE rfl rfl)) <;>
    ((apply XL.detF rfl rfl rfl rfl; first | exact D.load1 rfl (fun w h => h.cellAt (Loc.at_) rfl) | exact D.loadN rfl rfl (fun w h j u hu => by rw [at_add, Nat.zero_add]; exact h.cellAt (Loc.at_) hu) | exact D.loadP rfl rfl)) <;>
    ((apply XL.det0F rfl rfl rfl rfl; first | exact D.len rfl | exact D.lenL rfl | exact D.lenS rfl)) <;>
    ((apply XL.det0F rfl rfl rfl rfl; exact D.move rfl)) <;>
    (refine XL.nil ?_)) <;> (first | refine Ex.then ?_ | (refine N.next ?_ <;> (refine X.block ?_ <;> ((refine X.loop (ι := Nat × Option Addr × Nat × Bs) (fun y => [(1, .pointer (some ⟨g1, 0, none⟩)), (3, .pointer (some ⟨g3, 0, none⟩)), (25, .slice a o.ps.length c), (26, .int .i64 o.ps.length), (27, .int .i64 y.1)]) (fun y => [cells g3 [.slice y.2.1 (List.length y.2.2.2) y.2.2.1] 81, own 5 1 (.slice y.2.1 (List.length y.2.2.2) y.2.2.1) (List.length y.2.2.2) (encY y.2.2.2), cells g1 [.int .u64 ((o.k : Nat) : Int), .int .i64 o.ep, .int .i64 o.sq, .int .i64 o.up, .slice a o.ps.length c, .slice b o.cs.length d, .string ⟨List.toArray o.d⟩] 26]) (fun y => y.1 ≤ o.ps.length ∧ y.2.2.2 = o3 ++ (o.ps.take y.1).flatMap ptB ∧ y.2.2.2.length ≤ 60 + 36 * y.1) (fun y => o.ps.length - y.1) ((0, a3, c3, o3)) ?_ ?_ ?_ ?_; (focus (exact ⟨Nat.zero_le _, by simp, by dsimp only; omega⟩)); (focus (repeat (first | exact Sub.nil | refine Sub.cons rfl ?_))); (focus (exact (fun w h => h.takes))); rintro ⟨i, a4, c4, o4⟩ ⟨hi, ho4, hb4⟩; (dsimp only at *)) <;> (refine X.seq ?_ <;> (refine X.text (L := (.op .fin 0 .nil)) rfl (by kernel_rfl) ?_ <;>
    (refine XL.splitF rfl rfl rfl rfl (D.int rfl rfl rfl) (fun h3 => ?_) (fun h3 => ?_)) <;>
    (refine XL.nil ?_)) <;> (first | refine Ex.then ?_ | (refine N.next ?_ <;> (refine X.seq ?_ <;> ((
    refine X.cond rfl ?_ ?_; rotate_left; (focus (
    intro hc; first | exact absurd hc (by decide) | (cases hc; done) | (refine X.exit ?_))); rotate_right; (focus (
    intro hc; first | exact absurd hc (by decide) | (cases hc; done) | (refine X.skip ?_))))) <;> (first | refine Ex.then ?_ | (refine N.next ?_ <;> (refine X.seq ?_ <;> (refine X.block ?_ <;> (refine X.seq ?_ <;> (refine X.text (L := (.op .fin 0 (.op .fin 1 (.op .fin 2 (.op .fin 3 .nil))))) rfl (by kernel_rfl) ?_ <;>
    (have hil : i < o.ps.length := (by omega); (obtain ⟨x, hx⟩ := get_lt hil); (obtain ⟨z1, z2, z3, z4⟩ := hzp x (List.mem_of_getElem? hx)); (apply XL.det0F rfl rfl rfl rfl; exact D.indexAddr i rfl rfl rfl hil (hl.sm (by omega)))) <;>
    ((apply XL.detF rfl rfl rfl rfl; exact D.loadN rfl rfl (fun w hw j u hu => Rd.ext (hl.conf0 hw) hx j u hu))) <;>
    (refine XL.alloc rfl rfl rfl (by intro g; infer_instance) (fun g => ?_)) <;>
    (first | refine XL.store1 rfl rfl rfl rfl rfl ?_ | refine XL.storeN rfl rfl rfl rfl rfl rfl ?_ | refine XL.storeP rfl rfl rfl rfl rfl rfl ?_) <;>
    (refine XL.nil ?_)) <;> (first | refine Ex.then ?_ | (refine N.next ?_ <;> (refine X.text (L := (.op .fin 0 (.op .fin 1 (.op .fin 2 (.op .fin 3 (.op .fin 4 (.op .fin 5 (.op .fin 6 (.op .fin 7 (.op .fin 8 (.op .fin 9 (.op .fin 10 (.op .fin 11 (.op .fin 12 (.op .fin 13 .nil))))))))))))))) rfl (by kernel_rfl) ?_ <;>
    ((apply XL.det0F rfl rfl rfl rfl; first | exact D.fieldAddrB0 rfl rfl | exact D.fieldAddrB rfl rfl | exact D.fieldAddrE0 rfl rfl | exact D.fieldAddrE rfl rfl)) <;>
    ((apply XL.det0F rfl rfl rfl rfl; first | exact D.fieldAddrB0 rfl rfl | exact D.fieldAddrB rfl rfl | exact D.fieldAddrE0 rfl rfl | exact D.fieldAddrE rfl rfl)) <;>
    ((apply XL.detF rfl rfl rfl rfl; first | exact D.load1 rfl (fun w h => h.cellAt (Loc.at_) rfl) | exact D.loadN rfl rfl (fun w h j u hu => by rw [at_add, Nat.zero_add]; exact h.cellAt (Loc.at_) hu) | exact D.loadP rfl rfl)) <;>
    ((apply XL.det0F rfl rfl rfl rfl; first | exact D.fieldAddrB0 rfl rfl | exact D.fieldAddrB rfl rfl | exact D.fieldAddrE0 rfl rfl | exact D.fieldAddrE rfl rfl)) <;>
    ((apply XL.det0F rfl rfl rfl rfl; first | exact D.fieldAddrB0 rfl rfl | exact D.fieldAddrB rfl rfl | exact D.fieldAddrE0 rfl rfl | exact D.fieldAddrE rfl rfl)) <;>
    ((apply XL.detF rfl rfl rfl rfl; first | exact D.load1 rfl (fun w h => h.cellAt (Loc.at_) rfl) | exact D.loadN rfl rfl (fun w h j u hu => by rw [at_add, Nat.zero_add]; exact h.cellAt (Loc.at_) hu) | exact D.loadP rfl rfl)) <;>
    ((apply XL.det0F rfl rfl rfl rfl; first | exact D.fieldAddrB0 rfl rfl | exact D.fieldAddrB rfl rfl | exact D.fieldAddrE0 rfl rfl | exact D.fieldAddrE rfl rfl)) <;>
    ((apply XL.det0F rfl rfl rfl rfl; first | exact D.fieldAddrB0 rfl rfl | exact D.fieldAddrB rfl rfl | exact D.fieldAddrE0 rfl rfl | exact D.fieldAddrE rfl rfl)) <;>
    ((apply XL.detF rfl rfl rfl rfl; first | exact D.load1 rfl (fun w h => h.cellAt (Loc.at_) rfl) | exact D.loadN rfl rfl (fun w h j u hu => by rw [at_add, Nat.zero_add]; exact h.cellAt (Loc.at_) hu) | exact D.loadP rfl rfl)) <;>
    ((apply XL.det0F rfl rfl rfl rfl; first | exact D.fieldAddrB0 rfl rfl | exact D.fieldAddrB rfl rfl | exact D.fieldAddrE0 rfl rfl | exact D.fieldAddrE rfl rfl)) <;>
    ((apply XL.det0F rfl rfl rfl rfl; first | exact D.fieldAddrB0 rfl rfl | exact D.fieldAddrB rfl rfl | exact D.fieldAddrE0 rfl rfl | exact D.fieldAddrE rfl rfl)) <;>
    ((apply XL.detF rfl rfl rfl rfl; first | exact D.load1 rfl (fun w h => h.cellAt (Loc.at_) rfl) | exact D.loadN rfl rfl (fun w h j u hu => by rw [at_add, Nat.zero_add]; exact h.cellAt (Loc.at_) hu) | exact D.loadP rfl rfl)) <;>
    ((refine XL.sliceL (fun n : Int => .int .i64 n) encN1 [x.a, x.n, x.q, x.p] (fun _ => rfl) (fun _ => rfl) rfl rfl rfl rfl rfl rfl (fun _ => by infer_instance) (fun gb => ?_))) <;>
    ((refine XL.callF [cells g3 [.slice a4 (List.length o4) c4] 81, own 5 1 (.slice a4 (List.length o4) c4) (List.length o4) (encY o4)] rfl rfl rfl rfl (fun w F hF hm hw => numbers_spec w F g3 a4 (some ⟨gb, 0, none⟩) c4 4 o4 [x.a, x.n, x.q, x.p] hF (hm.own (a := some ⟨gb, 0, none⟩)) (fun z hz => by simp only [List.mem_cons, List.not_mem_nil, or_false] at hz; omega) (by simp only [List.length_cons, List.length_nil]; omega)) ?_; rintro v B' ⟨a5, c5, o5, rfl, ho5, rfl⟩; refine XL.both ?_); have hk5 : o5 = o4 ++ ptB x := (by rw [ho5]; simp [ptB]); have hb5 := ptB_len x) <;>
    (refine XL.nil ?_))))) <;> (first | refine N.block ?_ | refine Ex.here ?_ | refine Ex.out rfl ?_)) <;> (first | refine Ex.then ?_ | (refine N.next ?_ <;> (refine X.text (L := (.op .fin 0 (.op .fin 1 .nil))) rfl (by kernel_rfl) ?_ <;>
    ((apply XL.det0F rfl rfl rfl rfl; first | exact D.add64 rfl rfl (by omega) | exact D.int rfl rfl rfl)) <;>
    ((apply XL.det0F rfl rfl rfl rfl; exact D.move rfl)) <;>
    (refine XL.nil ?_))))))))))) <;> (first | refine Ex.then ?_ | ((refine N.again ((i + 1, a5, c5, o5)) ?_ ?_ ?_ ?_; (focus (exact ⟨by dsimp only; omega, by dsimp only; rw [hk5, ho4, take_snocE hx]; simp, by dsimp only; rw [hk5, List.length_append]; omega⟩)); (focus (first | omega | (dsimp only; omega))); (focus (repeat (first | exact Sub.nil | refine Sub.cons rfl ?_))); exact (fun w h => h.takes))))) <;> (first | refine N.block ?_ | refine Ex.here ?_ | refine Ex.out rfl ?_))))) <;> (first | refine Ex.then ?_ | (refine N.next ?_ <;> (refine X.seq ?_ <;> (refine X.text (L := (.op .fin 0 (.op .fin 1 (.op .fin 2 (.op .fin 3 (.op .fin 4 .nil)))))) rfl (by kernel_rfl) ?_ <;>
    ((apply XL.det0F rfl rfl rfl rfl; first | exact D.fieldAddrB0 rfl rfl | exact D.fieldAddrB rfl rfl | exact D.fieldAddrE0 rfl rfl | exact D.fieldAddrE rfl rfl)) <;>
    ((apply XL.detF rfl rfl rfl rfl; first | exact D.load1 rfl (fun w h => h.cellAt (Loc.at_) rfl) | exact D.loadN rfl rfl (fun w h j u hu => by rw [at_add, Nat.zero_add]; exact h.cellAt (Loc.at_) hu) | exact D.loadP rfl rfl)) <;>
    ((apply XL.det0F rfl rfl rfl rfl; first | exact D.len rfl | exact D.lenL rfl | exact D.lenS rfl)) <;>
    ((obtain rfl : i = o.ps.length := (by omega)); rw [List.take_length] at ho4; (refine XL.sliceL (fun n : Int => .int .i64 n) encN1 [((o.cs.length : Nat) : Int)] (fun _ => rfl) (fun _ => rfl) rfl rfl rfl rfl rfl rfl (fun _ => by infer_instance) (fun gb => ?_))) <;>
    ((refine XL.callF [cells g3 [.slice a4 (List.length o4) c4] 81, own 5 1 (.slice a4 (List.length o4) c4) (List.length o4) (encY o4)] rfl rfl rfl rfl (fun w F hF hm hw => numbers_spec w F g3 a4 (some ⟨gb, 0, none⟩) c4 1 o4 [((o.cs.length : Nat) : Int)] hF (hm.own (a := some ⟨gb, 0, none⟩)) (fun z hz => by rw [List.mem_singleton] at hz; omega) (by simp only [List.length_cons, List.length_nil]; omega)) ?_; rintro v B' ⟨a6, c6, o6, rfl, ho6, rfl⟩; refine XL.both ?_); have hk6 : o6 = o4 ++ varB o.cs.length := (by rw [ho6]; simp); have hb6 := varB_le o.cs.length; have hb6' : o6.length ≤ 70 + 36 * o.ps.length := (by rw [hk6, List.length_append]; omega)) <;>
    (refine XL.nil ?_)) <;> (first | refine Ex.then ?_ | (refine N.next ?_ <;> (refine X.seq ?_ <;> (refine X.seq ?_ <;> (refine X.text (L := (.op .fin 0 (.op .fin 1 (.op .fin 2 (.op .fin 3 .nil))))) rfl (by kernel_rfl) ?_ <;>
    ((apply XL.det0F rfl rfl rfl rfl; first | exact D.fieldAddrB0 rfl rfl | exact D.fieldAddrB rfl rfl | exact D.fieldAddrE0 rfl rfl | exact D.fieldAddrE rfl rfl)) <;>
    ((apply XL.detF rfl rfl rfl rfl; first | exact D.load1 rfl (fun w h => h.cellAt (Loc.at_) rfl) | exact D.loadN rfl rfl (fun w h j u hu => by rw [at_add, Nat.zero_add]; exact h.cellAt (Loc.at_) hu) | exact D.loadP rfl rfl)) <;>
    ((apply XL.det0F rfl rfl rfl rfl; first | exact D.len rfl | exact D.lenL rfl | exact D.lenS rfl)) <;>
    ((apply XL.det0F rfl rfl rfl rfl; exact D.move rfl)) <;>
    (refine XL.nil ?_)) <;> (first | refine Ex.then ?_ | (refine N.next ?_ <;> (refine X.block ?_ <;> ((refine X.loop (ι := Nat × Option Addr × Nat × Bs) (fun y => [(1, .pointer (some ⟨g1, 0, none⟩)), (3, .pointer (some ⟨g3, 0, none⟩)), (52, .slice b o.cs.length d), (53, .int .i64 o.cs.length), (54, .int .i64 y.1)]) (fun y => [cells g3 [.slice y.2.1 (List.length y.2.2.2) y.2.2.1] 81, own 5 1 (.slice y.2.1 (List.length y.2.2.2) y.2.2.1) (List.length y.2.2.2) (encY y.2.2.2), cells g1 [.int .u64 ((o.k : Nat) : Int), .int .i64 o.ep, .int .i64 o.sq, .int .i64 o.up, .slice a o.ps.length c, .slice b o.cs.length d, .string ⟨List.toArray o.d⟩] 26]) (fun y => y.1 ≤ o.cs.length ∧ y.2.2.2 = o6 ++ (o.cs.take y.1).flatMap csB ∧ y.2.2.2.length ≤ 70 + 36 * o.ps.length + 18 * y.1) (fun y => o.cs.length - y.1) ((0, a6, c6, o6)) ?_ ?_ ?_ ?_; (focus (exact ⟨Nat.zero_le _, by simp, by dsimp only; omega⟩)); (focus (repeat (first | exact Sub.nil | refine Sub.cons rfl ?_))); (focus (exact (fun w h => h.takes))); rintro ⟨k, a7, c7, o7⟩ ⟨hi7, ho7, hb7⟩; (dsimp only at *)) <;> (refine X.seq ?_ <;> (refine X.text (L := (.op .fin 0 .nil)) rfl (by kernel_rfl) ?_ <;>
    (refine XL.splitF rfl rfl rfl rfl (D.int rfl rfl rfl) (fun h3 => ?_) (fun h3 => ?_)) <;>
    (refine XL.nil ?_)) <;> (first | refine Ex.then ?_ | (refine N.next ?_ <;> (refine X.seq ?_ <;> ((
    refine X.cond rfl ?_ ?_; rotate_left; (focus (
    intro hc; first | exact absurd hc (by decide) | (cases hc; done) | (refine X.exit ?_))); rotate_right; (focus (
    intro hc; first | exact absurd hc (by decide) | (cases hc; done) | (refine X.skip ?_))))) <;> (first | refine Ex.then ?_ | (refine N.next ?_ <;> (refine X.seq ?_ <;> (refine X.block ?_ <;> (refine X.seq ?_ <;> (refine X.text (L := (.op .fin 0 (.op .fin 1 (.op .fin 2 (.op .fin 3 .nil))))) rfl (by kernel_rfl) ?_ <;>
    (have hil : k < o.cs.length := (by omega); (obtain ⟨x, hx⟩ := get_lt hil); (obtain ⟨z1, z2⟩ := hzc x (List.mem_of_getElem? hx)); (apply XL.det0F rfl rfl rfl rfl; exact D.indexAddr k rfl rfl rfl hil (hcs.sm (by omega)))) <;>
    ((apply XL.detF rfl rfl rfl rfl; exact D.loadN rfl rfl (fun w hw j u hu => Rd.sp (hcs.conf0 hw) hx j u hu))) <;>
    (refine XL.alloc rfl rfl rfl (by intro g; infer_instance) (fun g => ?_)) <;>
    (first | refine XL.store1 rfl rfl rfl rfl rfl ?_ | refine XL.storeN rfl rfl rfl rfl rfl rfl ?_ | refine XL.storeP rfl rfl rfl rfl rfl rfl ?_) <;>
    (refine XL.nil ?_)) <;> (first | refine Ex.then ?_ | (refine N.next ?_ <;> (refine X.text (L := (.op .fin 0 (.op .fin 1 (.op .fin 2 (.op .fin 3 (.op .fin 4 (.op .fin 5 .nil))))))) rfl (by kernel_rfl) ?_ <;>
    ((apply XL.det0F rfl rfl rfl rfl; first | exact D.fieldAddrB0 rfl rfl | exact D.fieldAddrB rfl rfl | exact D.fieldAddrE0 rfl rfl | exact D.fieldAddrE rfl rfl)) <;>
    ((apply XL.detF rfl rfl rfl rfl; first | exact D.load1 rfl (fun w h => h.cellAt (Loc.at_) rfl) | exact D.loadN rfl rfl (fun w h j u hu => by rw [at_add, Nat.zero_add]; exact h.cellAt (Loc.at_) hu) | exact D.loadP rfl rfl)) <;>
    ((apply XL.det0F rfl rfl rfl rfl; first | exact D.fieldAddrB0 rfl rfl | exact D.fieldAddrB rfl rfl | exact D.fieldAddrE0 rfl rfl | exact D.fieldAddrE rfl rfl)) <;>
    ((apply XL.detF rfl rfl rfl rfl; first | exact D.load1 rfl (fun w h => h.cellAt (Loc.at_) rfl) | exact D.loadN rfl rfl (fun w h j u hu => by rw [at_add, Nat.zero_add]; exact h.cellAt (Loc.at_) hu) | exact D.loadP rfl rfl)) <;>
    ((refine XL.sliceL (fun n : Int => .int .i64 n) encN1 [x.1, x.2] (fun _ => rfl) (fun _ => rfl) rfl rfl rfl rfl rfl rfl (fun _ => by infer_instance) (fun gb => ?_))) <;>
    ((refine XL.callF [cells g3 [.slice a7 (List.length o7) c7] 81, own 5 1 (.slice a7 (List.length o7) c7) (List.length o7) (encY o7)] rfl rfl rfl rfl (fun w F hF hm hw => numbers_spec w F g3 a7 (some ⟨gb, 0, none⟩) c7 2 o7 [x.1, x.2] hF (hm.own (a := some ⟨gb, 0, none⟩)) (fun z hz => by simp only [List.mem_cons, List.not_mem_nil, or_false] at hz; omega) (by simp only [List.length_cons, List.length_nil]; omega)) ?_; rintro v B' ⟨a8, c8, o8, rfl, ho8, rfl⟩; refine XL.both ?_); have hk8 : o8 = o7 ++ csB x := (by rw [ho8]; simp [csB]); have hb8 := csB_len x) <;>
    (refine XL.nil ?_))))) <;> (first | refine N.block ?_ | refine Ex.here ?_ | refine Ex.out rfl ?_)) <;> (first | refine Ex.then ?_ | (refine N.next ?_ <;> (refine X.text (L := (.op .fin 0 (.op .fin 1 .nil))) rfl (by kernel_rfl) ?_ <;>
    ((apply XL.det0F rfl rfl rfl rfl; first | exact D.add64 rfl rfl (by omega) | exact D.int rfl rfl rfl)) <;>
    ((apply XL.det0F rfl rfl rfl rfl; exact D.move rfl)) <;>
    (refine XL.nil ?_))))))))))) <;> (first | refine Ex.then ?_ | ((refine N.again ((k + 1, a8, c8, o8)) ?_ ?_ ?_ ?_; (focus (exact ⟨by dsimp only; omega, by dsimp only; rw [hk8, ho7, take_snocE hx]; simp, by dsimp only; rw [hk8, List.length_append]; omega⟩)); (focus (first | omega | (dsimp only; omega))); (focus (repeat (first | exact Sub.nil | refine Sub.cons rfl ?_))); exact (fun w h => h.takes))))) <;> (first | refine N.block ?_ | refine Ex.here ?_ | refine Ex.out rfl ?_))))) <;> (first | refine Ex.then ?_ | (refine N.next ?_ <;> (refine X.seq ?_ <;> (refine X.text (L := (.op .fin 0 (.op .fin 1 (.op .fin 2 (.op .fin 3 (.op .fin 4 (.op .fin 5 .nil))))))) rfl (by kernel_rfl) ?_ <;>
    ((apply XL.det0F rfl rfl rfl rfl; first | exact D.fieldAddrB0 rfl rfl | exact D.fieldAddrB rfl rfl | exact D.fieldAddrE0 rfl rfl | exact D.fieldAddrE rfl rfl)) <;>
    ((apply XL.detF rfl rfl rfl rfl; first | exact D.load1 rfl (fun w h => h.cellAt (Loc.at_) rfl) | exact D.loadN rfl rfl (fun w h j u hu => by rw [at_add, Nat.zero_add]; exact h.cellAt (Loc.at_) hu) | exact D.loadP rfl rfl)) <;>
    ((obtain rfl : k = o.cs.length := (by omega)); rw [List.take_length] at ho7; (refine XL.sliceL (fun s : Bs => .string ⟨s.toArray⟩) encT1 [o.d] (fun _ => rfl) (fun _ => rfl) rfl rfl rfl rfl rfl rfl (fun _ => by infer_instance) (fun gd => ?_))) <;>
    ((refine XL.call rfl rfl rfl rfl (fun w hw => Sum_spec w (some ⟨gd, 0, none⟩) 1 [o.d] (hw.rd (a := some ⟨gd, 0, none⟩)) (fun t ht => by rw [List.mem_singleton] at ht; subst ht; omega)) ?_; rintro v B' ⟨rfl, rfl⟩; refine XL.both ?_); rw [show [o.d].flatten = o.d from (by simp)]; have hcr := crc_lt o.d) <;>
    ((apply XL.det0F rfl rfl rfl rfl; exact D.convN rfl rfl); rw [Nat.mod_eq_of_lt (show crc o.d < 2 ^ IntKind.u64.bits from Nat.lt_trans hcr (by decide))]) <;>
    ((refine XL.callF [cells g3 [.slice a7 (List.length o7) c7] 81, own 5 1 (.slice a7 (List.length o7) c7) (List.length o7) (encY o7)] rfl rfl rfl rfl (fun w F hF hm hw => OFixed_spec w F g3 a7 c7 o7 (crc o.d) 4 hF (by decide) (by omega)) ?_; rintro v B' ⟨a9, c9, o9, rfl, ho9, rfl⟩; refine XL.both ?_); have hk9 : o9 = headD o := (by rw [ho9, ho7, hk6, ho4, hk3]; simp [headD, hdE, zO, cntB])) <;>
    (refine XL.nil ?_)) <;> (first | refine Ex.then ?_ | (refine N.next ?_ <;> (refine X.seq ?_ <;> (refine X.text (L := (.op .fin 0 (.op .fin 1 .nil))) rfl (by kernel_rfl) ?_ <;>
    ((refine XL.call rfl rfl rfl rfl (fun w hw => OString_spec w g3 a9 c9 o9 (hw.cellAt (Loc.at_) rfl) (hw.rd (a := a9))) ?_; rintro v B' ⟨rfl, rfl⟩; refine XL.both ?_); rw [hk9]) <;>
    ((apply XL.det0F rfl rfl rfl rfl; exact D.assign rfl)) <;>
    (refine XL.nil ?_)) <;> (first | refine Ex.then ?_ | (refine N.next ?_ <;> ((refine X.ret ?_; (repeat (first | refine Rt.then ?_ | refine Rt.block ?_ | refine Rt.scope ?_)); (first | apply Rt.done (Res.r1 Try.results38 (RV.tmp rfl)) | apply Rt.doneM (Res.r1 Try.results38 (RV.tmp rfl))); (focus (exact ⟨rfl, rfl⟩)); exact fun w h => h.takes))))))))))))))))))))))))))))))))
theorem dBytes_spec (w : World) (o : Dob) (a b : Option Addr) (c d : Nat) (hl : Rd w 4 a o.ps.length c (encE o.ps)) (hcs : Rd w 2 b o.cs.length d (encS o.cs)) (h1 : NumsD o) (h2 : LaidP o) (hk : o.k < 18446744073709551616) (hd : o.d.length ≤ 1000000) : Spec Try.prog 23 #[.agg #[.int .u64 ((o.k : Nat) : Int), .int .i64 o.ep, .int .i64 o.sq, .int .i64 o.up, .slice a o.ps.length c, .slice b o.cs.length d, .string ⟨List.toArray o.d⟩]] w (fun _ => False) (fun v A => v = .string ⟨List.toArray (dobB o)⟩ ∧ A = []) := by
  have hhl := headD_len o
  have hn1 := h2.1
  have hn2 := h2.2.1
  have hsl : (sealS (headD o)).length = (headD o).length + 4 := by rw [sealS_len]
  refine Spec.enter (args := [.agg #[.int .u64 ((o.k : Nat) : Int), .int .i64 o.ep, .int .i64 o.sq, .int .i64 o.up, .slice a o.ps.length c, .slice b o.cs.length d, .string ⟨List.toArray o.d⟩]]) (A := []) Try.func23 rfl Try.ntmps23 rfl (fun _ h => h) ?_
  refine X.mem (B := [own 5 1 (.slice none 0 0) 0 []]) (fun w h => h.nilOwn 5 1) ?_
  (refine X.seq ?_ <;> (refine X.text (L := (.op .fin 0 (.op .fin 1 .nil))) rfl (by kernel_rfl) ?_ <;>
    (refine XL.boxN rfl rfl rfl rfl (by intro g; infer_instance) (fun g1 => ?_)) <;>
    ((apply XL.det0F rfl rfl rfl rfl; exact D.assign rfl)) <;>
    (refine XL.nil ?_)) <;> (first | refine Ex.then ?_ | (refine N.next ?_ <;> (refine X.seq ?_ <;> (refine X.text (L := (.op .fin 0 (.op .fin 1 (.op .fin 2 (.op .fin 3 .nil))))) rfl (by kernel_rfl) ?_ <;>
    ((apply XL.detF rfl rfl rfl rfl; first | exact D.load1 rfl (fun w h => h.cellAt (Loc.at_) rfl) | exact D.loadN rfl rfl (fun w h j u hu => by rw [at_add, Nat.zero_add]; exact h.cellAt (Loc.at_) hu) | exact D.loadP rfl rfl)) <;>
    ((refine XL.call rfl rfl rfl rfl (fun w hw => dHead_spec w o a b c d (hl.conf0 hw) (hcs.conf0 hw) h1 h2 hk hd) ?_; rintro v B' ⟨rfl, rfl⟩; refine XL.both ?_)) <;>
    ((refine XL.call rfl rfl rfl rfl (fun w hw => Seal_spec w (headD o) (by omega)) ?_; rintro v B' ⟨rfl, rfl⟩; refine XL.both ?_)) <;>
    ((apply XL.det0F rfl rfl rfl rfl; exact D.assign rfl)) <;>
    (refine XL.nil ?_)) <;> (first | refine Ex.then ?_ | (refine N.next ?_ <;> (refine X.seq ?_ <;> (refine X.text (L := (.op .fin 0 .nil)) rfl (by kernel_rfl) ?_ <;>
    (refine XL.alloc rfl rfl rfl (by intro g; infer_instance) (fun g3 => ?_)) <;>
    (refine XL.nil ?_)) <;> (first | refine Ex.then ?_ | (refine N.next ?_ <;> (refine X.seq ?_ <;> (refine X.text (L := (.op .fin 0 (.op .fin 1 (.op .fin 2 (.op .fin 3 (.op .fin 4 .nil)))))) rfl (by kernel_rfl) ?_ <;>
    ((apply XL.det0F rfl rfl rfl rfl; first | exact D.fieldAddrB0 rfl rfl | exact D.fieldAddrB rfl rfl | exact D.fieldAddrE0 rfl rfl | exact D.fieldAddrE rfl rfl)) <;>
    ((apply XL.detF rfl rfl rfl rfl; first | exact D.load1 rfl (fun w h => h.cellAt (Loc.at_) rfl) | exact D.loadN rfl rfl (fun w h j u hu => by rw [at_add, Nat.zero_add]; exact h.cellAt (Loc.at_) hu) | exact D.loadP rfl rfl)) <;>
    ((apply XL.det0F rfl rfl rfl rfl; exact D.move rfl)) <;>
    (obtain ⟨l0, hl0⟩ : ∃ l0 : Bs, l0 = [] := (⟨_, rfl⟩); refine XL.mem (B := [cells g3 [.slice none (List.length l0) 0] 81, own 5 1 (.slice none (List.length l0) 0) (List.length l0) (encY l0), cells g1 [.int .u64 ((o.k : Nat) : Int), .int .i64 o.ep, .int .i64 o.sq, .int .i64 o.up, .slice a o.ps.length c, .slice b o.cs.length d, .string ⟨List.toArray o.d⟩] 26]) (fun w h => by subst hl0; exact (h.takes : Conf _ [cells g3 [.slice none 0 0] 81, own 5 1 (.slice none 0 0) 0 [], cells g1 [.int .u64 ((o.k : Nat) : Int), .int .i64 o.ep, .int .i64 o.sq, .int .i64 o.up, .slice a o.ps.length c, .slice b o.cs.length d, .string ⟨List.toArray o.d⟩] 26] w)) ?_; (refine XL.sliceL (fun s : Bs => .string ⟨s.toArray⟩) encT1 [o.d, sealS (headD o)] (fun _ => rfl) (fun _ => rfl) rfl rfl rfl rfl rfl rfl (fun _ => by infer_instance) (fun ga => ?_))) <;>
    ((refine XL.callF [cells g3 [.slice none (List.length l0) 0] 81, own 5 1 (.slice none (List.length l0) 0) (List.length l0) (encY l0)] rfl rfl rfl rfl (fun w F hF hm hw => ORaw_spec w F g3 none (some ⟨ga, 0, none⟩) 0 2 l0 [o.d, sealS (headD o)] hF (hm.own (a := some ⟨ga, 0, none⟩)) ⟨by rw [hl0]; simp only [List.flatten_cons, List.flatten_nil, List.append_nil, List.length_append, List.length_nil]; omega, by simp only [List.length_cons, List.length_nil]; omega⟩) ?_; rintro v B' ⟨a1, c1, o1, rfl, ho1, rfl⟩; refine XL.both ?_); have hk1 : o1 = o.d ++ sealS (headD o) := (by rw [ho1, hl0]; simp); have hb1 : o1.length ≤ 1100000 := (by rw [hk1, List.length_append]; omega)) <;>
    (refine XL.nil ?_)) <;> (first | refine Ex.then ?_ | (refine N.next ?_ <;> (refine X.seq ?_ <;> (refine X.text (L := (.op .fin 0 (.op .fin 1 (.op .fin 2 (.op .fin 3 .nil))))) rfl (by kernel_rfl) ?_ <;>
    ((apply XL.det0F rfl rfl rfl rfl; exact D.move rfl)) <;>
    ((apply XL.det0F rfl rfl rfl rfl; first | exact D.len rfl | exact D.lenL rfl | exact D.lenS rfl)) <;>
    ((apply XL.det0F rfl rfl rfl rfl; exact D.convI rfl (by omega)); rw [show (((sealS (headD o)).length : Nat) : Int).toNat = (sealS (headD o)).length from Int.toNat_natCast _]) <;>
    ((refine XL.callF [cells g3 [.slice a1 (List.length o1) c1] 81, own 5 1 (.slice a1 (List.length o1) c1) (List.length o1) (encY o1)] rfl rfl rfl rfl (fun w F hF hm hw => OFixed_spec w F g3 a1 c1 o1 (sealS (headD o)).length 4 hF (by decide) (by omega)) ?_; rintro v B' ⟨a2, c2, o2, rfl, ho2, rfl⟩; refine XL.both ?_); have hk2 : o2 = dobB o := (by rw [ho2, hk1, List.append_assoc]; rfl)) <;>
    (refine XL.nil ?_)) <;> (first | refine Ex.then ?_ | (refine N.next ?_ <;> (refine X.seq ?_ <;> (refine X.text (L := (.op .fin 0 (.op .fin 1 .nil))) rfl (by kernel_rfl) ?_ <;>
    ((refine XL.call rfl rfl rfl rfl (fun w hw => OString_spec w g3 a2 c2 o2 (hw.cellAt (Loc.at_) rfl) (hw.rd (a := a2))) ?_; rintro v B' ⟨rfl, rfl⟩; refine XL.both ?_); rw [hk2]) <;>
    ((apply XL.det0F rfl rfl rfl rfl; exact D.assign rfl)) <;>
    (refine XL.nil ?_)) <;> (first | refine Ex.then ?_ | (refine N.next ?_ <;> ((refine X.ret ?_; (repeat (first | refine Rt.then ?_ | refine Rt.block ?_ | refine Rt.scope ?_)); (first | apply Rt.done (Res.r1 Try.results23 (RV.tmp rfl)) | apply Rt.doneM (Res.r1 Try.results23 (RV.tmp rfl))); (focus (exact ⟨rfl, rfl⟩)); exact fun w h => h.takes))))))))))))))))))))
theorem dChk_spec (w : World) (o : Dob) (a b : Option Addr) (c d : Nat) (hl : Rd w 4 a o.ps.length c (encE o.ps)) (hcs : Rd w 2 b o.cs.length d (encS o.cs)) (hk : o.k < 18446744073709551616) (hd : o.d.length ≤ 1000000) : Spec Try.prog 11 #[.agg #[.int .u64 ((o.k : Nat) : Int), .int .i64 o.ep, .int .i64 o.sq, .int .i64 o.up, .slice a o.ps.length c, .slice b o.cs.length d, .string ⟨List.toArray o.d⟩]] w (fun _ => False) (fun v A => v = .int .i64 (chkD o) ∧ A = []) := by
  refine Spec.enter (args := [.agg #[.int .u64 ((o.k : Nat) : Int), .int .i64 o.ep, .int .i64 o.sq, .int .i64 o.up, .slice a o.ps.length c, .slice b o.cs.length d, .string ⟨List.toArray o.d⟩]]) (A := []) Try.func11 rfl Try.ntmps11 rfl (fun _ h => h) ?_
  (refine X.seq ?_ <;> (refine X.text (L := (.op .fin 0 (.op .fin 1 .nil))) rfl (by kernel_rfl) ?_ <;>
    (refine XL.boxN rfl rfl rfl rfl (by intro g; infer_instance) (fun g1 => ?_)) <;>
    ((apply XL.det0F rfl rfl rfl rfl; exact D.assign rfl)) <;>
    (refine XL.nil ?_)) <;> (first | refine Ex.then ?_ | (refine N.next ?_ <;> (refine X.seq ?_ <;> (refine X.block ?_ <;> (refine X.seq ?_ <;> (refine X.text (L := (.op .fin 0 (.op .fin 1 (.op .fin 2 (.op .fin 3 (.op .fin 4 (.op .fin 5 (.op .fin 6 (.op .fin 7 (.op .fin 8 (.op .fin 9 (.op .fin 10 (.op .fin 11 (.op .fin 12 (.op .fin 13 (.op .fin 14 (.op .fin 15 (.op .fin 16 (.op .fin 17 (.op .fin 18 (.op .fin 19 (.op .fin 20 (.op .fin 21 .nil))))))))))))))))))))))) rfl (by kernel_rfl) ?_ <;>
    ((apply XL.det0F rfl rfl rfl rfl; first | exact D.fieldAddrB0 rfl rfl | exact D.fieldAddrB rfl rfl | exact D.fieldAddrE0 rfl rfl | exact D.fieldAddrE rfl rfl)) <;>
    ((apply XL.detF rfl rfl rfl rfl; first | exact D.load1 rfl (fun w h => h.cellAt (Loc.at_) rfl) | exact D.loadN rfl rfl (fun w h j u hu => by rw [at_add, Nat.zero_add]; exact h.cellAt (Loc.at_) hu) | exact D.loadP rfl rfl)) <;>
    ((refine XL.call rfl rfl rfl rfl (fun w hw => dNumber_spec o.ep 1 w) ?_; rintro v B' ⟨rfl, rfl⟩; refine XL.both ?_); (by_cases n1 : 1 ≤ o.ep ∧ o.ep < 1099511627776 <;> first | rw [decide_eq_true n1] | rw [decide_eq_false n1])) <;>
    ((apply XL.det0F rfl rfl rfl rfl; exact D.not rfl)) <;>
    ((apply XL.det0F rfl rfl rfl rfl; exact D.move rfl)) <;>
    (first | refine XL.skipF rfl rfl rfl rfl ?_ | ((apply XL.det0F rfl rfl rfl rfl; first | exact D.fieldAddrB0 rfl rfl | exact D.fieldAddrB rfl rfl | exact D.fieldAddrE0 rfl rfl | exact D.fieldAddrE rfl rfl))) <;>
    (first | refine XL.skipF rfl rfl rfl rfl ?_ | ((apply XL.detF rfl rfl rfl rfl; first | exact D.load1 rfl (fun w h => h.cellAt (Loc.at_) rfl) | exact D.loadN rfl rfl (fun w h j u hu => by rw [at_add, Nat.zero_add]; exact h.cellAt (Loc.at_) hu) | exact D.loadP rfl rfl))) <;>
    (first | refine XL.skipF rfl rfl rfl rfl ?_ | (first | refine XL.skipF rfl rfl rfl rfl ?_ | ((refine XL.call rfl rfl rfl rfl (fun w hw => dNumber_spec o.sq 1 w) ?_; rintro v B' ⟨rfl, rfl⟩; refine XL.both ?_); (by_cases n2 : 1 ≤ o.sq ∧ o.sq < 1099511627776 <;> first | rw [decide_eq_true n2] | rw [decide_eq_false n2])))) <;>
    (first | refine XL.skipF rfl rfl rfl rfl ?_ | ((apply XL.det0F rfl rfl rfl rfl; exact D.not rfl))) <;>
    ((apply XL.det0F rfl rfl rfl rfl; first | exact D.pickT rfl rfl | exact D.pickF rfl rfl | exact D.pick rfl rfl rfl)) <;>
    ((apply XL.det0F rfl rfl rfl rfl; exact D.move rfl)) <;>
    (first | refine XL.skipF rfl rfl rfl rfl ?_ | ((apply XL.det0F rfl rfl rfl rfl; first | exact D.fieldAddrB0 rfl rfl | exact D.fieldAddrB rfl rfl | exact D.fieldAddrE0 rfl rfl | exact D.fieldAddrE rfl rfl))) <;>
    (first | refine XL.skipF rfl rfl rfl rfl ?_ | ((apply XL.detF rfl rfl rfl rfl; first | exact D.load1 rfl (fun w h => h.cellAt (Loc.at_) rfl) | exact D.loadN rfl rfl (fun w h j u hu => by rw [at_add, Nat.zero_add]; exact h.cellAt (Loc.at_) hu) | exact D.loadP rfl rfl))) <;>
    (first | refine XL.skipF rfl rfl rfl rfl ?_ | (first | refine XL.skipF rfl rfl rfl rfl ?_ | ((refine XL.call rfl rfl rfl rfl (fun w hw => dNumber_spec o.up 0 w) ?_; rintro v B' ⟨rfl, rfl⟩; refine XL.both ?_); (by_cases n3 : 0 ≤ o.up ∧ o.up < 1099511627776 <;> first | rw [decide_eq_true n3] | rw [decide_eq_false n3])))) <;>
    (first | refine XL.skipF rfl rfl rfl rfl ?_ | ((apply XL.det0F rfl rfl rfl rfl; exact D.not rfl))) <;>
    ((apply XL.det0F rfl rfl rfl rfl; first | exact D.pickT rfl rfl | exact D.pickF rfl rfl | exact D.pick rfl rfl rfl)) <;>
    ((apply XL.det0F rfl rfl rfl rfl; exact D.move rfl)) <;>
    (first | refine XL.skipF rfl rfl rfl rfl ?_ | ((apply XL.detF rfl rfl rfl rfl; first | exact D.load1 rfl (fun w h => h.cellAt (Loc.at_) rfl) | exact D.loadN rfl rfl (fun w h j u hu => by rw [at_add, Nat.zero_add]; exact h.cellAt (Loc.at_) hu) | exact D.loadP rfl rfl))) <;>
    (first | refine XL.skipF rfl rfl rfl rfl ?_ | (first | refine XL.skipF rfl rfl rfl rfl ?_ | ((refine XL.call rfl rfl rfl rfl (fun w hw => dLaid_spec w o a b c d (hl.conf0 hw) (hcs.conf0 hw)) ?_; rintro v B' ⟨f, rfl, hf, rfl⟩; refine XL.both ?_); cases f))) <;>
    (first | refine XL.skipF rfl rfl rfl rfl ?_ | ((apply XL.det0F rfl rfl rfl rfl; exact D.not rfl))) <;>
    ((apply XL.det0F rfl rfl rfl rfl; first | exact D.pickT rfl rfl | exact D.pickF rfl rfl | exact D.pick rfl rfl rfl)) <;>
    ((apply XL.det0F rfl rfl rfl rfl; exact D.assign rfl)) <;>
    (refine XL.nil ?_)) <;> (first | refine Ex.then ?_ | (refine N.next ?_ <;> ((
    refine X.cond rfl ?_ ?_; rotate_left; (focus (
    intro hc; first | exact absurd hc (by decide) | (cases hc; done) | (refine X.seq ?_ <;> (refine X.draw (.op .v0 0 (.op .v1 1 (.op .v0 2 (.op .v1 3 (.op .ch 4 (.op .v0 5 (.op .v0 6 (.op .v0 7 .nil)))))))) mixed (by kernel_rfl) ?_ <;>
    ((apply XL.det0 rfl rfl rfl rfl; first | exact D.fieldAddrB0 rfl rfl | exact D.fieldAddrB rfl rfl | exact D.fieldAddrE0 rfl rfl | exact D.fieldAddrE rfl rfl)) <;>
    ((apply XL.det1 rfl rfl rfl rfl; first | exact D.load1 rfl (fun w h => h.cellAt (Loc.at_) rfl) | exact D.loadN rfl rfl (fun w h j u hu => by rw [at_add, Nat.zero_add]; exact h.cellAt (Loc.at_) hu) | exact D.loadP rfl rfl)) <;>
    ((apply XL.det0 rfl rfl rfl rfl; first | exact D.len rfl | exact D.lenL rfl | exact D.lenS rfl)) <;>
    ((apply XL.det1 rfl rfl rfl rfl; first | exact D.load1 rfl (fun w h => h.cellAt (Loc.at_) rfl) | exact D.loadN rfl rfl (fun w h j u hu => by rw [at_add, Nat.zero_add]; exact h.cellAt (Loc.at_) hu) | exact D.loadP rfl rfl)) <;>
    (have hL : LaidP o := hf.1 rfl; (refine XL.call rfl rfl rfl rfl (fun w hw => Sectors_spec w o a b c d (hl.conf0 hw) hL.2.2.1) ?_; rintro v B' ⟨rfl, rfl⟩; refine XL.both ?_); have hsb := hL.2.2.1.secs o.ps.length (Nat.le_refl _); rw [List.take_length] at hsb) <;>
    ((apply XL.det0 rfl rfl rfl rfl; first | exact D.mul64 rfl rfl (by omega) | exact D.int rfl rfl rfl)) <;>
    (refine XL.split0 rfl rfl rfl rfl (D.int rfl rfl rfl) (fun h1 => ?_) (fun h1 => ?_)) <;>
    ((apply XL.det0 rfl rfl rfl rfl; exact D.assign rfl)) <;>
    (refine XL.nil ?_)) <;> (first | refine Ex.then ?_ | (refine N.next ?_ <;> ((
    refine X.cond rfl ?_ ?_; rotate_left; (focus (
    intro hc; first | exact absurd hc (by decide) | (cases hc; done) | (refine X.seq ?_ <;> (refine X.text (L := (.op .fin 0 (.op .fin 1 (.op .fin 2 (.op .fin 3 (.op .fin 4 .nil)))))) rfl (by kernel_rfl) ?_ <;>
    ((apply XL.detF rfl rfl rfl rfl; first | exact D.load1 rfl (fun w h => h.cellAt (Loc.at_) rfl) | exact D.loadN rfl rfl (fun w h j u hu => by rw [at_add, Nat.zero_add]; exact h.cellAt (Loc.at_) hu) | exact D.loadP rfl rfl)) <;>
    ((refine XL.call rfl rfl rfl rfl (fun w hw => dBytes_spec w o a b c d (hl.conf0 hw) (hcs.conf0 hw) ⟨n1, n2, n3⟩ hL hk hd) ?_; rintro v B' ⟨rfl, rfl⟩; refine XL.both ?_)) <;>
    ((apply XL.det0F rfl rfl rfl rfl; first | exact D.len rfl | exact D.lenL rfl | exact D.lenS rfl)) <;>
    (refine XL.splitF rfl rfl rfl rfl (D.int rfl rfl rfl) (fun h2 => ?_) (fun h2 => ?_)) <;>
    ((apply XL.det0F rfl rfl rfl rfl; exact D.assign rfl)) <;>
    (refine XL.nil ?_)) <;> (first | refine Ex.then ?_ | (refine N.next ?_ <;> ((
    refine X.cond rfl ?_ ?_; rotate_left; (focus (
    intro hc; first | exact absurd hc (by decide) | (cases hc; done) | (refine X.skip ?_))); rotate_right; (focus (
    intro hc; first | exact absurd hc (by decide) | (cases hc; done) | (refine X.seq ?_ <;> (refine X.text (L := (.op .fin 0 .nil)) rfl (by kernel_rfl) ?_ <;>
    ((apply XL.det0F rfl rfl rfl rfl; exact D.assign rfl)) <;>
    (refine XL.nil ?_)) <;> (first | refine Ex.then ?_ | (refine N.next ?_ <;> ((refine X.ret ?_; (repeat (first | refine Rt.then ?_ | refine Rt.block ?_ | refine Rt.scope ?_)); (first | apply Rt.done (Res.r1 Try.results11 (RV.tmp rfl)) | apply Rt.doneM (Res.r1 Try.results11 (RV.tmp rfl))); (focus (refine ⟨?_, rfl⟩; unfold chkD; first | (rw [if_pos ⟨⟨n1, n2, n3⟩, hL⟩, if_neg h1]; done) | (rw [if_pos ⟨⟨n1, n2, n3⟩, hL⟩, if_pos (by omega), if_neg (by omega)]; done) | (rw [if_pos ⟨⟨n1, n2, n3⟩, hL⟩, if_pos (by omega), if_pos (by omega)]; done) | (rw [if_neg (fun h => n1 h.1.1)]; done) | (rw [if_neg (fun h => n2 h.1.2.1)]; done) | (rw [if_neg (fun h => n3 h.1.2.2)]; done) | (rw [if_neg (fun h => Bool.false_ne_true (hf.2 h.2))]; done))); exact fun w h => h.takes)))))))))))))); rotate_right; (focus (
    intro hc; first | exact absurd hc (by decide) | (cases hc; done) | (refine X.seq ?_ <;> (refine X.text (L := (.op .fin 0 .nil)) rfl (by kernel_rfl) ?_ <;>
    ((apply XL.det0F rfl rfl rfl rfl; exact D.assign rfl)) <;>
    (refine XL.nil ?_)) <;> (first | refine Ex.then ?_ | (refine N.next ?_ <;> ((refine X.ret ?_; (repeat (first | refine Rt.then ?_ | refine Rt.block ?_ | refine Rt.scope ?_)); (first | apply Rt.done (Res.r1 Try.results11 (RV.tmp rfl)) | apply Rt.doneM (Res.r1 Try.results11 (RV.tmp rfl))); (focus (refine ⟨?_, rfl⟩; unfold chkD; first | (rw [if_pos ⟨⟨n1, n2, n3⟩, hL⟩, if_neg h1]; done) | (rw [if_pos ⟨⟨n1, n2, n3⟩, hL⟩, if_pos (by omega), if_neg (by omega)]; done) | (rw [if_pos ⟨⟨n1, n2, n3⟩, hL⟩, if_pos (by omega), if_pos (by omega)]; done) | (rw [if_neg (fun h => n1 h.1.1)]; done) | (rw [if_neg (fun h => n2 h.1.2.1)]; done) | (rw [if_neg (fun h => n3 h.1.2.2)]; done) | (rw [if_neg (fun h => Bool.false_ne_true (hf.2 h.2))]; done))); exact fun w h => h.takes)))))))))))))); rotate_right; (focus (
    intro hc; first | exact absurd hc (by decide) | (cases hc; done) | (refine X.seq ?_ <;> (refine X.text (L := (.op .fin 0 .nil)) rfl (by kernel_rfl) ?_ <;>
    ((apply XL.det0F rfl rfl rfl rfl; exact D.assign rfl)) <;>
    (refine XL.nil ?_)) <;> (first | refine Ex.then ?_ | (refine N.next ?_ <;> ((refine X.ret ?_; (repeat (first | refine Rt.then ?_ | refine Rt.block ?_ | refine Rt.scope ?_)); (first | apply Rt.done (Res.r1 Try.results11 (RV.tmp rfl)) | apply Rt.doneM (Res.r1 Try.results11 (RV.tmp rfl))); (focus (refine ⟨?_, rfl⟩; unfold chkD; first | (rw [if_pos ⟨⟨n1, n2, n3⟩, hL⟩, if_neg h1]; done) | (rw [if_pos ⟨⟨n1, n2, n3⟩, hL⟩, if_pos (by omega), if_neg (by omega)]; done) | (rw [if_pos ⟨⟨n1, n2, n3⟩, hL⟩, if_pos (by omega), if_pos (by omega)]; done) | (rw [if_neg (fun h => n1 h.1.1)]; done) | (rw [if_neg (fun h => n2 h.1.2.1)]; done) | (rw [if_neg (fun h => n3 h.1.2.2)]; done) | (rw [if_neg (fun h => Bool.false_ne_true (hf.2 h.2))]; done))); exact fun w h => h.takes)))))))))))) <;> (first | refine N.block ?_ | refine Ex.here ?_ | refine Ex.out rfl ?_)) <;> (first | refine Ex.then ?_ | (refine N.next ?_ <;> (refine X.seq ?_ <;> (refine X.text (L := (.op .fin 0 .nil)) rfl (by kernel_rfl) ?_ <;>
    ((apply XL.det0F rfl rfl rfl rfl; exact D.assign rfl)) <;>
    (refine XL.nil ?_)) <;> (first | refine Ex.then ?_ | (refine N.next ?_ <;> ((refine X.ret ?_; (repeat (first | refine Rt.then ?_ | refine Rt.block ?_ | refine Rt.scope ?_)); (first | apply Rt.done (Res.r1 Try.results11 (RV.tmp rfl)) | apply Rt.doneM (Res.r1 Try.results11 (RV.tmp rfl))); (focus (refine ⟨?_, rfl⟩; unfold chkD; first | (rw [if_pos ⟨⟨n1, n2, n3⟩, hL⟩, if_neg h1]; done) | (rw [if_pos ⟨⟨n1, n2, n3⟩, hL⟩, if_pos (by omega), if_neg (by omega)]; done) | (rw [if_pos ⟨⟨n1, n2, n3⟩, hL⟩, if_pos (by omega), if_pos (by omega)]; done) | (rw [if_neg (fun h => n1 h.1.1)]; done) | (rw [if_neg (fun h => n2 h.1.2.1)]; done) | (rw [if_neg (fun h => n3 h.1.2.2)]; done) | (rw [if_neg (fun h => Bool.false_ne_true (hf.2 h.2))]; done))); exact fun w h => h.takes)))))))))))
theorem dEncode_spec (w : World) (o : Dob) (a b : Option Addr) (c d : Nat) (hl : Rd w 4 a o.ps.length c (encE o.ps)) (hcs : Rd w 2 b o.cs.length d (encS o.cs)) (hk : o.k < 18446744073709551616) (hd : o.d.length ≤ 1000000) : Spec Try.prog 10 #[.agg #[.int .u64 ((o.k : Nat) : Int), .int .i64 o.ep, .int .i64 o.sq, .int .i64 o.up, .slice a o.ps.length c, .slice b o.cs.length d, .string ⟨List.toArray o.d⟩]] w (fun _ => False) (fun v A => ∃ r : Bs, v = .tuple #[.string ⟨List.toArray r⟩, .int .i64 (chkD o)] ∧ (chkD o ≠ 0 → r = []) ∧ (chkD o = 0 → r = dobB o) ∧ A = []) := by
  refine Spec.enter (args := [.agg #[.int .u64 ((o.k : Nat) : Int), .int .i64 o.ep, .int .i64 o.sq, .int .i64 o.up, .slice a o.ps.length c, .slice b o.cs.length d, .string ⟨List.toArray o.d⟩]]) (A := []) Try.func10 rfl Try.ntmps10 rfl (fun _ h => h) ?_
  (refine X.seq ?_ <;> (refine X.text (L := (.op .fin 0 (.op .fin 1 (.op .fin 2 .nil)))) rfl (by kernel_rfl) ?_ <;>
    (refine XL.boxN rfl rfl rfl rfl (by intro g; infer_instance) (fun g1 => ?_)) <;>
    ((apply XL.det0F rfl rfl rfl rfl; exact D.assign rfl)) <;>
    ((apply XL.det0F rfl rfl rfl rfl; exact D.assign rfl)) <;>
    (refine XL.nil ?_)) <;> (first | refine Ex.then ?_ | (refine N.next ?_ <;> (refine X.seq ?_ <;> (refine X.seq ?_ <;> (refine X.text (L := (.op .fin 0 (.op .fin 1 (.op .fin 2 .nil)))) rfl (by kernel_rfl) ?_ <;>
    ((apply XL.detF rfl rfl rfl rfl; first | exact D.load1 rfl (fun w h => h.cellAt (Loc.at_) rfl) | exact D.loadN rfl rfl (fun w h j u hu => by rw [at_add, Nat.zero_add]; exact h.cellAt (Loc.at_) hu) | exact D.loadP rfl rfl)) <;>
    ((refine XL.call rfl rfl rfl rfl (fun w hw => dChk_spec w o a b c d (hl.conf0 hw) (hcs.conf0 hw) hk hd) ?_; rintro v B' ⟨rfl, rfl⟩; refine XL.both ?_)) <;>
    ((apply XL.det0F rfl rfl rfl rfl; exact D.assign rfl)) <;>
    (refine XL.nil ?_)) <;> (first | refine Ex.then ?_ | (refine N.next ?_ <;> (refine X.seq ?_ <;> (refine X.text (L := (.op .fin 0 (.op .fin 1 .nil))) rfl (by kernel_rfl) ?_ <;>
    ((apply XL.det0F rfl rfl rfl rfl; exact D.move rfl)) <;>
    (refine XL.splitF rfl rfl rfl rfl (D.int rfl rfl rfl) (fun h1 => ?_) (fun h1 => ?_)) <;>
    (refine XL.nil ?_)) <;> (first | refine Ex.then ?_ | (refine N.next ?_ <;> ((
    refine X.cond rfl ?_ ?_; rotate_left; (focus (
    intro hc; first | exact absurd hc (by decide) | (cases hc; done) | (refine X.skip ?_))); rotate_right; (focus (
    intro hc; first | exact absurd hc (by decide) | (cases hc; done) | (refine X.seq ?_ <;> (refine X.text (L := (.op .fin 0 (.op .fin 1 (.op .fin 2 .nil)))) rfl (by kernel_rfl) ?_ <;>
    ((apply XL.det0F rfl rfl rfl rfl; exact D.move rfl)) <;>
    ((apply XL.det0F rfl rfl rfl rfl; exact D.assign rfl)) <;>
    ((apply XL.det0F rfl rfl rfl rfl; exact D.assign rfl)) <;>
    (refine XL.nil ?_)) <;> (first | refine Ex.then ?_ | (refine N.next ?_ <;> ((refine X.ret ?_; (repeat (first | refine Rt.then ?_ | refine Rt.block ?_ | refine Rt.scope ?_)); (first | apply Rt.done (Res.r2 Try.results10 (RV.tmp rfl) (RV.tmp rfl)) | apply Rt.doneM (Res.r2 Try.results10 (RV.tmp rfl) (RV.tmp rfl))); (focus (first | exact ⟨[], rfl, fun _ => rfl, fun h => absurd h h1, rfl⟩ | exact ⟨dobB o, by rw [Decidable.not_not.1 h1], fun h => absurd h h1, fun _ => rfl, rfl⟩)); exact fun w h => h.takes))))))))))))))) <;> (first | refine Ex.then ?_ | (refine N.next ?_ <;> (refine X.seq ?_ <;> (refine X.text (L := (.op .fin 0 (.op .fin 1 (.op .fin 2 (.op .fin 3 .nil))))) rfl (by kernel_rfl) ?_ <;>
    ((apply XL.detF rfl rfl rfl rfl; first | exact D.load1 rfl (fun w h => h.cellAt (Loc.at_) rfl) | exact D.loadN rfl rfl (fun w h j u hu => by rw [at_add, Nat.zero_add]; exact h.cellAt (Loc.at_) hu) | exact D.loadP rfl rfl)) <;>
    (have hok := chkD_ok (Decidable.not_not.1 h1); (refine XL.call rfl rfl rfl rfl (fun w hw => dBytes_spec w o a b c d (hl.conf0 hw) (hcs.conf0 hw) hok.1 hok.2.1 hk hd) ?_; rintro v B' ⟨rfl, rfl⟩; refine XL.both ?_)) <;>
    ((apply XL.det0F rfl rfl rfl rfl; exact D.assign rfl)) <;>
    ((apply XL.det0F rfl rfl rfl rfl; exact D.assign rfl)) <;>
    (refine XL.nil ?_)) <;> (first | refine Ex.then ?_ | (refine N.next ?_ <;> ((refine X.ret ?_; (repeat (first | refine Rt.then ?_ | refine Rt.block ?_ | refine Rt.scope ?_)); (first | apply Rt.done (Res.r2 Try.results10 (RV.tmp rfl) (RV.tmp rfl)) | apply Rt.doneM (Res.r2 Try.results10 (RV.tmp rfl) (RV.tmp rfl))); (focus (first | exact ⟨[], rfl, fun _ => rfl, fun h => absurd h h1, rfl⟩ | exact ⟨dobB o, by rw [Decidable.not_not.1 h1], fun h => absurd h h1, fun _ => rfl, rfl⟩)); exact fun w h => h.takes)))))))))))
end Go.Lx
