/- Which numbers and bases of manifests may be. -/
import Derived.Test.YtlbcedllbobpaaaMa
import Derived.Test.YtlbcedllbobpaaaNa
import Derived.Test.YtlbcedllbobpaaaXj
namespace Go.Lx
open Go.Proofs
set_option linter.unusedVariables false
set_option linter.unusedSimpArgs false
set_option maxRecDepth 20000
set_option maxHeartbeats 4000000

def nmS (n : Int) : Prop := 0 ≤ n ∧ n < 1099511627776
instance (n : Int) : Decidable (nmS n) := by unfold nmS; infer_instance
theorem mNumber_spec (n : Int) (w : World) : Spec Try.prog 68 #[.int .i64 n] w (fun _ => False) (fun v A => v = .bool (decide (nmS n)) ∧ A = []) := by
  refine Spec.enter (args := [.int .i64 n]) (A := []) Try.func68 rfl Try.ntmps68 rfl (fun _ h => h) ?_
  (refine X.seq ?_ <;> (refine X.text (L := (.op .fin 0 .nil)) rfl (by kernel_rfl) ?_ <;>
    ((apply XL.det0F rfl rfl rfl rfl; exact D.assign rfl)) <;>
    (refine XL.nil ?_)) <;> (first | refine Ex.then ?_ | (refine N.next ?_ <;> (refine X.seq ?_ <;> (refine X.text (L := (.op .fin 0 (.op .fin 1 (.op .fin 2 (.op .fin 3 (.op .fin 4 (.op .fin 5 (.op .fin 6 .nil)))))))) rfl (by kernel_rfl) ?_ <;>
    ((apply XL.det0F rfl rfl rfl rfl; exact D.move rfl)) <;>
    (first | refine XL.cmpTF rfl rfl rfl rfl (D.int rfl rfl rfl) (by omega) ?_ | refine XL.cmpFF rfl rfl rfl rfl (D.int rfl rfl rfl) (by omega) ?_ | refine XL.splitF rfl rfl rfl rfl (D.int rfl rfl rfl) (fun _ => ?_) (fun _ => ?_)) <;>
    ((apply XL.det0F rfl rfl rfl rfl; exact D.move rfl)) <;>
    (first | refine XL.skipF rfl rfl rfl rfl ?_ | ((apply XL.det0F rfl rfl rfl rfl; exact D.move rfl))) <;>
    (first | refine XL.skipF rfl rfl rfl rfl ?_ | (first | refine XL.cmpTF rfl rfl rfl rfl (D.int rfl rfl rfl) (by omega) ?_ | refine XL.cmpFF rfl rfl rfl rfl (D.int rfl rfl rfl) (by omega) ?_ | refine XL.splitF rfl rfl rfl rfl (D.int rfl rfl rfl) (fun _ => ?_) (fun _ => ?_))) <;>
    ((apply XL.det0F rfl rfl rfl rfl; first | exact D.pickT rfl rfl | exact D.pickF rfl rfl | exact D.pick rfl rfl rfl)) <;>
    ((apply XL.det0F rfl rfl rfl rfl; exact D.assign rfl)) <;>
    (refine XL.nil ?_)) <;> (first | refine Ex.then ?_ | (refine N.next ?_ <;> ((refine X.ret ?_; (repeat (first | refine Rt.then ?_ | refine Rt.block ?_ | refine Rt.scope ?_)); (first | apply Rt.done (Res.r1 Try.results68 (RV.tmp rfl)) | apply Rt.doneM (Res.r1 Try.results68 (RV.tmp rfl))); (focus (refine ⟨congrArg Value.bool ?_, rfl⟩; first | rw [decide_eq_true (by unfold nmS; omega)] | rw [decide_eq_false (by unfold nmS; omega)])); exact fun w h => h.takes))))))))
theorem rNumber_spec (n : Int) (w : World) : Spec Try.prog 41 #[.int .i64 n] w (fun _ => False) (fun v A => v = .bool (decide (nmS n)) ∧ A = []) := by
  refine Spec.enter (args := [.int .i64 n]) (A := []) Try.func41 rfl Try.ntmps41 rfl (fun _ h => h) ?_
  (refine X.seq ?_ <;> (refine X.text (L := (.op .fin 0 .nil)) rfl (by kernel_rfl) ?_ <;>
    ((apply XL.det0F rfl rfl rfl rfl; exact D.assign rfl)) <;>
    (refine XL.nil ?_)) <;> (first | refine Ex.then ?_ | (refine N.next ?_ <;> (refine X.seq ?_ <;> (refine X.text (L := (.op .fin 0 (.op .fin 1 (.op .fin 2 (.op .fin 3 (.op .fin 4 (.op .fin 5 (.op .fin 6 .nil)))))))) rfl (by kernel_rfl) ?_ <;>
    ((apply XL.det0F rfl rfl rfl rfl; exact D.move rfl)) <;>
    (first | refine XL.cmpTF rfl rfl rfl rfl (D.int rfl rfl rfl) (by omega) ?_ | refine XL.cmpFF rfl rfl rfl rfl (D.int rfl rfl rfl) (by omega) ?_ | refine XL.splitF rfl rfl rfl rfl (D.int rfl rfl rfl) (fun _ => ?_) (fun _ => ?_)) <;>
    ((apply XL.det0F rfl rfl rfl rfl; exact D.move rfl)) <;>
    (first | refine XL.skipF rfl rfl rfl rfl ?_ | ((apply XL.det0F rfl rfl rfl rfl; exact D.move rfl))) <;>
    (first | refine XL.skipF rfl rfl rfl rfl ?_ | (first | refine XL.cmpTF rfl rfl rfl rfl (D.int rfl rfl rfl) (by omega) ?_ | refine XL.cmpFF rfl rfl rfl rfl (D.int rfl rfl rfl) (by omega) ?_ | refine XL.splitF rfl rfl rfl rfl (D.int rfl rfl rfl) (fun _ => ?_) (fun _ => ?_))) <;>
    ((apply XL.det0F rfl rfl rfl rfl; first | exact D.pickT rfl rfl | exact D.pickF rfl rfl | exact D.pick rfl rfl rfl)) <;>
    ((apply XL.det0F rfl rfl rfl rfl; exact D.assign rfl)) <;>
    (refine XL.nil ?_)) <;> (first | refine Ex.then ?_ | (refine N.next ?_ <;> ((refine X.ret ?_; (repeat (first | refine Rt.then ?_ | refine Rt.block ?_ | refine Rt.scope ?_)); (first | apply Rt.done (Res.r1 Try.results41 (RV.tmp rfl)) | apply Rt.doneM (Res.r1 Try.results41 (RV.tmp rfl))); (focus (refine ⟨congrArg Value.bool ?_, rfl⟩; first | rw [decide_eq_true (by unfold nmS; omega)] | rw [decide_eq_false (by unfold nmS; omega)])); exact fun w h => h.takes))))))))
def BaseOK (v b : Bs) (q : Int) : Prop := (b = [] ∧ q = 0) ∨ (VolOK b ∧ b ≠ v ∧ nmS q)
instance (v b : Bs) (q : Int) : Decidable (BaseOK v b q) := by unfold BaseOK; infer_instance
theorem may_spec (v b : Bs) (q : Int) (w : World) : Spec Try.prog 67 #[.agg #[.string ⟨List.toArray b⟩, .int .i64 q], .string ⟨List.toArray v⟩] w (fun _ => False) (fun r A => r = .bool (decide (BaseOK v b q)) ∧ A = []) := by
  refine Spec.enter (args := [.agg #[.string ⟨List.toArray b⟩, .int .i64 q], .string ⟨List.toArray v⟩]) (A := []) Try.func67 rfl Try.ntmps67 rfl (fun _ h => h) ?_
  (refine X.seq ?_ <;> (refine X.text (L := (.op .fin 0 (.op .fin 1 .nil))) rfl (by kernel_rfl) ?_ <;>
    (first | refine XL.boxN rfl rfl rfl rfl (by intro g; infer_instance) (fun g => ?_) | refine XL.box1 rfl rfl rfl rfl rfl (by intro g; infer_instance) (fun g => ?_)) <;>
    ((apply XL.det0F rfl rfl rfl rfl; exact D.assign rfl)) <;>
    (refine XL.nil ?_)) <;> (first | refine Ex.then ?_ | (refine N.next ?_ <;> (refine X.seq ?_ <;> (refine X.text (L := (.op .fin 0 (.op .fin 1 (.op .fin 2 (.op .fin 3 (.op .fin 4 (.op .fin 5 (.op .fin 6 (.op .fin 7 (.op .fin 8 (.op .fin 9 (.op .fin 10 (.op .fin 11 (.op .fin 12 (.op .fin 13 (.op .fin 14 (.op .fin 15 (.op .fin 16 (.op .fin 17 (.op .fin 18 (.op .fin 19 (.op .fin 20 .nil)))))))))))))))))))))) rfl (by kernel_rfl) ?_ <;>
    ((apply XL.detF rfl rfl rfl rfl; first | exact D.load1 rfl (fun w h => h.cellAt (Loc.at_) rfl) | exact D.loadN rfl rfl (fun w h j u hu => by rw [at_add, Nat.zero_add]; exact h.cellAt (Loc.at_) hu) | exact D.loadP rfl rfl)) <;>
    ((apply XL.det0F rfl rfl rfl rfl; exact D.build rfl)) <;>
    (refine XL.splitF rfl rfl rfl rfl (D.eqG (cs := [.string ⟨List.toArray b⟩, .int .i64 q]) (es := [.string ⟨List.toArray (([] : Bs))⟩, .int .i64 0]) (b = [] ∧ q = 0) rfl rfl rfl (by simp [eqvs, eqv])) (fun h1 => ?_) (fun h1 => ?_)) <;>
    ((apply XL.det0F rfl rfl rfl rfl; exact D.move rfl)) <;>
    (first | refine XL.skipF rfl rfl rfl rfl ?_ | ((apply XL.det0F rfl rfl rfl rfl; first | exact D.fieldAddrB0 rfl rfl | exact D.fieldAddrB rfl rfl | exact D.fieldAddrE0 rfl rfl | exact D.fieldAddrE rfl rfl))) <;>
    (first | refine XL.skipF rfl rfl rfl rfl ?_ | ((apply XL.detF rfl rfl rfl rfl; first | exact D.load1 rfl (fun w h => h.cellAt (Loc.at_) rfl) | exact D.loadN rfl rfl (fun w h j u hu => by rw [at_add, Nat.zero_add]; exact h.cellAt (Loc.at_) hu) | exact D.loadP rfl rfl))) <;>
    (first | refine XL.skipF rfl rfl rfl rfl ?_ | (first | refine XL.skipF rfl rfl rfl rfl ?_ | ((refine XL.call rfl rfl rfl rfl (fun w hw => Volume_spec b w) ?_; rintro v B' ⟨rfl, rfl⟩; refine XL.both ?_); (by_cases hv : VolOK b <;> first | rw [if_pos hv] | rw [if_neg hv])))) <;>
    (first | refine XL.skipF rfl rfl rfl rfl ?_ | (first | refine XL.cmpTF rfl rfl rfl rfl (D.int rfl rfl rfl) (by omega) ?_ | refine XL.cmpFF rfl rfl rfl rfl (D.int rfl rfl rfl) (by omega) ?_ | refine XL.splitF rfl rfl rfl rfl (D.int rfl rfl rfl) (fun _ => ?_) (fun _ => ?_) | refine XL.cmpTF rfl rfl rfl rfl (D.eqS2 rfl rfl) (by omega) ?_ | refine XL.cmpFF rfl rfl rfl rfl (D.eqS2 rfl rfl) (by omega) ?_ | refine XL.splitF rfl rfl rfl rfl (D.eqS2 rfl rfl) (fun _ => ?_) (fun _ => ?_) | (apply XL.det0F rfl rfl rfl rfl; first | exact D.eqNilS rfl rfl | exact D.boolEq rfl rfl | exact D.eqNilP rfl rfl))) <;>
    (first | refine XL.skipF rfl rfl rfl rfl ?_ | ((apply XL.det0F rfl rfl rfl rfl; exact D.move rfl))) <;>
    (first | refine XL.skipF rfl rfl rfl rfl ?_ | ((apply XL.det0F rfl rfl rfl rfl; first | exact D.fieldAddrB0 rfl rfl | exact D.fieldAddrB rfl rfl | exact D.fieldAddrE0 rfl rfl | exact D.fieldAddrE rfl rfl))) <;>
    (first | refine XL.skipF rfl rfl rfl rfl ?_ | ((apply XL.detF rfl rfl rfl rfl; first | exact D.load1 rfl (fun w h => h.cellAt (Loc.at_) rfl) | exact D.loadN rfl rfl (fun w h j u hu => by rw [at_add, Nat.zero_add]; exact h.cellAt (Loc.at_) hu) | exact D.loadP rfl rfl))) <;>
    (first | refine XL.skipF rfl rfl rfl rfl ?_ | ((apply XL.det0F rfl rfl rfl rfl; exact D.move rfl))) <;>
    (first | refine XL.skipF rfl rfl rfl rfl ?_ | (first | refine XL.skipF rfl rfl rfl rfl ?_ | refine XL.splitF rfl rfl rfl rfl (D.strNe rfl rfl) (fun h2 => ?_) (fun h2 => ?_))) <;>
    (first | refine XL.skipF rfl rfl rfl rfl ?_ | ((apply XL.det0F rfl rfl rfl rfl; first | exact D.pickT rfl rfl | exact D.pickF rfl rfl | exact D.pick rfl rfl rfl))) <;>
    (first | refine XL.skipF rfl rfl rfl rfl ?_ | ((apply XL.det0F rfl rfl rfl rfl; exact D.move rfl))) <;>
    (first | refine XL.skipF rfl rfl rfl rfl ?_ | ((apply XL.det0F rfl rfl rfl rfl; first | exact D.fieldAddrB0 rfl rfl | exact D.fieldAddrB rfl rfl | exact D.fieldAddrE0 rfl rfl | exact D.fieldAddrE rfl rfl))) <;>
    (first | refine XL.skipF rfl rfl rfl rfl ?_ | ((apply XL.detF rfl rfl rfl rfl; first | exact D.load1 rfl (fun w h => h.cellAt (Loc.at_) rfl) | exact D.loadN rfl rfl (fun w h j u hu => by rw [at_add, Nat.zero_add]; exact h.cellAt (Loc.at_) hu) | exact D.loadP rfl rfl))) <;>
    (first | refine XL.skipF rfl rfl rfl rfl ?_ | (first | refine XL.skipF rfl rfl rfl rfl ?_ | ((refine XL.call rfl rfl rfl rfl (fun w hw => mNumber_spec q w) ?_; rintro v B' ⟨rfl, rfl⟩; refine XL.both ?_); (by_cases hq : nmS q <;> first | rw [decide_eq_true hq] | rw [decide_eq_false hq])))) <;>
    (first | refine XL.skipF rfl rfl rfl rfl ?_ | ((apply XL.det0F rfl rfl rfl rfl; first | exact D.pickT rfl rfl | exact D.pickF rfl rfl | exact D.pick rfl rfl rfl))) <;>
    ((apply XL.det0F rfl rfl rfl rfl; first | exact D.pickT rfl rfl | exact D.pickF rfl rfl | exact D.pick rfl rfl rfl)) <;>
    ((apply XL.det0F rfl rfl rfl rfl; exact D.assign rfl)) <;>
    (refine XL.nil ?_)) <;> (first | refine Ex.then ?_ | (refine N.next ?_ <;> ((refine X.ret ?_; (repeat (first | refine Rt.then ?_ | refine Rt.block ?_ | refine Rt.scope ?_)); (first | apply Rt.done (Res.r1 Try.results67 (RV.tmp rfl)) | apply Rt.doneM (Res.r1 Try.results67 (RV.tmp rfl))); (focus (refine ⟨congrArg Value.bool ?_, rfl⟩; first | (rw [decide_eq_true (show BaseOK v b q from .inl h1)]; done) | (rw [decide_eq_true (show BaseOK v b q from .inr ⟨hv, h2, hq⟩)]; done) | (rw [decide_eq_false (show ¬ BaseOK v b q from fun h => by rcases h with h | ⟨h3, h4, h5⟩; exact h1 h; first | exact hv h3 | exact h2 h4 | exact hq h5)]))); exact fun w h => h.takes))))))))
end Go.Lx
