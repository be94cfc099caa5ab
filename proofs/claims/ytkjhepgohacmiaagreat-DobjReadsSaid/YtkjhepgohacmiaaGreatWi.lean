/- The document's fixed numbers and texts. -/
import Derived.Test.YtkjhepgohacmiaaGreatWh
namespace Go.Lx
open Go.Proofs
set_option linter.unusedVariables false
set_option linter.unusedSimpArgs false
set_option maxRecDepth 20000
set_option maxHeartbeats 4000000

theorem refNumber_spec (w : World) (s : Bs) (n : Nat) (hn : 1 ≤ n ∧ n ≤ 8) (hs : s.length ≤ 1000000000) : Spec Tryz.prog 33 #[.string ⟨List.toArray s⟩, .int .i64 n] w (fun _ => False) (fun v A => ∃ (x k : Nat) (e : Int), v = .tuple #[.int .u64 x, .int .i64 k, .int .i64 e] ∧ (fixF n s = some (x, k) ∧ e = 0 ∨ fixF n s = none ∧ e ≠ 0) ∧ A = []) := by
  refine Spec.enter (args := [.string ⟨List.toArray s⟩, .int .i64 n]) (A := []) Tryz.func33 rfl Tryz.ntmps33 rfl (fun _ h => h) ?_
  (refine X.seq ?_ <;> (refine X.text (L := (.op .fin 0 (.op .fin 1 (.op .fin 2 .nil)))) rfl (by kernel_rfl) ?_ <;>
    ((apply XL.det0F rfl rfl rfl rfl; exact D.assign rfl)) <;>
    ((apply XL.det0F rfl rfl rfl rfl; exact D.assign rfl)) <;>
    ((apply XL.det0F rfl rfl rfl rfl; exact D.assign rfl)) <;>
    (refine XL.nil ?_)) <;> (first | refine Ex.then ?_ | (refine N.next ?_ <;> (refine X.seq ?_ <;> (refine X.seq ?_ <;> (refine X.text (L := (.op .fin 0 (.op .fin 1 (.op .fin 2 (.op .fin 3 (.op .fin 4 (.op .fin 5 .nil))))))) rfl (by kernel_rfl) ?_ <;>
    ((apply XL.det0F rfl rfl rfl rfl; exact D.move rfl)) <;>
    (first | refine XL.cmpTF rfl rfl rfl rfl (D.int rfl rfl rfl) (by omega) ?_ | refine XL.cmpFF rfl rfl rfl rfl (D.int rfl rfl rfl) (by omega) ?_ | refine XL.splitF rfl rfl rfl rfl (D.int rfl rfl rfl) (fun _ => ?_) (fun _ => ?_)) <;>
    ((apply XL.det0F rfl rfl rfl rfl; exact D.move rfl)) <;>
    (first | refine XL.skipF rfl rfl rfl rfl ?_ | ((apply XL.det0F rfl rfl rfl rfl; exact D.move rfl))) <;>
    (first | refine XL.skipF rfl rfl rfl rfl ?_ | (first | refine XL.cmpTF rfl rfl rfl rfl (D.int rfl rfl rfl) (by omega) ?_ | refine XL.cmpFF rfl rfl rfl rfl (D.int rfl rfl rfl) (by omega) ?_ | refine XL.splitF rfl rfl rfl rfl (D.int rfl rfl rfl) (fun _ => ?_) (fun _ => ?_))) <;>
    ((apply XL.det0F rfl rfl rfl rfl; first | exact D.pickT rfl rfl | exact D.pickF rfl rfl | exact D.pick rfl rfl rfl)) <;>
    (refine XL.nil ?_)) <;> (first | refine Ex.then ?_ | (refine N.next ?_ <;> ((
    refine X.cond rfl ?_ ?_; rotate_left; (focus (
    intro hc; first | exact absurd hc (by decide) | (cases hc; done) | (refine X.skip ?_))); rotate_right; (focus (
    intro hc; first | exact absurd hc (by decide) | (cases hc; done) | (refine X.seq ?_ <;> (refine X.text (L := (.op .fin 0 (.op .fin 1 (.op .fin 2 .nil)))) rfl (by kernel_rfl) ?_ <;>
    ((apply XL.det0F rfl rfl rfl rfl; exact D.assign rfl)) <;>
    ((apply XL.det0F rfl rfl rfl rfl; exact D.assign rfl)) <;>
    ((apply XL.det0F rfl rfl rfl rfl; exact D.assign rfl)) <;>
    (refine XL.nil ?_)) <;> (first | refine Ex.then ?_ | (refine N.next ?_ <;> ((refine X.ret ?_; (repeat (first | refine Rt.then ?_ | refine Rt.block ?_ | refine Rt.scope ?_)); (first | apply Rt.done (Res.r3 Tryz.results33 (RV.tmp rfl) (RV.tmp rfl) (RV.tmp rfl)) | apply Rt.doneM (Res.r3 Tryz.results33 (RV.tmp rfl) (RV.tmp rfl) (RV.tmp rfl))); (focus (first | (exact ⟨0, 0, 10, rfl, .inr ⟨by unfold fixF; rw [if_pos (by omega)], by decide⟩, rfl⟩) | (exact ⟨num (s.take i), i, 0, rfl, .inl ⟨by unfold fixF; rw [if_neg (by omega)], rfl⟩, rfl⟩))); exact fun w h => h.takes)))))))))))) <;> (first | refine Ex.then ?_ | (refine N.next ?_ <;> (refine X.seq ?_ <;> (refine X.seq ?_ <;> (refine X.text (L := (.op .fin 0 (.op .fin 1 (.op .fin 2 (.op .fin 3 .nil))))) rfl (by kernel_rfl) ?_ <;>
    ((apply XL.det0F rfl rfl rfl rfl; exact D.move rfl)) <;>
    ((apply XL.det0F rfl rfl rfl rfl; first | exact D.len rfl | exact D.lenL rfl | exact D.lenS rfl)) <;>
    ((apply XL.det0F rfl rfl rfl rfl; exact D.move rfl)) <;>
    (first | refine XL.splitF rfl rfl rfl rfl (D.int rfl rfl rfl) (fun h3 => ?_) (fun h3 => ?_)) <;>
    (refine XL.nil ?_)) <;> (first | refine Ex.then ?_ | (refine N.next ?_ <;> ((
    refine X.cond rfl ?_ ?_; rotate_left; (focus (
    intro hc; first | exact absurd hc (by decide) | (cases hc; done) | (refine X.skip ?_))); rotate_right; (focus (
    intro hc; first | exact absurd hc (by decide) | (cases hc; done) | (refine X.seq ?_ <;> (refine X.text (L := (.op .fin 0 (.op .fin 1 (.op .fin 2 .nil)))) rfl (by kernel_rfl) ?_ <;>
    ((apply XL.det0F rfl rfl rfl rfl; exact D.assign rfl)) <;>
    ((apply XL.det0F rfl rfl rfl rfl; exact D.assign rfl)) <;>
    ((apply XL.det0F rfl rfl rfl rfl; exact D.assign rfl)) <;>
    (refine XL.nil ?_)) <;> (first | refine Ex.then ?_ | (refine N.next ?_ <;> ((refine X.ret ?_; (repeat (first | refine Rt.then ?_ | refine Rt.block ?_ | refine Rt.scope ?_)); (first | apply Rt.done (Res.r3 Tryz.results33 (RV.tmp rfl) (RV.tmp rfl) (RV.tmp rfl)) | apply Rt.doneM (Res.r3 Tryz.results33 (RV.tmp rfl) (RV.tmp rfl) (RV.tmp rfl))); (focus (first | (exact ⟨0, 0, 10, rfl, .inr ⟨by unfold fixF; rw [if_pos (by omega)], by decide⟩, rfl⟩) | (exact ⟨num (s.take i), i, 0, rfl, .inl ⟨by unfold fixF; rw [if_neg (by omega)], rfl⟩, rfl⟩))); exact fun w h => h.takes)))))))))))) <;> (first | refine Ex.then ?_ | (refine N.next ?_ <;> (refine X.seq ?_ <;> (refine X.text (L := (.op .fin 0 .nil)) rfl (by kernel_rfl) ?_ <;>
    ((apply XL.det0F rfl rfl rfl rfl; exact D.assign rfl)) <;>
    (refine XL.nil ?_)) <;> (first | refine Ex.then ?_ | (refine N.next ?_ <;> (refine X.seq ?_ <;> (refine X.seq ?_ <;> (refine X.text (L := (.op .fin 0 .nil)) rfl (by kernel_rfl) ?_ <;>
    ((apply XL.det0F rfl rfl rfl rfl; exact D.assign rfl)) <;>
    (refine XL.nil ?_)) <;> (first | refine Ex.then ?_ | (refine N.next ?_ <;> (refine X.block ?_ <;> ((refine X.loop (ι := Nat) (fun i => [(0, .string ⟨List.toArray s⟩), (1, .int .i64 n), (7, .int .u64 ((num (s.take i) : Nat) : Int)), (8, .int .i64 i)]) (fun _ => []) (fun i => i ≤ n) (fun i => n - i) (0) ?_ ?_ ?_ ?_; (focus (exact Nat.zero_le _)); (focus (repeat (first | exact Sub.nil | refine Sub.cons rfl ?_))); (focus (exact (fun w h => h.takes))); rintro i hi; (dsimp only at *)) <;> (refine X.seq ?_ <;> (refine X.seq ?_ <;> (refine X.text (L := (.op .fin 0 (.op .fin 1 (.op .fin 2 .nil)))) rfl (by kernel_rfl) ?_ <;>
    ((apply XL.det0F rfl rfl rfl rfl; exact D.move rfl)) <;>
    ((apply XL.det0F rfl rfl rfl rfl; exact D.move rfl)) <;>
    (first | refine XL.splitF rfl rfl rfl rfl (D.int rfl rfl rfl) (fun h6 => ?_) (fun h6 => ?_)) <;>
    (refine XL.nil ?_)) <;> (first | refine Ex.then ?_ | (refine N.next ?_ <;> ((
    refine X.cond rfl ?_ ?_; rotate_left; (focus (
    intro hc; first | exact absurd hc (by decide) | (cases hc; done) | (refine X.exit ?_))); rotate_right; (focus (
    intro hc; first | exact absurd hc (by decide) | (cases hc; done) | (refine X.skip ?_)))))))) <;> (first | refine Ex.then ?_ | (refine N.next ?_ <;> (refine X.seq ?_ <;> (refine X.block ?_ <;> (refine X.text (L := (.op .fin 0 (.op .fin 1 (.op .fin 2 (.op .fin 3 (.op .fin 4 (.op .fin 5 (.op .fin 6 (.op .fin 7 .nil))))))))) rfl (by kernel_rfl) ?_ <;>
    ((apply XL.det0F rfl rfl rfl rfl; exact D.move rfl)) <;>
    (obtain ⟨c, hc2⟩ : ∃ c, s[i]? = some c := (⟨s[i]'(by omega), List.getElem?_eq_getElem _⟩); have hcl := c.toNat_lt; have hstep : 256 * num (s.take i) + c.toNat = num (s.take (i + 1)) := (by rw [List.take_add_one, hc2]; simp only [Option.toList_some]; rw [num_snoc]); have hroom := num_lt (s.take (i + 1)); rw [List.length_take, Nat.min_eq_left (by omega)] at hroom; have hp : 256 ^ (i + 1) ≤ 256 ^ 8 := (Nat.pow_le_pow_right (by decide) (by omega)); have hp8 : 256 ^ 8 = 18446744073709551616 := (by decide); (apply XL.det0F rfl rfl rfl rfl; exact D.mulN (a := 256) rfl rfl rfl (show 256 * num (s.take i) < 18446744073709551616 by omega))) <;>
    ((apply XL.det0F rfl rfl rfl rfl; exact D.move rfl)) <;>
    ((apply XL.det0F rfl rfl rfl rfl; exact D.move rfl)) <;>
    ((apply XL.det0F rfl rfl rfl rfl; exact D.idx i rfl rfl rfl hc2)) <;>
    ((apply XL.det0F rfl rfl rfl rfl; exact D.convN rfl rfl); rw [Nat.mod_eq_of_lt (show c.toNat < 2 ^ IntKind.u64.bits from Nat.lt_of_lt_of_le hcl (by decide))]) <;>
    ((apply XL.det0F rfl rfl rfl rfl; exact D.addN rfl rfl rfl (show 256 * num (s.take i) + c.toNat < 18446744073709551616 by omega)); rw [hstep]) <;>
    ((apply XL.det0F rfl rfl rfl rfl; exact D.assign rfl)) <;>
    (refine XL.nil ?_)) <;> (first | refine N.block ?_ | refine Ex.here ?_ | refine Ex.out rfl ?_)) <;> (first | refine Ex.then ?_ | (refine N.next ?_ <;> (refine X.text (L := (.op .fin 0 (.op .fin 1 (.op .fin 2 .nil)))) rfl (by kernel_rfl) ?_ <;>
    ((apply XL.det0F rfl rfl rfl rfl; exact D.move rfl)) <;>
    ((apply XL.det0F rfl rfl rfl rfl; first | exact D.add64 rfl rfl (by omega) | exact D.int rfl rfl rfl)) <;>
    ((apply XL.det0F rfl rfl rfl rfl; exact D.assign rfl)) <;>
    (refine XL.nil ?_)))))))) <;> (first | refine Ex.then ?_ | ((refine N.again ((i + 1)) ?_ ?_ ?_ ?_; (focus (omega)); (focus (first | omega | (dsimp only; omega))); (focus (repeat (first | exact Sub.nil | refine Sub.cons rfl ?_))); exact (fun w h => h.takes))))) <;> (first | refine N.block ?_ | refine Ex.here ?_ | refine Ex.out rfl ?_))))) <;> (first | refine Ex.then ?_ | (refine N.next ?_ <;> (refine X.seq ?_ <;> (refine X.text (L := (.op .fin 0 (.op .fin 1 (.op .fin 2 (.op .fin 3 (.op .fin 4 .nil)))))) rfl (by kernel_rfl) ?_ <;>
    (obtain rfl : i = n := (by omega); (apply XL.det0F rfl rfl rfl rfl; exact D.move rfl)) <;>
    ((apply XL.det0F rfl rfl rfl rfl; exact D.move rfl)) <;>
    ((apply XL.det0F rfl rfl rfl rfl; exact D.assign rfl)) <;>
    ((apply XL.det0F rfl rfl rfl rfl; exact D.assign rfl)) <;>
    ((apply XL.det0F rfl rfl rfl rfl; exact D.assign rfl)) <;>
    (refine XL.nil ?_)) <;> (first | refine Ex.then ?_ | (refine N.next ?_ <;> ((refine X.ret ?_; (repeat (first | refine Rt.then ?_ | refine Rt.block ?_ | refine Rt.scope ?_)); (first | apply Rt.done (Res.r3 Tryz.results33 (RV.tmp rfl) (RV.tmp rfl) (RV.tmp rfl)) | apply Rt.doneM (Res.r3 Tryz.results33 (RV.tmp rfl) (RV.tmp rfl) (RV.tmp rfl))); (focus (first | (exact ⟨0, 0, 10, rfl, .inr ⟨by unfold fixF; rw [if_pos (by omega)], by decide⟩, rfl⟩) | (exact ⟨num (s.take i), i, 0, rfl, .inl ⟨by unfold fixF; rw [if_neg (by omega)], rfl⟩, rfl⟩))); exact fun w h => h.takes))))))))))))))))))))

end Go.Lx
