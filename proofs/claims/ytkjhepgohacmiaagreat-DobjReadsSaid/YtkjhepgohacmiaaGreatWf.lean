/- Package wire's walks: bounded numbers and texts that are read. -/
import Derived.Test.YtkjhepgohacmiaaGreatWe
namespace Go.Lx
open Go.Proofs
set_option linter.unusedVariables false
set_option linter.unusedSimpArgs false
set_option maxRecDepth 20000
set_option maxHeartbeats 4000000

theorem intR1 {s : Bs} {p x p' most : Nat} {e e' : Int} (h : RdR fewF 0 s p e x p' e') (hx : e' = 0 → x ≤ most) : RdR (intF most) 0 s p e x p' e' := by
  obtain ⟨h0, h⟩ := h
  refine ⟨h0, ?_⟩
  rcases h with ⟨h1, n, h2, h3, h4⟩ | ⟨h1, h2, h3⟩
  · exact .inl ⟨h1, n, by unfold intF; rw [h2]; simp only; rw [if_pos (hx h3)], h3, h4⟩
  · refine .inr ⟨?_, h2, h3⟩
    rcases h1 with h1 | h1
    · exact .inl h1
    · exact .inr (by unfold intF; rw [h1])
theorem intR2 {s : Bs} {p x p' most : Nat} {e e' : Int} (h : RdR fewF 0 s p e x p' e') (hp : p ≤ s.length) (he : e' = 0) (hx : ¬ x ≤ most) : RdR (intF most) 0 s p e 0 p 12 := by
  obtain ⟨h0, h⟩ := h
  refine ⟨hp, ?_⟩
  rcases h with ⟨h1, n, h2, h3, h4⟩ | ⟨h1, h2, h3⟩
  · exact .inr ⟨.inr (by unfold intF; rw [h2]; simp only; rw [if_neg hx]), rfl, by decide⟩
  · exact absurd he h3
theorem RdR.zero {α : Type} {f : Bs → Option (α × Nat)} {d : α} {s : Bs} {p : Nat} {e : Int} {x : α} {p' : Nat} {e' : Int} (h : RdR f d s p e x p' e') (he : ¬ e' = 0) : x = d := by
  rcases h.2 with ⟨_, _, _, h, _⟩ | ⟨_, h, _⟩
  · exact absurd h he
  · exact h
theorem IInt_spec (w : World) (H : Nat → Prop) (g p most : Nat) (e : Int) (s : Bs) (hown : Sep [cells g [.int .i64 p, .int .i64 e, .string ⟨List.toArray s⟩] 121] w H) (hp : p ≤ s.length) (hs : s.length ≤ 1000000000) (hmo : most < 9223372036854775808) : Spec Tryz.prog 66 #[.pointer (some ⟨g, 0, none⟩), .int .i64 most] w H (fun v A => ∃ x p' e', v = .int .i64 ((x : Nat) : Int) ∧ x ≤ most ∧ RdR (intF most) 0 s p e x p' e' ∧ A = [cells g [.int .i64 p', .int .i64 e', .string ⟨List.toArray s⟩] 121]) := by
  refine Spec.enter (args := [.pointer (some ⟨g, 0, none⟩), .int .i64 most]) (A := [cells g [.int .i64 p, .int .i64 e, .string ⟨List.toArray s⟩] 121]) Tryz.func66 rfl Tryz.ntmps66 rfl hown ?_
  (refine X.seq ?_ <;> (refine X.text (L := (.op .fin 0 .nil)) rfl (by kernel_rfl) ?_ <;>
    ((apply XL.det0F rfl rfl rfl rfl; exact D.assign rfl)) <;>
    (refine XL.nil ?_)) <;> (first | refine Ex.then ?_ | (refine N.next ?_ <;> (refine X.seq ?_ <;> (refine X.text (L := (.op .fin 0 (.op .fin 1 (.op .fin 2 .nil)))) rfl (by kernel_rfl) ?_ <;>
    ((apply XL.det0F rfl rfl rfl rfl; exact D.move rfl)) <;>
    ((refine XL.call rfl rfl rfl rfl (fun w hw => At_spec w g p (hw.cellAt (Loc.at_) rfl)) ?_; rintro v B' ⟨rfl, rfl⟩; refine XL.both ?_)) <;>
    ((apply XL.det0F rfl rfl rfl rfl; exact D.assign rfl)) <;>
    (refine XL.nil ?_)) <;> (first | refine Ex.then ?_ | (refine N.next ?_ <;> (refine X.seq ?_ <;> (refine X.text (L := (.op .fin 0 (.op .fin 1 (.op .fin 2 .nil)))) rfl (by kernel_rfl) ?_ <;>
    ((apply XL.det0F rfl rfl rfl rfl; exact D.move rfl)) <;>
    ((refine XL.callF [cells g [.int .i64 p, .int .i64 e, .string ⟨List.toArray s⟩] 121] rfl rfl rfl rfl (fun w F hF hm hw => IVar_spec w F g p e s hF hp hs) ?_; rintro v B' ⟨x, p', e', rfl, hR, rfl⟩; refine XL.both ?_)) <;>
    ((apply XL.det0F rfl rfl rfl rfl; exact D.assign rfl)) <;>
    (refine XL.nil ?_)) <;> (first | refine Ex.then ?_ | (refine N.next ?_ <;> (refine X.seq ?_ <;> (refine X.seq ?_ <;> (refine X.text (L := (.op .fin 0 (.op .fin 1 (.op .fin 2 (.op .fin 3 (.op .fin 4 (.op .fin 5 (.op .fin 6 (.op .fin 7 (.op .fin 8 (.op .fin 9 (.op .fin 10 (.op .fin 11 .nil))))))))))))) rfl (by kernel_rfl) ?_ <;>
    ((apply XL.det0F rfl rfl rfl rfl; exact D.move rfl)) <;>
    ((refine XL.call rfl rfl rfl rfl (fun w hw => ready_spec w g e' (hw.cellAt (Loc.at_) rfl)) ?_; rintro v B' ⟨rfl, rfl⟩; refine XL.both ?_); (by_cases he : e' = 0 <;> first | rw [decide_eq_true he] | rw [decide_eq_false he])) <;>
    ((apply XL.det0F rfl rfl rfl rfl; exact D.move rfl)) <;>
    (first | refine XL.skipF rfl rfl rfl rfl ?_ | ((apply XL.det0F rfl rfl rfl rfl; exact D.move rfl))) <;>
    (first | refine XL.skipF rfl rfl rfl rfl ?_ | (first | refine XL.cmpTF rfl rfl rfl rfl (D.int rfl rfl rfl) (by omega) ?_ | refine XL.cmpFF rfl rfl rfl rfl (D.int rfl rfl rfl) (by omega) ?_ | refine XL.splitF rfl rfl rfl rfl (D.int rfl rfl rfl) (fun _ => ?_) (fun _ => ?_))) <;>
    (first | refine XL.skipF rfl rfl rfl rfl ?_ | ((apply XL.det0F rfl rfl rfl rfl; exact D.move rfl))) <;>
    (first | refine XL.skipF rfl rfl rfl rfl ?_ | ((apply XL.det0F rfl rfl rfl rfl; exact D.move rfl))) <;>
    (first | refine XL.skipF rfl rfl rfl rfl ?_ | ((apply XL.det0F rfl rfl rfl rfl; exact D.move rfl))) <;>
    (first | refine XL.skipF rfl rfl rfl rfl ?_ | (first | refine XL.skipF rfl rfl rfl rfl ?_ | ((apply XL.det0F rfl rfl rfl rfl; exact D.convN rfl rfl); rw [Nat.mod_eq_of_lt (show most < 2 ^ IntKind.u64.bits from Nat.lt_trans hmo (by decide))]))) <;>
    (first | refine XL.skipF rfl rfl rfl rfl ?_ | (first | refine XL.skipF rfl rfl rfl rfl ?_ | refine XL.splitF rfl rfl rfl rfl (D.int rfl rfl rfl) (fun h1 => ?_) (fun h1 => ?_))) <;>
    (first | refine XL.skipF rfl rfl rfl rfl ?_ | ((apply XL.det0F rfl rfl rfl rfl; first | exact D.pickT rfl rfl | exact D.pickF rfl rfl | exact D.pick rfl rfl rfl))) <;>
    ((apply XL.det0F rfl rfl rfl rfl; first | exact D.pickT rfl rfl | exact D.pickF rfl rfl | exact D.pick rfl rfl rfl)) <;>
    (refine XL.nil ?_)) <;> (first | refine Ex.then ?_ | (refine N.next ?_ <;> ((
    refine X.cond rfl ?_ ?_; rotate_left; (focus (
    intro hc; first | exact absurd hc (by decide) | (cases hc; done) | (refine X.skip ?_))); rotate_right; (focus (
    intro hc; first | exact absurd hc (by decide) | (cases hc; done) | (refine X.seq ?_ <;> (refine X.text (L := (.op .fin 0 (.op .fin 1 (.op .fin 2 (.op .fin 3 (.op .fin 4 .nil)))))) rfl (by kernel_rfl) ?_ <;>
    ((apply XL.det0F rfl rfl rfl rfl; exact D.move rfl)) <;>
    ((apply XL.det0F rfl rfl rfl rfl; exact D.nilCheck rfl)) <;>
    ((apply XL.det0F rfl rfl rfl rfl; first | exact D.fieldAddrB0 rfl rfl | exact D.fieldAddrB rfl rfl | exact D.fieldAddrE0 rfl rfl | exact D.fieldAddrE rfl rfl)) <;>
    ((apply XL.det0F rfl rfl rfl rfl; exact D.move rfl)) <;>
    ((refine XL.callF [cells g [.int .i64 p', .int .i64 e', .string ⟨List.toArray s⟩] 121] rfl rfl rfl rfl (fun w F hF hm hw => stand_spec w F g p' p e' 12 s hF) ?_; rintro v B' ⟨rfl, rfl⟩; refine XL.both ?_)) <;>
    (refine XL.nil ?_)) <;> (first | refine Ex.then ?_ | (refine N.next ?_ <;> (refine X.seq ?_ <;> (refine X.text (L := (.op .fin 0 .nil)) rfl (by kernel_rfl) ?_ <;>
    ((apply XL.det0F rfl rfl rfl rfl; exact D.assign rfl)) <;>
    (refine XL.nil ?_)) <;> (first | refine Ex.then ?_ | (refine N.next ?_ <;> ((refine X.ret ?_; (repeat (first | refine Rt.then ?_ | refine Rt.block ?_ | refine Rt.scope ?_)); (first | apply Rt.done (Res.r1 Tryz.results66 (RV.tmp rfl)) | apply Rt.doneM (Res.r1 Tryz.results66 (RV.tmp rfl))); (focus (first | (exact ⟨x, p', e', rfl, hxm, intR1 hR (fun _ => hxm), rfl⟩) | (exact ⟨0, p, 12, rfl, Nat.zero_le _, intR2 hR hp he (by omega), rfl⟩))); exact fun w h => h.takes))))))))))))))) <;> (first | refine Ex.then ?_ | (refine N.next ?_ <;> (refine X.seq ?_ <;> (refine X.text (L := (.op .fin 0 (.op .fin 1 (.op .fin 2 .nil)))) rfl (by kernel_rfl) ?_ <;>
    ((apply XL.det0F rfl rfl rfl rfl; exact D.move rfl)) <;>
    (have hxm : x ≤ most := (by first | omega | (have := hR.zero he; omega)); (apply XL.det0F rfl rfl rfl rfl; exact D.conv64 rfl (by omega))) <;>
    ((apply XL.det0F rfl rfl rfl rfl; exact D.assign rfl)) <;>
    (refine XL.nil ?_)) <;> (first | refine Ex.then ?_ | (refine N.next ?_ <;> ((refine X.ret ?_; (repeat (first | refine Rt.then ?_ | refine Rt.block ?_ | refine Rt.scope ?_)); (first | apply Rt.done (Res.r1 Tryz.results66 (RV.tmp rfl)) | apply Rt.doneM (Res.r1 Tryz.results66 (RV.tmp rfl))); (focus (first | (exact ⟨x, p', e', rfl, hxm, intR1 hR (fun _ => hxm), rfl⟩) | (exact ⟨0, p, 12, rfl, Nat.zero_le _, intR2 hR hp he (by omega), rfl⟩))); exact fun w h => h.takes)))))))))))))))))
theorem textR {s : Bs} {p n p1 p2 most : Nat} {e e1 e2 : Int} {x : Bs} (h : RdR (intF most) 0 s p e n p1 e1) (ht : TakeR s p1 e1 n x p2 e2) (p3 : Nat) (h3 : (e2 = 0 ∧ p3 = p2) ∨ (e2 ≠ 0 ∧ p3 ≤ s.length)) : RdR (textF most) [] s p e x p3 e2 := by
  obtain ⟨h0, h⟩ := h
  have hle := ht.le h0
  refine ⟨by omega, ?_⟩
  rcases h with ⟨a1, m, a2, rfl, rfl⟩ | ⟨a1, rfl, a3⟩
  · rcases ht with ⟨_, b1, rfl, rfl, rfl⟩ | ⟨_, b1, rfl, rfl, rfl⟩ | ⟨b, _⟩
    · refine .inl ⟨a1, m + n, ?_, rfl, by omega⟩
      unfold textF
      rw [a2]
      simp only
      rw [if_pos (by rw [List.length_drop]; omega), List.drop_drop]
    · refine .inr ⟨.inr ?_, rfl, by decide⟩
      unfold textF
      rw [a2]
      simp only
      rw [if_neg (by rw [List.length_drop]; omega)]
    · exact absurd rfl b
  · rcases ht with ⟨b, _⟩ | ⟨b, _⟩ | ⟨_, rfl, rfl, rfl⟩
    · exact absurd b a3
    · exact absurd b a3
    · refine .inr ⟨?_, rfl, a3⟩
      rcases a1 with a1 | a1
      · exact .inl a1
      · exact .inr (by unfold textF; rw [a1])

end Go.Lx
