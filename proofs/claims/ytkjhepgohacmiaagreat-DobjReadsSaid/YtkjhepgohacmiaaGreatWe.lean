/- Package wire's walks: numbers and texts that are read. -/
import Derived.Test.YtkjhepgohacmiaaGreatWd
namespace Go.Lx
open Go.Proofs
set_option linter.unusedVariables false
set_option linter.unusedSimpArgs false
set_option maxRecDepth 20000
set_option maxHeartbeats 4000000

theorem and_hd : ∀ n : Nat, n < 9 → 1 ≤ n → ∀ b : Nat, b < 256 → hd n ≤ b → b < hd n + 2 ^ (8 - n) → b &&& (255 - hd n) = b - hd n := by decide +kernel
theorem TakeR.le {s : Bs} {p n : Nat} {e : Int} {x : Bs} {p' : Nat} {e' : Int} (h : TakeR s p e n x p' e') (hp : p ≤ s.length) : p' ≤ s.length := by
  rcases h with ⟨_, _, _, rfl, _⟩ | ⟨_, _, _, rfl, _⟩ | ⟨_, _, rfl, _⟩ <;> omega
theorem fixR {s : Bs} {p n : Nat} {e : Int} {x : Bs} {p' : Nat} {e' : Int} (hp : p ≤ s.length) (ht : TakeR s p e n x p' e') : RdR (fixF n) 0 s p e (num x) p' e' := by
  have hle := ht.le hp
  refine ⟨hle, ?_⟩
  rcases ht with ⟨h1, h2, rfl, h3, h4⟩ | ⟨h1, h2, rfl, h3, h4⟩ | ⟨h1, rfl, h3, h4⟩
  · exact .inl ⟨h1, n, by unfold fixF; rw [if_neg (by rw [List.length_drop]; omega)], h4, h3⟩
  · exact .inr ⟨.inr (by unfold fixF; rw [if_pos (by rw [List.length_drop]; omega)]), rfl, by omega⟩
  · exact .inr ⟨.inl h1, rfl, by omega⟩
theorem Read_spec (w : World) (s : Bs) : Spec Tryz.prog 28 #[.string ⟨List.toArray s⟩] w (fun _ => False) (fun v A => ∃ g, v = .pointer (some ⟨g, 0, none⟩) ∧ A = [cells g [.int .i64 ((0 : Nat)), .int .i64 0, .string ⟨List.toArray s⟩] 121]) := by
  refine Spec.enter (args := [.string ⟨List.toArray s⟩]) (A := []) Tryz.func28 rfl Tryz.ntmps28 rfl (fun _ h => h) ?_
  (refine X.seq ?_ <;> (refine X.text (L := (.op .fin 0 .nil)) rfl (by kernel_rfl) ?_ <;>
    ((apply XL.det0F rfl rfl rfl rfl; exact D.assign rfl)) <;>
    (refine XL.nil ?_)) <;> (first | refine Ex.then ?_ | (refine N.next ?_ <;> (refine X.seq ?_ <;> (refine X.text (L := (.op .fin 0 (.op .fin 1 (.op .fin 2 (.op .fin 3 .nil))))) rfl (by kernel_rfl) ?_ <;>
    ((apply XL.det0F rfl rfl rfl rfl; exact D.move rfl)) <;>
    ((apply XL.det0F rfl rfl rfl rfl; exact D.build rfl)) <;>
    (first | refine XL.boxN rfl rfl rfl rfl (by intro g; infer_instance) (fun g => ?_) | refine XL.box1 rfl rfl rfl rfl rfl (by intro g; infer_instance) (fun g => ?_)) <;>
    ((apply XL.det0F rfl rfl rfl rfl; exact D.assign rfl)) <;>
    (refine XL.nil ?_)) <;> (first | refine Ex.then ?_ | (refine N.next ?_ <;> ((refine X.ret ?_; (repeat (first | refine Rt.then ?_ | refine Rt.block ?_ | refine Rt.scope ?_)); (first | apply Rt.done (Res.r1 Tryz.results28 (RV.tmp rfl)) | apply Rt.doneM (Res.r1 Tryz.results28 (RV.tmp rfl))); (focus (exact ⟨_, rfl, rfl⟩)); exact fun w h => h.takes))))))))
theorem Done_spec (w : World) (g p : Nat) (e : Int) (s : Bs) (h0 : w.cell? ⟨g, 0, none⟩ = some (.int .i64 p)) (h1 : w.cell? ⟨g, 1, none⟩ = some (.int .i64 e)) (h2 : w.cell? ⟨g, 2, none⟩ = some (.string ⟨List.toArray s⟩)) (hp : p ≤ s.length) (hs : s.length ≤ 1000000000) : Spec Tryz.prog 69 #[.pointer (some ⟨g, 0, none⟩)] w (fun _ => False) (fun v A => ∃ f : Int, v = .int .i64 f ∧ (f = 0 ↔ e = 0 ∧ p = s.length) ∧ A = []) := by
  refine Spec.enter (args := [.pointer (some ⟨g, 0, none⟩)]) (A := []) Tryz.func69 rfl Tryz.ntmps69 rfl (fun _ h => h) ?_
  (refine X.seq ?_ <;> (refine X.text (L := (.op .fin 0 .nil)) rfl (by kernel_rfl) ?_ <;>
    ((apply XL.det0F rfl rfl rfl rfl; exact D.assign rfl)) <;>
    (refine XL.nil ?_)) <;> (first | refine Ex.then ?_ | (refine N.next ?_ <;> (refine X.seq ?_ <;> (refine X.seq ?_ <;> (refine X.text (L := (.op .fin 0 (.op .fin 1 (.op .fin 2 .nil)))) rfl (by kernel_rfl) ?_ <;>
    ((apply XL.det0F rfl rfl rfl rfl; exact D.move rfl)) <;>
    ((refine XL.call rfl rfl rfl rfl (fun w hw => Err_spec w g e (hw.cell0 h1 (fun h => h))) ?_; rintro v B' ⟨rfl, rfl⟩; refine XL.both ?_)) <;>
    ((apply XL.det0F rfl rfl rfl rfl; exact D.assign rfl)) <;>
    (refine XL.nil ?_)) <;> (first | refine Ex.then ?_ | (refine N.next ?_ <;> (refine X.seq ?_ <;> (refine X.text (L := (.op .fin 0 (.op .fin 1 .nil))) rfl (by kernel_rfl) ?_ <;>
    ((apply XL.det0F rfl rfl rfl rfl; exact D.move rfl)) <;>
    (first | refine XL.splitF rfl rfl rfl rfl (D.int rfl rfl rfl) (fun h5 => ?_) (fun h5 => ?_)) <;>
    (refine XL.nil ?_)) <;> (first | refine Ex.then ?_ | (refine N.next ?_ <;> ((
    refine X.cond rfl ?_ ?_; rotate_left; (focus (
    intro hc; first | exact absurd hc (by decide) | (cases hc; done) | (refine X.skip ?_))); rotate_right; (focus (
    intro hc; first | exact absurd hc (by decide) | (cases hc; done) | (refine X.seq ?_ <;> (refine X.text (L := (.op .fin 0 (.op .fin 1 .nil))) rfl (by kernel_rfl) ?_ <;>
    ((apply XL.det0F rfl rfl rfl rfl; exact D.move rfl)) <;>
    ((apply XL.det0F rfl rfl rfl rfl; exact D.assign rfl)) <;>
    (refine XL.nil ?_)) <;> (first | refine Ex.then ?_ | (refine N.next ?_ <;> ((refine X.ret ?_; (repeat (first | refine Rt.then ?_ | refine Rt.block ?_ | refine Rt.scope ?_)); (first | apply Rt.done (Res.r1 Tryz.results69 (RV.tmp rfl)) | apply Rt.doneM (Res.r1 Tryz.results69 (RV.tmp rfl))); (focus (exact ⟨_, rfl, by omega, rfl⟩)); exact fun w h => h.takes))))))))))))))) <;> (first | refine Ex.then ?_ | (refine N.next ?_ <;> (refine X.seq ?_ <;> (refine X.seq ?_ <;> (refine X.text (L := (.op .fin 0 (.op .fin 1 (.op .fin 2 .nil)))) rfl (by kernel_rfl) ?_ <;>
    ((apply XL.det0F rfl rfl rfl rfl; exact D.move rfl)) <;>
    ((refine XL.call rfl rfl rfl rfl (fun w hw => Left_spec w g p s (hw.cell0 h0 (fun h => h)) (hw.cell0 h2 (fun h => h)) hp hs) ?_; rintro v B' ⟨rfl, rfl⟩; refine XL.both ?_)) <;>
    (first | refine XL.splitF rfl rfl rfl rfl (D.int rfl rfl rfl) (fun h6 => ?_) (fun h6 => ?_)) <;>
    (refine XL.nil ?_)) <;> (first | refine Ex.then ?_ | (refine N.next ?_ <;> ((
    refine X.cond rfl ?_ ?_; rotate_left; (focus (
    intro hc; first | exact absurd hc (by decide) | (cases hc; done) | (refine X.skip ?_))); rotate_right; (focus (
    intro hc; first | exact absurd hc (by decide) | (cases hc; done) | (refine X.seq ?_ <;> (refine X.text (L := (.op .fin 0 .nil)) rfl (by kernel_rfl) ?_ <;>
    ((apply XL.det0F rfl rfl rfl rfl; exact D.assign rfl)) <;>
    (refine XL.nil ?_)) <;> (first | refine Ex.then ?_ | (refine N.next ?_ <;> ((refine X.ret ?_; (repeat (first | refine Rt.then ?_ | refine Rt.block ?_ | refine Rt.scope ?_)); (first | apply Rt.done (Res.r1 Tryz.results69 (RV.tmp rfl)) | apply Rt.doneM (Res.r1 Tryz.results69 (RV.tmp rfl))); (focus (exact ⟨_, rfl, by omega, rfl⟩)); exact fun w h => h.takes)))))))))))) <;> (first | refine Ex.then ?_ | (refine N.next ?_ <;> (refine X.seq ?_ <;> (refine X.text (L := (.op .fin 0 .nil)) rfl (by kernel_rfl) ?_ <;>
    ((apply XL.det0F rfl rfl rfl rfl; exact D.assign rfl)) <;>
    (refine XL.nil ?_)) <;> (first | refine Ex.then ?_ | (refine N.next ?_ <;> ((refine X.ret ?_; (repeat (first | refine Rt.then ?_ | refine Rt.block ?_ | refine Rt.scope ?_)); (first | apply Rt.done (Res.r1 Tryz.results69 (RV.tmp rfl)) | apply Rt.doneM (Res.r1 Tryz.results69 (RV.tmp rfl))); (focus (exact ⟨_, rfl, by omega, rfl⟩)); exact fun w h => h.takes))))))))))))))
theorem IFixed_spec (w : World) (H : Nat → Prop) (g p n : Nat) (e : Int) (s : Bs) (hown : Sep [cells g [.int .i64 p, .int .i64 e, .string ⟨List.toArray s⟩] 121] w H) (hp : p ≤ s.length) (hs : s.length ≤ 1000000000) (hn : 1 ≤ n ∧ n ≤ 8) : Spec Tryz.prog 29 #[.pointer (some ⟨g, 0, none⟩), .int .i64 n] w H (fun v A => ∃ x p' e', v = .int .u64 ((x : Nat) : Int) ∧ RdR (fixF n) 0 s p e x p' e' ∧ A = [cells g [.int .i64 p', .int .i64 e', .string ⟨List.toArray s⟩] 121]) := by
  refine Spec.enter (args := [.pointer (some ⟨g, 0, none⟩), .int .i64 n]) (A := [cells g [.int .i64 p, .int .i64 e, .string ⟨List.toArray s⟩] 121]) Tryz.func29 rfl Tryz.ntmps29 rfl hown ?_
  (refine X.seq ?_ <;> (refine X.text (L := (.op .fin 0 .nil)) rfl (by kernel_rfl) ?_ <;>
    ((apply XL.det0F rfl rfl rfl rfl; exact D.assign rfl)) <;>
    (refine XL.nil ?_)) <;> (first | refine Ex.then ?_ | (refine N.next ?_ <;> (refine X.seq ?_ <;> (refine X.seq ?_ <;> (refine X.text (L := (.op .fin 0 (.op .fin 1 (.op .fin 2 (.op .fin 3 (.op .fin 4 (.op .fin 5 (.op .fin 6 (.op .fin 7 (.op .fin 8 (.op .fin 9 .nil))))))))))) rfl (by kernel_rfl) ?_ <;>
    ((apply XL.det0F rfl rfl rfl rfl; exact D.move rfl)) <;>
    ((refine XL.call rfl rfl rfl rfl (fun w hw => ready_spec w g e (hw.cellAt (Loc.at_) rfl)) ?_; rintro v B' ⟨rfl, rfl⟩; refine XL.both ?_); (by_cases he : e = 0 <;> first | rw [decide_eq_true he] | rw [decide_eq_false he])) <;>
    ((apply XL.det0F rfl rfl rfl rfl; exact D.move rfl)) <;>
    (first | refine XL.skipF rfl rfl rfl rfl ?_ | ((apply XL.det0F rfl rfl rfl rfl; exact D.move rfl))) <;>
    (first | refine XL.skipF rfl rfl rfl rfl ?_ | (first | refine XL.cmpTF rfl rfl rfl rfl (D.int rfl rfl rfl) (by omega) ?_ | refine XL.cmpFF rfl rfl rfl rfl (D.int rfl rfl rfl) (by omega) ?_ | refine XL.splitF rfl rfl rfl rfl (D.int rfl rfl rfl) (fun _ => ?_) (fun _ => ?_))) <;>
    (first | refine XL.skipF rfl rfl rfl rfl ?_ | ((apply XL.det0F rfl rfl rfl rfl; exact D.move rfl))) <;>
    (first | refine XL.skipF rfl rfl rfl rfl ?_ | ((apply XL.det0F rfl rfl rfl rfl; exact D.move rfl))) <;>
    (first | refine XL.skipF rfl rfl rfl rfl ?_ | (first | refine XL.cmpTF rfl rfl rfl rfl (D.int rfl rfl rfl) (by omega) ?_ | refine XL.cmpFF rfl rfl rfl rfl (D.int rfl rfl rfl) (by omega) ?_ | refine XL.splitF rfl rfl rfl rfl (D.int rfl rfl rfl) (fun _ => ?_) (fun _ => ?_))) <;>
    (first | refine XL.skipF rfl rfl rfl rfl ?_ | ((apply XL.det0F rfl rfl rfl rfl; first | exact D.pickT rfl rfl | exact D.pickF rfl rfl | exact D.pick rfl rfl rfl))) <;>
    ((apply XL.det0F rfl rfl rfl rfl; first | exact D.pickT rfl rfl | exact D.pickF rfl rfl | exact D.pick rfl rfl rfl)) <;>
    (refine XL.nil ?_)) <;> (first | refine Ex.then ?_ | (refine N.next ?_ <;> ((
    refine X.cond rfl ?_ ?_; rotate_left; (focus (
    intro hc; first | exact absurd hc (by decide) | (cases hc; done) | (refine X.skip ?_))); rotate_right; (focus (
    intro hc; first | exact absurd hc (by decide) | (cases hc; done) | (refine X.draw (.op .v0 0 (.op .v0 1 (.op .v0 2 (.op .v0 3 (.op .v0 4 (.op .v0 5 (.op .v0 6 (.op .v1 7 (.op .ch 8 .nil))))))))) mixed (by kernel_rfl) ?_ <;>
    ((apply XL.det0 rfl rfl rfl rfl; exact D.move rfl)) <;>
    ((apply XL.det0 rfl rfl rfl rfl; exact D.nilCheck rfl)) <;>
    ((apply XL.det0 rfl rfl rfl rfl; first | exact D.fieldAddrB0 rfl rfl | exact D.fieldAddrB rfl rfl | exact D.fieldAddrE0 rfl rfl | exact D.fieldAddrE rfl rfl)) <;>
    ((apply XL.det0 rfl rfl rfl rfl; exact D.move rfl)) <;>
    ((apply XL.det0 rfl rfl rfl rfl; exact D.nilCheck rfl)) <;>
    ((apply XL.det0 rfl rfl rfl rfl; first | exact D.fieldAddrB0 rfl rfl | exact D.fieldAddrB rfl rfl | exact D.fieldAddrE0 rfl rfl | exact D.fieldAddrE rfl rfl)) <;>
    ((apply XL.det0 rfl rfl rfl rfl; first | exact D.fieldAddrB0 rfl rfl | exact D.fieldAddrB rfl rfl | exact D.fieldAddrE0 rfl rfl | exact D.fieldAddrE rfl rfl)) <;>
    ((apply XL.det1 rfl rfl rfl rfl; first | exact D.load1 rfl (fun w h => h.cellAt (Loc.at_) rfl) | exact D.loadN rfl rfl (fun w h j u hu => by rw [at_add, Nat.zero_add]; exact h.cellAt (Loc.at_) hu) | exact D.loadP rfl rfl)) <;>
    (fail "op call") <;>
    (refine XL.nil ?_))))))))) <;> (first | refine Ex.then ?_ | (refine N.next ?_ <;> (refine X.seq ?_ <;> (refine X.text (L := (.op .fin 0 (.op .fin 1 (.op .fin 2 (.op .fin 3 (.op .fin 4 .nil)))))) rfl (by kernel_rfl) ?_ <;>
    ((apply XL.det0F rfl rfl rfl rfl; exact D.move rfl)) <;>
    ((apply XL.det0F rfl rfl rfl rfl; exact D.move rfl)) <;>
    ((refine XL.callF [cells g [.int .i64 p, .int .i64 e, .string ⟨List.toArray s⟩] 121] rfl rfl rfl rfl (fun w F hF hm hw => take_spec w F g p n e s hF hp hs (by omega)) ?_; rintro v B' ⟨x, p', e', rfl, ht, rfl⟩; refine XL.both ?_); have hle := ht.le hp; have hxl : x.length ≤ 8 := (by rcases ht with ⟨_, _, rfl, _⟩ | ⟨_, _, rfl, _⟩ | ⟨_, rfl, _⟩; rw [List.length_take]; omega; simp; simp)) <;>
    ((refine XL.call rfl rfl rfl rfl (fun w hw => number_spec w x hxl) ?_; rintro v B' ⟨rfl, rfl⟩; refine XL.both ?_)) <;>
    ((apply XL.det0F rfl rfl rfl rfl; exact D.assign rfl)) <;>
    (refine XL.nil ?_)) <;> (first | refine Ex.then ?_ | (refine N.next ?_ <;> ((refine X.ret ?_; (repeat (first | refine Rt.then ?_ | refine Rt.block ?_ | refine Rt.scope ?_)); (first | apply Rt.done (Res.r1 Tryz.results29 (RV.tmp rfl)) | apply Rt.doneM (Res.r1 Tryz.results29 (RV.tmp rfl))); (focus (exact ⟨num x, p', e', rfl, fixR hp ht, rfl⟩)); exact fun w h => h.takes)))))))))))
theorem IVar_spec (w : World) (H : Nat → Prop) (g p : Nat) (e : Int) (s : Bs) (hown : Sep [cells g [.int .i64 p, .int .i64 e, .string ⟨List.toArray s⟩] 121] w H) (hp : p ≤ s.length) (hs : s.length ≤ 1000000000) : Spec Tryz.prog 102 #[.pointer (some ⟨g, 0, none⟩)] w H (fun v A => ∃ x p' e', v = .int .u64 ((x : Nat) : Int) ∧ RdR fewF 0 s p e x p' e' ∧ A = [cells g [.int .i64 p', .int .i64 e', .string ⟨List.toArray s⟩] 121]) := by
  refine Spec.enter (args := [.pointer (some ⟨g, 0, none⟩)]) (A := [cells g [.int .i64 p, .int .i64 e, .string ⟨List.toArray s⟩] 121]) Tryz.func102 rfl Tryz.ntmps102 rfl hown ?_
  (refine X.seq ?_ <;> (refine X.text (L := (.op .fin 0 .nil)) rfl (by kernel_rfl) ?_ <;>
    ((apply XL.det0F rfl rfl rfl rfl; exact D.assign rfl)) <;>
    (refine XL.nil ?_)) <;> (first | refine Ex.then ?_ | (refine N.next ?_ <;> (refine X.seq ?_ <;> (refine X.seq ?_ <;> (refine X.text (L := (.op .fin 0 (.op .fin 1 (.op .fin 2 .nil)))) rfl (by kernel_rfl) ?_ <;>
    ((apply XL.det0F rfl rfl rfl rfl; exact D.move rfl)) <;>
    ((refine XL.call rfl rfl rfl rfl (fun w hw => ready_spec w g e (hw.cellAt (Loc.at_) rfl)) ?_; rintro v B' ⟨rfl, rfl⟩; refine XL.both ?_); (by_cases he : e = 0 <;> first | rw [decide_eq_true he] | rw [decide_eq_false he])) <;>
    ((apply XL.det0F rfl rfl rfl rfl; exact D.not rfl)) <;>
    (refine XL.nil ?_)) <;> (first | refine Ex.then ?_ | (refine N.next ?_ <;> ((
    refine X.cond rfl ?_ ?_; rotate_left; (focus (
    intro hc; first | exact absurd hc (by decide) | (cases hc; done) | (refine X.skip ?_))); rotate_right; (focus (
    intro hc; first | exact absurd hc (by decide) | (cases hc; done) | (refine X.seq ?_ <;> (refine X.text (L := (.op .fin 0 .nil)) rfl (by kernel_rfl) ?_ <;>
    ((apply XL.det0F rfl rfl rfl rfl; exact D.assign rfl)) <;>
    (refine XL.nil ?_)) <;> (first | refine Ex.then ?_ | (refine N.next ?_ <;> ((refine X.ret ?_; (repeat (first | refine Rt.then ?_ | refine Rt.block ?_ | refine Rt.scope ?_)); (first | apply Rt.done (Res.r1 Tryz.results102 (RV.tmp rfl)) | apply Rt.doneM (Res.r1 Tryz.results102 (RV.tmp rfl))); (focus (first | (exact ⟨0, p, e, rfl, ⟨hp, .inr ⟨.inl he, rfl, he⟩⟩, rfl⟩) | (exact ⟨z, p + wid b, 0, rfl, ⟨hle2, .inl ⟨he, wid b, by rw [hsd, fewF, if_neg (by rw [List.length_drop]; omega), hz, if_pos (by omega)], rfl, rfl⟩⟩, rfl⟩) | (exact ⟨0, p, 12, rfl, ⟨hp, .inr ⟨.inr (by rw [hsd, fewF, if_neg (by rw [List.length_drop]; omega), hz, if_neg (by omega)]), rfl, by decide⟩⟩, rfl⟩) | (exact ⟨0, p', e', rfl, ⟨hle, .inr ⟨.inr (by rw [hsd, fewF, if_pos (by rw [List.length_drop]; rcases ht with ⟨_, _, _, _, a4⟩ | ⟨_, a1, _⟩ | ⟨a1, _⟩; exact absurd a4 h2; omega; exact absurd he a1)]), rfl, h2⟩⟩, rfl⟩) | (exact ⟨0, p, 10, rfl, ⟨hp, .inr ⟨.inr (by rw [List.drop_of_length_le (by omega)]; rfl), rfl, by decide⟩⟩, rfl⟩))); exact fun w h => h.takes)))))))))))) <;> (first | refine Ex.then ?_ | (refine N.next ?_ <;> (refine X.seq ?_ <;> (refine X.text (L := (.op .fin 0 (.op .fin 1 (.op .fin 2 (.op .fin 3 (.op .fin 4 (.op .fin 5 .nil))))))) rfl (by kernel_rfl) ?_ <;>
    ((apply XL.det0F rfl rfl rfl rfl; exact D.move rfl)) <;>
    ((apply XL.det0F rfl rfl rfl rfl; exact D.nilCheck rfl)) <;>
    ((apply XL.det0F rfl rfl rfl rfl; first | exact D.fieldAddrB0 rfl rfl | exact D.fieldAddrB rfl rfl | exact D.fieldAddrE0 rfl rfl | exact D.fieldAddrE rfl rfl)) <;>
    ((apply XL.det0F rfl rfl rfl rfl; first | exact D.fieldAddrB0 rfl rfl | exact D.fieldAddrB rfl rfl | exact D.fieldAddrE0 rfl rfl | exact D.fieldAddrE rfl rfl)) <;>
    ((apply XL.detF rfl rfl rfl rfl; first | exact D.load1 rfl (fun w h => h.cellAt (Loc.at_) rfl) | exact D.loadN rfl rfl (fun w h j u hu => by rw [at_add, Nat.zero_add]; exact h.cellAt (Loc.at_) hu) | exact D.loadP rfl rfl)) <;>
    ((apply XL.det0F rfl rfl rfl rfl; exact D.assign rfl)) <;>
    (refine XL.nil ?_)) <;> (first | refine Ex.then ?_ | (refine N.next ?_ <;> (refine X.seq ?_ <;> (refine X.seq ?_ <;> (refine X.text (L := (.op .fin 0 (.op .fin 1 (.op .fin 2 .nil)))) rfl (by kernel_rfl) ?_ <;>
    ((apply XL.det0F rfl rfl rfl rfl; exact D.move rfl)) <;>
    ((refine XL.call rfl rfl rfl rfl (fun w hw => Left_spec w g p s (hw.cellAt (Loc.at_) rfl) (hw.cellAt (Loc.at_) rfl) hp hs) ?_; rintro v B' ⟨rfl, rfl⟩; refine XL.both ?_)) <;>
    (first | refine XL.splitF rfl rfl rfl rfl (D.int rfl rfl rfl) (fun h1 => ?_) (fun h1 => ?_)) <;>
    (refine XL.nil ?_)) <;> (first | refine Ex.then ?_ | (refine N.next ?_ <;> ((
    refine X.cond rfl ?_ ?_; rotate_left; (focus (
    intro hc; first | exact absurd hc (by decide) | (cases hc; done) | (refine X.skip ?_))); rotate_right; (focus (
    intro hc; first | exact absurd hc (by decide) | (cases hc; done) | (refine X.seq ?_ <;> (refine X.text (L := (.op .fin 0 (.op .fin 1 (.op .fin 2 (.op .fin 3 (.op .fin 4 .nil)))))) rfl (by kernel_rfl) ?_ <;>
    ((apply XL.det0F rfl rfl rfl rfl; exact D.move rfl)) <;>
    ((apply XL.det0F rfl rfl rfl rfl; exact D.nilCheck rfl)) <;>
    ((apply XL.det0F rfl rfl rfl rfl; first | exact D.fieldAddrB0 rfl rfl | exact D.fieldAddrB rfl rfl | exact D.fieldAddrE0 rfl rfl | exact D.fieldAddrE rfl rfl)) <;>
    ((apply XL.det0F rfl rfl rfl rfl; exact D.move rfl)) <;>
    ((refine XL.callF [cells g [.int .i64 p, .int .i64 e, .string ⟨List.toArray s⟩] 121] rfl rfl rfl rfl (fun w F hF hm hw => stand_spec w F g p p e 10 s hF) ?_; rintro v B' ⟨rfl, rfl⟩; refine XL.both ?_)) <;>
    (refine XL.nil ?_)) <;> (first | refine Ex.then ?_ | (refine N.next ?_ <;> (refine X.seq ?_ <;> (refine X.text (L := (.op .fin 0 .nil)) rfl (by kernel_rfl) ?_ <;>
    ((apply XL.det0F rfl rfl rfl rfl; exact D.assign rfl)) <;>
    (refine XL.nil ?_)) <;> (first | refine Ex.then ?_ | (refine N.next ?_ <;> ((refine X.ret ?_; (repeat (first | refine Rt.then ?_ | refine Rt.block ?_ | refine Rt.scope ?_)); (first | apply Rt.done (Res.r1 Tryz.results102 (RV.tmp rfl)) | apply Rt.doneM (Res.r1 Tryz.results102 (RV.tmp rfl))); (focus (first | (exact ⟨0, p, e, rfl, ⟨hp, .inr ⟨.inl he, rfl, he⟩⟩, rfl⟩) | (exact ⟨z, p + wid b, 0, rfl, ⟨hle2, .inl ⟨he, wid b, by rw [hsd, fewF, if_neg (by rw [List.length_drop]; omega), hz, if_pos (by omega)], rfl, rfl⟩⟩, rfl⟩) | (exact ⟨0, p, 12, rfl, ⟨hp, .inr ⟨.inr (by rw [hsd, fewF, if_neg (by rw [List.length_drop]; omega), hz, if_neg (by omega)]), rfl, by decide⟩⟩, rfl⟩) | (exact ⟨0, p', e', rfl, ⟨hle, .inr ⟨.inr (by rw [hsd, fewF, if_pos (by rw [List.length_drop]; rcases ht with ⟨_, _, _, _, a4⟩ | ⟨_, a1, _⟩ | ⟨a1, _⟩; exact absurd a4 h2; omega; exact absurd he a1)]), rfl, h2⟩⟩, rfl⟩) | (exact ⟨0, p, 10, rfl, ⟨hp, .inr ⟨.inr (by rw [List.drop_of_length_le (by omega)]; rfl), rfl, by decide⟩⟩, rfl⟩))); exact fun w h => h.takes))))))))))))))) <;> (first | refine Ex.then ?_ | (refine N.next ?_ <;> (refine X.seq ?_ <;> (refine X.text (L := (.op .fin 0 (.op .fin 1 (.op .fin 2 (.op .fin 3 (.op .fin 4 (.op .fin 5 (.op .fin 6 (.op .fin 7 (.op .fin 8 (.op .fin 9 .nil))))))))))) rfl (by kernel_rfl) ?_ <;>
    ((apply XL.det0F rfl rfl rfl rfl; exact D.move rfl)) <;>
    ((apply XL.det0F rfl rfl rfl rfl; exact D.nilCheck rfl)) <;>
    ((apply XL.det0F rfl rfl rfl rfl; first | exact D.fieldAddrB0 rfl rfl | exact D.fieldAddrB rfl rfl | exact D.fieldAddrE0 rfl rfl | exact D.fieldAddrE rfl rfl)) <;>
    ((apply XL.detF rfl rfl rfl rfl; first | exact D.load1 rfl (fun w h => h.cellAt (Loc.at_) rfl) | exact D.loadN rfl rfl (fun w h j u hu => by rw [at_add, Nat.zero_add]; exact h.cellAt (Loc.at_) hu) | exact D.loadP rfl rfl)) <;>
    ((apply XL.det0F rfl rfl rfl rfl; exact D.move rfl)) <;>
    (have hpl : p < s.length := (by omega); obtain ⟨b, hb⟩ : ∃ b, s[p]? = some b := (⟨s[p], List.getElem?_eq_getElem hpl⟩); have hbl := b.toNat_lt; have hwb := wid_bd b; have hwr := wid_range (b := b) rfl; have hsd : s.drop p = b :: s.drop (p + 1) := (by obtain ⟨h, rfl⟩ := List.getElem?_eq_some_iff.1 hb; exact List.drop_eq_getElem_cons h); (apply XL.det0F rfl rfl rfl rfl; exact D.idx p rfl rfl rfl hb)) <;>
    ((apply XL.det0F rfl rfl rfl rfl; exact D.notN rfl rfl hbl); rw [show 2 ^ IntKind.u8.bits - 1 - b.toNat = 255 - b.toNat from rfl]) <;>
    ((refine XL.call rfl rfl rfl rfl (fun w hw => Lead8_spec (255 - b.toNat) (by omega) w) ?_; rintro v B' ⟨rfl, rfl⟩; refine XL.both ?_)) <;>
    ((apply XL.det0F rfl rfl rfl rfl; exact D.add64 rfl rfl (by omega)); rw [show ((8 - bl (255 - b.toNat) : Nat) : Int) + 1 = ((wid b : Nat) : Int) from (by have := (bl_le 8 (255 - b.toNat)).2 (by omega); unfold wid; omega)]) <;>
    ((apply XL.det0F rfl rfl rfl rfl; exact D.assign rfl)) <;>
    (refine XL.nil ?_)) <;> (first | refine Ex.then ?_ | (refine N.next ?_ <;> (refine X.seq ?_ <;> (refine X.text (L := (.op .fin 0 (.op .fin 1 (.op .fin 2 (.op .fin 3 .nil))))) rfl (by kernel_rfl) ?_ <;>
    ((apply XL.det0F rfl rfl rfl rfl; exact D.move rfl)) <;>
    ((apply XL.det0F rfl rfl rfl rfl; exact D.move rfl)) <;>
    ((refine XL.callF [cells g [.int .i64 p, .int .i64 e, .string ⟨List.toArray s⟩] 121] rfl rfl rfl rfl (fun w F hF hm hw => take_spec w F g p (wid b) e s hF hp hs (by omega)) ?_; rintro v B' ⟨t, p', e', rfl, ht, rfl⟩; refine XL.both ?_); have hle := ht.le hp) <;>
    ((apply XL.det0F rfl rfl rfl rfl; exact D.assign rfl)) <;>
    (refine XL.nil ?_)) <;> (first | refine Ex.then ?_ | (refine N.next ?_ <;> (refine X.seq ?_ <;> (refine X.seq ?_ <;> (refine X.text (L := (.op .fin 0 (.op .fin 1 (.op .fin 2 (.op .fin 3 (.op .fin 4 (.op .fin 5 .nil))))))) rfl (by kernel_rfl) ?_ <;>
    ((apply XL.det0F rfl rfl rfl rfl; exact D.move rfl)) <;>
    ((apply XL.det0F rfl rfl rfl rfl; exact D.nilCheck rfl)) <;>
    ((apply XL.det0F rfl rfl rfl rfl; first | exact D.fieldAddrB0 rfl rfl | exact D.fieldAddrB rfl rfl | exact D.fieldAddrE0 rfl rfl | exact D.fieldAddrE rfl rfl)) <;>
    ((apply XL.det0F rfl rfl rfl rfl; first | exact D.fieldAddrB0 rfl rfl | exact D.fieldAddrB rfl rfl | exact D.fieldAddrE0 rfl rfl | exact D.fieldAddrE rfl rfl)) <;>
    ((apply XL.detF rfl rfl rfl rfl; first | exact D.load1 rfl (fun w h => h.cellAt (Loc.at_) rfl) | exact D.loadN rfl rfl (fun w h j u hu => by rw [at_add, Nat.zero_add]; exact h.cellAt (Loc.at_) hu) | exact D.loadP rfl rfl)) <;>
    (first | refine XL.splitF rfl rfl rfl rfl (D.int rfl rfl rfl) (fun h2 => ?_) (fun h2 => ?_)) <;>
    (refine XL.nil ?_)) <;> (first | refine Ex.then ?_ | (refine N.next ?_ <;> ((
    refine X.cond rfl ?_ ?_; rotate_left; (focus (
    intro hc; first | exact absurd hc (by decide) | (cases hc; done) | (refine X.skip ?_))); rotate_right; (focus (
    intro hc; first | exact absurd hc (by decide) | (cases hc; done) | (refine X.seq ?_ <;> (refine X.text (L := (.op .fin 0 .nil)) rfl (by kernel_rfl) ?_ <;>
    ((apply XL.det0F rfl rfl rfl rfl; exact D.assign rfl)) <;>
    (refine XL.nil ?_)) <;> (first | refine Ex.then ?_ | (refine N.next ?_ <;> ((refine X.ret ?_; (repeat (first | refine Rt.then ?_ | refine Rt.block ?_ | refine Rt.scope ?_)); (first | apply Rt.done (Res.r1 Tryz.results102 (RV.tmp rfl)) | apply Rt.doneM (Res.r1 Tryz.results102 (RV.tmp rfl))); (focus (first | (exact ⟨0, p, e, rfl, ⟨hp, .inr ⟨.inl he, rfl, he⟩⟩, rfl⟩) | (exact ⟨z, p + wid b, 0, rfl, ⟨hle2, .inl ⟨he, wid b, by rw [hsd, fewF, if_neg (by rw [List.length_drop]; omega), hz, if_pos (by omega)], rfl, rfl⟩⟩, rfl⟩) | (exact ⟨0, p, 12, rfl, ⟨hp, .inr ⟨.inr (by rw [hsd, fewF, if_neg (by rw [List.length_drop]; omega), hz, if_neg (by omega)]), rfl, by decide⟩⟩, rfl⟩) | (exact ⟨0, p', e', rfl, ⟨hle, .inr ⟨.inr (by rw [hsd, fewF, if_pos (by rw [List.length_drop]; rcases ht with ⟨_, _, _, _, a4⟩ | ⟨_, a1, _⟩ | ⟨a1, _⟩; exact absurd a4 h2; omega; exact absurd he a1)]), rfl, h2⟩⟩, rfl⟩) | (exact ⟨0, p, 10, rfl, ⟨hp, .inr ⟨.inr (by rw [List.drop_of_length_le (by omega)]; rfl), rfl, by decide⟩⟩, rfl⟩))); exact fun w h => h.takes)))))))))))) <;> (first | refine Ex.then ?_ | (refine N.next ?_ <;> (refine X.seq ?_ <;> (refine X.text (L := (.op .fin 0 (.op .fin 1 (.op .fin 2 (.op .fin 3 .nil))))) rfl (by kernel_rfl) ?_ <;>
    ((apply XL.det0F rfl rfl rfl rfl; exact D.move rfl)) <;>
    (obtain ⟨hle2, rfl, rfl, rfl⟩ : p + wid b ≤ s.length ∧ t = (s.drop p).take (wid b) ∧ p' = p + wid b ∧ e' = 0 := (by rcases ht with ⟨_, a1, a2, a3, a4⟩ | ⟨_, _, _, _, a4⟩ | ⟨a1, _⟩; exact ⟨a1, a2, a3, a4⟩; omega; exact absurd he a1); have htl : ((s.drop p).take (wid b)).length = wid b := (by rw [List.length_take, List.length_drop]; omega); have htd : ((s.drop p).take (wid b)).drop 1 = (s.drop (p + 1)).take (wid b - 1) := (by rw [hsd, show wid b = (wid b - 1) + 1 from (by omega)]; simp); have ht0 : ((s.drop p).take (wid b))[0]? = some b := (by rw [hsd, show wid b = (wid b - 1) + 1 from (by omega)]; simp); (apply XL.det0F rfl rfl rfl rfl; exact D.cutL (a := 1) rfl rfl (by omega)); rw [htd]) <;>
    (have hrl : ((s.drop (p + 1)).take (wid b - 1)).length = wid b - 1 := (by rw [List.length_take, List.length_drop]; omega); have hnl := num_lt ((s.drop (p + 1)).take (wid b - 1)); rw [hrl] at hnl; have hnS := numS_eq ((s.drop (p + 1)).take (wid b - 1)) (b.toNat - hd (wid b)); rw [hrl] at hnS; (refine XL.call rfl rfl rfl rfl (fun w hw => number_spec w _ (by omega)) ?_; rintro v B' ⟨rfl, rfl⟩; refine XL.both ?_)) <;>
    ((apply XL.det0F rfl rfl rfl rfl; exact D.assign rfl)) <;>
    (refine XL.nil ?_)) <;> (first | refine Ex.then ?_ | (refine N.next ?_ <;> (refine X.seq ?_ <;> (refine X.seq ?_ <;> (refine X.text (L := (.op .fin 0 (.op .fin 1 .nil))) rfl (by kernel_rfl) ?_ <;>
    ((apply XL.det0F rfl rfl rfl rfl; exact D.move rfl)) <;>
    (first | refine XL.splitF rfl rfl rfl rfl (D.int rfl rfl rfl) (fun h3 => ?_) (fun h3 => ?_)) <;>
    (refine XL.nil ?_)) <;> (first | refine Ex.then ?_ | (refine N.next ?_ <;> ((
    refine X.cond rfl ?_ ?_; rotate_left; (focus (
    intro hc; first | exact absurd hc (by decide) | (cases hc; done) | (refine X.skip ?_))); rotate_right; (focus (
    intro hc; first | exact absurd hc (by decide) | (cases hc; done) | (refine X.draw (.op .v0 0 (.op .v0 1 (.op .v0 2 (.op .v0 3 (.op .v0 7 (.op .v0 8 (.op .v0 9 (.op .v0 10 (.op .ch 4 (.op .v0 5 (.op .v0 6 (.op .v0 11 (.op .v0 12 (.op .v0 13 .nil)))))))))))))) mixed (by kernel_rfl) ?_ <;>
    ((apply XL.det0 rfl rfl rfl rfl; exact D.move rfl)) <;>
    ((apply XL.det0 rfl rfl rfl rfl; exact D.move rfl)) <;>
    ((apply XL.det0 rfl rfl rfl rfl; exact D.idx 0 rfl rfl rfl ht0)) <;>
    ((apply XL.det0 rfl rfl rfl rfl; exact D.move rfl)) <;>
    ((apply XL.det0 rfl rfl rfl rfl; exact D.move rfl)) <;>
    ((apply XL.det0 rfl rfl rfl rfl; exact D.sub64 rfl rfl (by omega)); rw [show ((wid b : Nat) : Int) - 1 = ((wid b - 1 : Nat) : Int) from (by omega)]) <;>
    ((apply XL.det0 rfl rfl rfl rfl; exact D.mul64 rfl rfl (by omega)); rw [show (8 : Int) * ((wid b - 1 : Nat) : Int) = ((8 * (wid b - 1) : Nat) : Int) from (by omega)]) <;>
    ((apply XL.det0 rfl rfl rfl rfl; exact D.convN rfl rfl); rw [Nat.mod_eq_of_lt (show 8 * (wid b - 1) < 2 ^ IntKind.u64.bits from Nat.lt_of_le_of_lt (show 8 * (wid b - 1) ≤ 64 by omega) (by decide))]) <;>
    ((refine XL.call rfl rfl rfl rfl (fun w hw => head_spec (wid b) hwb w) ?_; rintro v B' ⟨rfl, rfl⟩; refine XL.both ?_)) <;>
    ((apply XL.det0 rfl rfl rfl rfl; exact D.andNotN rfl rfl rfl ⟨hbl, hd_lt' (wid b)⟩); rw [show b.toNat &&& (2 ^ IntKind.u8.bits - 1 - hd (wid b)) = b.toNat - hd (wid b) from and_hd (wid b) (by omega) hwb.1 b.toNat hbl hwr.1 (by have := hwr.2.1; rw [if_neg (by omega)] at this; omega)]) <;>
    ((apply XL.det0 rfl rfl rfl rfl; exact D.convN rfl rfl); rw [Nat.mod_eq_of_lt (show b.toNat - hd (wid b) < 2 ^ IntKind.u64.bits from Nat.lt_of_le_of_lt (Nat.sub_le _ _) (Nat.lt_of_lt_of_le hbl (by decide)))]) <;>
    (have hx64 := shift_lt (show 1 ≤ wid b ∧ wid b ≤ 8 by omega) (show b.toNat - hd (wid b) < 2 ^ (8 - wid b) by (have := hwr.2.1; rw [if_neg (by omega)] at this; omega)); (apply XL.det0 rfl rfl rfl rfl; exact D.shlN rfl rfl rfl (show 8 * (wid b - 1) ≤ 64 by omega)); rw [show (2 : Nat) ^ (8 * (wid b - 1)) = 256 ^ (wid b - 1) from (by rw [Nat.pow_mul]), Nat.mod_eq_of_lt (show (b.toNat - hd (wid b)) * 256 ^ (wid b - 1) < 2 ^ IntKind.u64.bits from hx64)]) <;>
    ((apply XL.det0 rfl rfl rfl rfl; exact D.orN rfl rfl rfl ⟨Nat.lt_of_lt_of_le hnl (show 256 ^ (wid b - 1) ≤ 2 ^ IntKind.u64.bits from Nat.le_trans (Nat.pow_le_pow_right (by decide) (show wid b - 1 ≤ 8 by omega)) (by decide)), hx64⟩); rw [Nat.or_comm, show (b.toNat - hd (wid b)) * 256 ^ (wid b - 1) ||| num ((s.drop (p + 1)).take (wid b - 1)) = numS (b.toNat - hd (wid b)) ((s.drop (p + 1)).take (wid b - 1)) from (by rw [hnS]; have := or_shift (b.toNat - hd (wid b)) (num ((s.drop (p + 1)).take (wid b - 1))) (8 * (wid b - 1)) (by rw [Nat.pow_mul]; exact hnl); rw [Nat.pow_mul] at this; exact this)]) <;>
    ((apply XL.det0 rfl rfl rfl rfl; exact D.assign rfl)) <;>
    (refine XL.nil ?_))))))))) <;> (first | refine Ex.then ?_ | (refine N.next ?_ <;> (refine X.seq ?_ <;> (refine X.seq ?_ <;> (refine X.text (L := (.op .fin 0 (.op .fin 1 (.op .fin 2 (.op .fin 3 .nil))))) rfl (by kernel_rfl) ?_ <;>
    ((first | (have hq9 : ¬ ((wid b : Nat) : Int) < 9 := h3; have h9 : wid b = 9 := (by omega); rw [show num ((s.drop (p + 1)).take (wid b - 1)) = numS (b.toNat - hd (wid b)) ((s.drop (p + 1)).take (wid b - 1)) from (by rw [hnS, hwr.2.2 h9, h9]; simp [hd])]) | (have hq9 := h3)); obtain ⟨z, hz⟩ : ∃ z, numS (b.toNat - hd (wid b)) ((s.drop (p + 1)).take (wid b - 1)) = z := (⟨_, rfl⟩); rw [hz] at hnS ⊢; have hz64 : z < 18446744073709551616 := (by rw [hnS]; exact z_lt hwb (by (have h1 := hwr.2.1; have h2 := hwr.2.2; by_cases h9 : wid b = 9; exact .inr ⟨h9, by rw [h2 h9, h9]; decide⟩; rw [if_neg h9] at h1; exact .inl (by omega))) hnl); (apply XL.det0F rfl rfl rfl rfl; exact D.move rfl)) <;>
    ((refine XL.call rfl rfl rfl rfl (fun w hw => Size_spec z hz64 w) ?_; rintro v B' ⟨rfl, rfl⟩; refine XL.both ?_)) <;>
    ((apply XL.det0F rfl rfl rfl rfl; exact D.move rfl)) <;>
    (first | refine XL.splitF rfl rfl rfl rfl (D.int rfl rfl rfl) (fun h4 => ?_) (fun h4 => ?_)) <;>
    (refine XL.nil ?_)) <;> (first | refine Ex.then ?_ | (refine N.next ?_ <;> ((
    refine X.cond rfl ?_ ?_; rotate_left; (focus (
    intro hc; first | exact absurd hc (by decide) | (cases hc; done) | (refine X.skip ?_))); rotate_right; (focus (
    intro hc; first | exact absurd hc (by decide) | (cases hc; done) | (refine X.seq ?_ <;> (refine X.text (L := (.op .fin 0 (.op .fin 1 (.op .fin 2 (.op .fin 3 (.op .fin 4 .nil)))))) rfl (by kernel_rfl) ?_ <;>
    ((apply XL.det0F rfl rfl rfl rfl; exact D.move rfl)) <;>
    ((apply XL.det0F rfl rfl rfl rfl; exact D.nilCheck rfl)) <;>
    ((apply XL.det0F rfl rfl rfl rfl; first | exact D.fieldAddrB0 rfl rfl | exact D.fieldAddrB rfl rfl | exact D.fieldAddrE0 rfl rfl | exact D.fieldAddrE rfl rfl)) <;>
    ((apply XL.det0F rfl rfl rfl rfl; exact D.move rfl)) <;>
    ((refine XL.callF [cells g [.int .i64 (((p + wid b : Nat) : Int)), .int .i64 0, .string ⟨List.toArray s⟩] 121] rfl rfl rfl rfl (fun w F hF hm hw => stand_spec w F g (p + wid b) p 0 12 s hF) ?_; rintro v B' ⟨rfl, rfl⟩; refine XL.both ?_)) <;>
    (refine XL.nil ?_)) <;> (first | refine Ex.then ?_ | (refine N.next ?_ <;> (refine X.seq ?_ <;> (refine X.text (L := (.op .fin 0 .nil)) rfl (by kernel_rfl) ?_ <;>
    ((apply XL.det0F rfl rfl rfl rfl; exact D.assign rfl)) <;>
    (refine XL.nil ?_)) <;> (first | refine Ex.then ?_ | (refine N.next ?_ <;> ((refine X.ret ?_; (repeat (first | refine Rt.then ?_ | refine Rt.block ?_ | refine Rt.scope ?_)); (first | apply Rt.done (Res.r1 Tryz.results102 (RV.tmp rfl)) | apply Rt.doneM (Res.r1 Tryz.results102 (RV.tmp rfl))); (focus (first | (exact ⟨0, p, e, rfl, ⟨hp, .inr ⟨.inl he, rfl, he⟩⟩, rfl⟩) | (exact ⟨z, p + wid b, 0, rfl, ⟨hle2, .inl ⟨he, wid b, by rw [hsd, fewF, if_neg (by rw [List.length_drop]; omega), hz, if_pos (by omega)], rfl, rfl⟩⟩, rfl⟩) | (exact ⟨0, p, 12, rfl, ⟨hp, .inr ⟨.inr (by rw [hsd, fewF, if_neg (by rw [List.length_drop]; omega), hz, if_neg (by omega)]), rfl, by decide⟩⟩, rfl⟩) | (exact ⟨0, p', e', rfl, ⟨hle, .inr ⟨.inr (by rw [hsd, fewF, if_pos (by rw [List.length_drop]; rcases ht with ⟨_, _, _, _, a4⟩ | ⟨_, a1, _⟩ | ⟨a1, _⟩; exact absurd a4 h2; omega; exact absurd he a1)]), rfl, h2⟩⟩, rfl⟩) | (exact ⟨0, p, 10, rfl, ⟨hp, .inr ⟨.inr (by rw [List.drop_of_length_le (by omega)]; rfl), rfl, by decide⟩⟩, rfl⟩))); exact fun w h => h.takes))))))))))))))) <;> (first | refine Ex.then ?_ | (refine N.next ?_ <;> (refine X.seq ?_ <;> (refine X.text (L := (.op .fin 0 (.op .fin 1 .nil))) rfl (by kernel_rfl) ?_ <;>
    ((apply XL.det0F rfl rfl rfl rfl; exact D.move rfl)) <;>
    ((apply XL.det0F rfl rfl rfl rfl; exact D.assign rfl)) <;>
    (refine XL.nil ?_)) <;> (first | refine Ex.then ?_ | (refine N.next ?_ <;> ((refine X.ret ?_; (repeat (first | refine Rt.then ?_ | refine Rt.block ?_ | refine Rt.scope ?_)); (first | apply Rt.done (Res.r1 Tryz.results102 (RV.tmp rfl)) | apply Rt.doneM (Res.r1 Tryz.results102 (RV.tmp rfl))); (focus (first | (exact ⟨0, p, e, rfl, ⟨hp, .inr ⟨.inl he, rfl, he⟩⟩, rfl⟩) | (exact ⟨z, p + wid b, 0, rfl, ⟨hle2, .inl ⟨he, wid b, by rw [hsd, fewF, if_neg (by rw [List.length_drop]; omega), hz, if_pos (by omega)], rfl, rfl⟩⟩, rfl⟩) | (exact ⟨0, p, 12, rfl, ⟨hp, .inr ⟨.inr (by rw [hsd, fewF, if_neg (by rw [List.length_drop]; omega), hz, if_neg (by omega)]), rfl, by decide⟩⟩, rfl⟩) | (exact ⟨0, p', e', rfl, ⟨hle, .inr ⟨.inr (by rw [hsd, fewF, if_pos (by rw [List.length_drop]; rcases ht with ⟨_, _, _, _, a4⟩ | ⟨_, a1, _⟩ | ⟨a1, _⟩; exact absurd a4 h2; omega; exact absurd he a1)]), rfl, h2⟩⟩, rfl⟩) | (exact ⟨0, p, 10, rfl, ⟨hp, .inr ⟨.inr (by rw [List.drop_of_length_le (by omega)]; rfl), rfl, by decide⟩⟩, rfl⟩))); exact fun w h => h.takes)))))))))))))))))))))))))))))))))))
where
  z_lt {n v m : Nat} (hn : 1 ≤ n ∧ n ≤ 9) (hv : v < 2 ^ (8 - n) ∨ n = 9 ∧ v = 0) (hm : m < 256 ^ (n - 1)) : v * 256 ^ (n - 1) + m < 18446744073709551616 := by
    have e2 : n = 1 ∨ n = 2 ∨ n = 3 ∨ n = 4 ∨ n = 5 ∨ n = 6 ∨ n = 7 ∨ n = 8 ∨ n = 9 := by omega
    rcases e2 with rfl | rfl | rfl | rfl | rfl | rfl | rfl | rfl | rfl <;> simp at * <;> omega
  hd_lt' (n : Nat) : hd n < 256 := Nat.lt_of_le_of_lt (Nat.sub_le _ _) (by decide)
  shift_lt {n v : Nat} (hn : 1 ≤ n ∧ n ≤ 8) (hv : v < 2 ^ (8 - n)) : v * 256 ^ (n - 1) < 18446744073709551616 := by
    have h : v * 256 ^ (n - 1) < 2 ^ (8 - n) * 256 ^ (n - 1) := Nat.mul_lt_mul_of_pos_right hv (Nat.pow_pos (by decide))
    have e2 : n = 1 ∨ n = 2 ∨ n = 3 ∨ n = 4 ∨ n = 5 ∨ n = 6 ∨ n = 7 ∨ n = 8 := by omega
    rcases e2 with rfl | rfl | rfl | rfl | rfl | rfl | rfl | rfl <;> simp at * <;> omega
end Go.Lx
