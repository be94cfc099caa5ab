/- Package span's walks, part e: the exported functions. -/
import Derived.Test.YtkjhepgohacmiaaGreatSd
namespace Go.Lx
open Go.Proofs
set_option linter.unusedVariables false
set_option linter.unusedSimpArgs false
set_option maxRecDepth 20000

theorem any_false {l : List Sp} (h : (l.any fun x => decide (¬ mayS x)) = false) : ∀ x ∈ l, mayS x := fun x hx => by
  have := List.any_eq_false.1 h x hx
  simpa using this
theorem any_true {l : List Sp} (h : (l.any fun x => decide (¬ mayS x)) = true) : ¬ ∀ x ∈ l, mayS x := fun hall => by
  obtain ⟨x, hx, hn⟩ := List.any_eq_true.1 h
  exact absurd (hall x hx) (by simpa using hn)

theorem Join_spec (w : World) (a : Option Addr) (c : Nat) (l : List Sp) (hl : Rd w 2 a l.length c (encS l)) (hbd : l.length ≤ 1000000) :
    Spec Tryz.prog 98 #[.slice a l.length c] w (fun _ => False) (fun v A => ∃ a' c' o e, v = .tuple #[.slice a' (List.length o) c', .int .i64 e] ∧ ((e = 0 ∧ (∀ x ∈ l, mayS x) ∧ SetOK o o.length ∧ (∀ t, inS o t ↔ inS l t) ∧ o.length ≤ l.length) ∨ (e = 1 ∧ ¬ (∀ x ∈ l, mayS x) ∧ o = [])) ∧ A = [own 62 2 (.slice a' o.length c') o.length (encS o)]) := by
  refine Spec.enter (args := [.slice a l.length c]) (A := []) Tryz.func98 rfl Tryz.ntmps98 rfl (fun _ h => h) ?_
  refine X.mem (B := [own 62 2 (.slice none ([] : List Sp).length 0) ([] : List Sp).length (encS [])]) (fun w h => h.nilOwn 62 2) ?_
  (refine X.seq ?_ <;> (refine X.text (L := (.op .fin 0 (.op .fin 1 .nil))) rfl (by kernel_rfl) ?_ <;>
    ((apply XL.det0F rfl rfl rfl rfl; exact D.assign rfl)) <;>
    ((apply XL.det0F rfl rfl rfl rfl; exact D.assign rfl)) <;>
    (refine XL.nil ?_)) <;> (first | refine Ex.then ?_ | (refine N.next ?_ <;> (refine X.seq ?_ <;> (refine X.seq ?_ <;> (refine X.text (L := (.op .fin 0 (.op .fin 1 .nil))) rfl (by kernel_rfl) ?_ <;>
    ((apply XL.det0F rfl rfl rfl rfl; exact D.move rfl)) <;>
    ((refine XL.call rfl rfl rfl rfl (fun w hw => wrong_spec w a l.length c l (hl.conf0 hw)) ?_; rintro v B' ⟨rfl, rfl⟩; refine XL.both ?_)) <;>
    (refine XL.nil ?_)) <;> (first | refine Ex.then ?_ | (refine N.next ?_ <;> ((
    refine X.cond rfl ?_ ?_; rotate_left; (focus (
    intro hc; first | exact absurd hc (by decide) | (cases hc; done) | (refine X.skip ?_))); rotate_right; (focus (
    intro hc; first | exact absurd hc (by decide) | (cases hc; done) | (refine X.seq ?_ <;> (refine X.text (L := (.op .fin 0 (.op .fin 1 .nil))) rfl (by kernel_rfl) ?_ <;>
    ((apply XL.det0F rfl rfl rfl rfl; exact D.assign rfl)) <;>
    ((apply XL.det0F rfl rfl rfl rfl; exact D.assign rfl)) <;>
    (refine XL.nil ?_)) <;> (first | refine Ex.then ?_ | (refine N.next ?_ <;> ((refine X.ret ?_; (repeat (first | refine Rt.then ?_ | refine Rt.block ?_ | refine Rt.scope ?_)); (first | apply Rt.done (Res.r2 Tryz.results98 (RV.tmp rfl) (RV.tmp rfl)) | apply Rt.doneM (Res.r2 Tryz.results98 (RV.tmp rfl) (RV.tmp rfl))); (focus (first | (exact ⟨none, 0, [], 1, rfl, .inr ⟨rfl, any_true (by assumption), rfl⟩, rfl⟩) | (exact ⟨a', c', o, 0, rfl, .inl ⟨rfl, hm, h1, h2, h3⟩, rfl⟩))); exact fun w h => h.takes)))))))))))) <;> (first | refine Ex.then ?_ | (refine N.next ?_ <;> (refine X.seq ?_ <;> (refine X.text (L := (.op .fin 0 (.op .fin 1 (.op .fin 2 (.op .fin 3 .nil))))) rfl (by kernel_rfl) ?_ <;>
    ((apply XL.det0F rfl rfl rfl rfl; exact D.move rfl)) <;>
    (have hm := any_false (by assumption); (refine XL.call rfl rfl rfl rfl (fun w hw => joined_spec w a c l (hl.conf0 hw) hm hbd) ?_; rintro v B' ⟨a', c', o, rfl, h1, h2, h3, rfl⟩; refine XL.both ?_)) <;>
    ((apply XL.det0F rfl rfl rfl rfl; exact D.assign rfl)) <;>
    ((apply XL.det0F rfl rfl rfl rfl; exact D.assign rfl)) <;>
    (refine XL.nil ?_)) <;> (first | refine Ex.then ?_ | (refine N.next ?_ <;> ((refine X.ret ?_; (repeat (first | refine Rt.then ?_ | refine Rt.block ?_ | refine Rt.scope ?_)); (first | apply Rt.done (Res.r2 Tryz.results98 (RV.tmp rfl) (RV.tmp rfl)) | apply Rt.doneM (Res.r2 Tryz.results98 (RV.tmp rfl) (RV.tmp rfl))); (focus (first | (exact ⟨none, 0, [], 1, rfl, .inr ⟨rfl, any_true (by assumption), rfl⟩, rfl⟩) | (exact ⟨a', c', o, 0, rfl, .inl ⟨rfl, hm, h1, h2, h3⟩, rfl⟩))); exact fun w h => h.takes)))))))))))

theorem Meet_spec (w : World) (a b : Option Addr) (c d : Nat) (l off : List Sp) (hl : Rd w 2 a l.length c (encS l)) (ho : Rd w 2 b off.length d (encS off)) (hbd : l.length + l.length + off.length ≤ 1000000) :
    Spec Tryz.prog 100 #[.slice a l.length c, .slice b off.length d] w (fun _ => False) (fun v A => ∃ a' c' o e, v = .tuple #[.slice a' (List.length o) c', .int .i64 e] ∧ ((e = 0 ∧ (SetOK l l.length ∧ SetOK off off.length) ∧ SetOK o o.length ∧ (∀ t, inS o t ↔ inS l t ∧ inS off t) ∧ o.length ≤ l.length + l.length + off.length) ∨ (e = 1 ∧ ¬ (SetOK l l.length ∧ SetOK off off.length) ∧ o = [])) ∧ A = [own 62 2 (.slice a' o.length c') o.length (encS o)]) := by
  refine Spec.enter (args := [.slice a l.length c, .slice b off.length d]) (A := []) Tryz.func100 rfl Tryz.ntmps100 rfl (fun _ h => h) ?_
  refine X.mem (B := [own 62 2 (.slice none ([] : List Sp).length 0) ([] : List Sp).length (encS [])]) (fun w h => h.nilOwn 62 2) ?_
  (refine X.seq ?_ <;> (refine X.text (L := (.op .fin 0 (.op .fin 1 .nil))) rfl (by kernel_rfl) ?_ <;>
    ((apply XL.det0F rfl rfl rfl rfl; exact D.assign rfl)) <;>
    ((apply XL.det0F rfl rfl rfl rfl; exact D.assign rfl)) <;>
    (refine XL.nil ?_)) <;> (first | refine Ex.then ?_ | (refine N.next ?_ <;> (refine X.seq ?_ <;> (refine X.seq ?_ <;> (refine X.text (L := (.op .fin 0 (.op .fin 1 (.op .fin 2 (.op .fin 3 (.op .fin 4 (.op .fin 5 (.op .fin 6 (.op .fin 7 .nil))))))))) rfl (by kernel_rfl) ?_ <;>
    ((apply XL.det0F rfl rfl rfl rfl; exact D.move rfl)) <;>
    ((refine XL.call rfl rfl rfl rfl (fun w hw => Check_spec w a l.length c l (hl.conf0 hw)) ?_; rintro v B' ⟨e, rfl, he, rfl⟩; refine XL.both ?_); rcases he with ⟨rfl, hset⟩ | ⟨rfl, hset⟩) <;>
    (first | refine XL.cmpTF rfl rfl rfl rfl (D.int rfl rfl rfl) (by omega) ?_ | refine XL.cmpFF rfl rfl rfl rfl (D.int rfl rfl rfl) (by omega) ?_ | refine XL.splitF rfl rfl rfl rfl (D.int rfl rfl rfl) (fun _ => ?_) (fun _ => ?_) | refine XL.cmpTF rfl rfl rfl rfl (D.neS2 rfl rfl) (by omega) ?_ | refine XL.cmpFF rfl rfl rfl rfl (D.neS2 rfl rfl) (by omega) ?_ | refine XL.splitF rfl rfl rfl rfl (D.neS2 rfl rfl) (fun _ => ?_) (fun _ => ?_) | (apply XL.det0F rfl rfl rfl rfl; first | exact D.neNilS rfl rfl | exact D.boolNe rfl rfl | exact D.neNilP rfl rfl)) <;>
    ((apply XL.det0F rfl rfl rfl rfl; exact D.move rfl)) <;>
    (first | refine XL.skipF rfl rfl rfl rfl ?_ | ((apply XL.det0F rfl rfl rfl rfl; exact D.move rfl))) <;>
    (first | refine XL.skipF rfl rfl rfl rfl ?_ | ((refine XL.call rfl rfl rfl rfl (fun w hw => Check_spec w b off.length d off (ho.conf0 hw)) ?_; rintro v B' ⟨e, rfl, he, rfl⟩; refine XL.both ?_); rcases he with ⟨rfl, hset2⟩ | ⟨rfl, hset2⟩)) <;>
    (first | refine XL.skipF rfl rfl rfl rfl ?_ | (first | refine XL.cmpTF rfl rfl rfl rfl (D.int rfl rfl rfl) (by omega) ?_ | refine XL.cmpFF rfl rfl rfl rfl (D.int rfl rfl rfl) (by omega) ?_ | refine XL.splitF rfl rfl rfl rfl (D.int rfl rfl rfl) (fun _ => ?_) (fun _ => ?_) | refine XL.cmpTF rfl rfl rfl rfl (D.neS2 rfl rfl) (by omega) ?_ | refine XL.cmpFF rfl rfl rfl rfl (D.neS2 rfl rfl) (by omega) ?_ | refine XL.splitF rfl rfl rfl rfl (D.neS2 rfl rfl) (fun _ => ?_) (fun _ => ?_) | (apply XL.det0F rfl rfl rfl rfl; first | exact D.neNilS rfl rfl | exact D.boolNe rfl rfl | exact D.neNilP rfl rfl))) <;>
    ((apply XL.det0F rfl rfl rfl rfl; first | exact D.pickT rfl rfl | exact D.pickF rfl rfl | exact D.pick rfl rfl rfl)) <;>
    (refine XL.nil ?_)) <;> (first | refine Ex.then ?_ | (refine N.next ?_ <;> ((
    refine X.cond rfl ?_ ?_; rotate_left; (focus (
    intro hc; first | exact absurd hc (by decide) | (cases hc; done) | (refine X.skip ?_))); rotate_right; (focus (
    intro hc; first | exact absurd hc (by decide) | (cases hc; done) | (refine X.seq ?_ <;> (refine X.text (L := (.op .fin 0 (.op .fin 1 .nil))) rfl (by kernel_rfl) ?_ <;>
    ((apply XL.det0F rfl rfl rfl rfl; exact D.assign rfl)) <;>
    ((apply XL.det0F rfl rfl rfl rfl; exact D.assign rfl)) <;>
    (refine XL.nil ?_)) <;> (first | refine Ex.then ?_ | (refine N.next ?_ <;> ((refine X.ret ?_; (repeat (first | refine Rt.then ?_ | refine Rt.block ?_ | refine Rt.scope ?_)); (first | apply Rt.done (Res.r2 Tryz.results100 (RV.tmp rfl) (RV.tmp rfl)) | apply Rt.doneM (Res.r2 Tryz.results100 (RV.tmp rfl) (RV.tmp rfl))); (focus (first | (exact ⟨none, 0, [], 1, rfl, .inr ⟨rfl, fun h => hset h.1, rfl⟩, rfl⟩) | (exact ⟨none, 0, [], 1, rfl, .inr ⟨rfl, fun h => hset2 h.2, rfl⟩, rfl⟩) | (exact ⟨a', c', o, 0, rfl, .inl ⟨rfl, ⟨hset, hset2⟩, h1, fun t => by rw [h2 t, g2 t]; constructor <;> (intro ⟨q1, q2⟩; exact ⟨q1, by by_cases q : inS off t <;> simp_all⟩), by omega⟩, rfl⟩))); exact fun w h => h.takes)))))))))))) <;> (first | refine Ex.then ?_ | (refine N.next ?_ <;> (refine X.seq ?_ <;> (refine X.text (L := (.op .fin 0 (.op .fin 1 (.op .fin 2 (.op .fin 3 (.op .fin 4 (.op .fin 5 (.op .fin 6 .nil)))))))) rfl (by kernel_rfl) ?_ <;>
    ((apply XL.det0F rfl rfl rfl rfl; exact D.move rfl)) <;>
    ((apply XL.det0F rfl rfl rfl rfl; exact D.move rfl)) <;>
    ((apply XL.det0F rfl rfl rfl rfl; exact D.move rfl)) <;>
    ((refine XL.call rfl rfl rfl rfl (fun w hw => less_spec w a b c d l off (hl.conf0 hw) (ho.conf0 hw) hset hset2 (by omega)) ?_; rintro v B' ⟨a1, c1, o1, rfl, g1, g2, g3, rfl⟩; refine XL.both ?_)) <;>
    ((refine XL.call rfl rfl rfl rfl (fun w hw => less_spec w a a1 c c1 l o1 (hl.conf0 hw) (hw.ownRd (i := 0) rfl) hset g1 (by omega)) ?_; rintro v B' ⟨a', c', o, rfl, h1, h2, h3, rfl⟩; refine XL.both ?_)) <;>
    ((apply XL.det0F rfl rfl rfl rfl; exact D.assign rfl)) <;>
    ((apply XL.det0F rfl rfl rfl rfl; exact D.assign rfl)) <;>
    (refine XL.nil ?_)) <;> (first | refine Ex.then ?_ | (refine N.next ?_ <;> ((refine X.ret ?_; (repeat (first | refine Rt.then ?_ | refine Rt.block ?_ | refine Rt.scope ?_)); (first | apply Rt.done (Res.r2 Tryz.results100 (RV.tmp rfl) (RV.tmp rfl)) | apply Rt.doneM (Res.r2 Tryz.results100 (RV.tmp rfl) (RV.tmp rfl))); (focus (first | (exact ⟨none, 0, [], 1, rfl, .inr ⟨rfl, fun h => hset h.1, rfl⟩, rfl⟩) | (exact ⟨none, 0, [], 1, rfl, .inr ⟨rfl, fun h => hset2 h.2, rfl⟩, rfl⟩) | (exact ⟨a', c', o, 0, rfl, .inl ⟨rfl, ⟨hset, hset2⟩, h1, fun t => by rw [h2 t, g2 t]; constructor <;> (intro ⟨q1, q2⟩; exact ⟨q1, by by_cases q : inS off t <;> simp_all⟩), by omega⟩, rfl⟩))); exact fun w h => h.takes)))))))))))

def sumS : List Sp → Int
  | [] => 0
  | x :: l => x.2 + sumS l
theorem sumS_append (a b : List Sp) : sumS (a ++ b) = sumS a + sumS b := by
  induction a with
  | nil => simp [sumS]
  | cons x a ih => simp only [List.cons_append, sumS, ih]; omega
theorem sumS_take {l : List Sp} {i : Nat} {s : Sp} (h : l[i]? = some s) : sumS (l.take (i + 1)) = sumS (l.take i) + s.2 := by
  rw [List.take_add_one, h, sumS_append]; simp [sumS]
end Go.Lx
