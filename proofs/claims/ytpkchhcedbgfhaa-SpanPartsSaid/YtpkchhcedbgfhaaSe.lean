/- Package span's walks, part e: the exported functions. -/
import Derived.Test.YtpkchhcedbgfhaaSd
namespace Go.Lx
open Go.Proofs
set_option linter.unusedVariables false
set_option linter.unusedSimpArgs false
set_option maxRecDepth 20000

theorem any_false {l : List Sp} (h : (l.any fun x => decide (¬ mayS x)) = false) : ∀ x ∈ l, mayS x := fun x hx => by
  have := List.any_eq_false.1 h x hx
  simpa using this
theorem any_true {l : List Sp} (h : (l.any fun x => decide (¬ mayS x)) = true) : ¬ ∀ x ∈ l, mayS x := fun hall => by
  obtain ⟨x, hx, hn⟩ := List.any_eq_true.1 h
  exact absurd (hall x hx) (by simpa using hn)

theorem Join_spec (w : World) (a : Option Addr) (c : Nat) (l : List Sp) (hl : Rd w 2 a l.length c (encS l)) (hbd : l.length ≤ 1000000) :
    Spec Try.prog 14 #[.slice a l.length c] w (fun _ => False) (fun v A => ∃ a' c' o e, v = .tuple #[.slice a' (List.length o) c', .int .i64 e] ∧ ((e = 0 ∧ (∀ x ∈ l, mayS x) ∧ SetOK o o.length ∧ (∀ t, inS o t ↔ inS l t) ∧ o.length ≤ l.length) ∨ (e = 1 ∧ ¬ (∀ x ∈ l, mayS x) ∧ o = [])) ∧ A = [own 33 2 (.slice a' o.length c') o.length (encS o)]) := by
  refine Spec.enter (args := [.slice a l.length c]) (A := []) Try.func14 rfl Try.ntmps14 rfl (fun _ h => h) ?_
  refine X.mem (B := [own 33 2 (.slice none ([] : List Sp).length 0) ([] : List Sp).length (encS [])]) (fun w h => h.nilOwn 33 2) ?_
  (refine X.seq ?_ <;> (refine X.text rfl ?_ <;>
    ((apply XL.det0F rfl rfl rfl rfl; exact D.assign rfl)) <;>
    ((apply XL.det0F rfl rfl rfl rfl; exact D.assign rfl)) <;>
    (refine XL.nil ?_)) <;> (first | refine Ex.then ?_ | (refine N.next ?_ <;> (refine X.seq ?_ <;> (refine X.seq ?_ <;> (refine X.text rfl ?_ <;>
    ((apply XL.det0F rfl rfl rfl rfl; exact D.move rfl)) <;>
    ((refine XL.call rfl rfl rfl rfl (fun w hw => wrong_spec w a l.length c l (hl.conf0 hw)) ?_; rintro v B' ⟨rfl, rfl⟩; refine XL.both ?_)) <;>
    (refine XL.nil ?_)) <;> (first | refine Ex.then ?_ | (refine N.next ?_ <;> ((
    refine X.cond rfl ?_ ?_; rotate_left; (focus (
    intro hc; first | exact absurd hc (by decide) | (refine X.skip ?_))); rotate_right; (focus (
    intro hc; first | exact absurd hc (by decide) | (refine X.seq ?_ <;> (refine X.text rfl ?_ <;>
    ((apply XL.det0F rfl rfl rfl rfl; exact D.assign rfl)) <;>
    ((apply XL.det0F rfl rfl rfl rfl; exact D.assign rfl)) <;>
    (refine XL.nil ?_)) <;> (first | refine Ex.then ?_ | (refine N.next ?_ <;> ((refine X.ret ?_; (repeat (first | refine Rt.then ?_ | refine Rt.block ?_ | refine Rt.scope ?_)); apply Rt.done (Res.r2 Try.results14 (RV.tmp rfl) (RV.tmp rfl)); (focus (first | (exact ⟨none, 0, [], 1, rfl, .inr ⟨rfl, any_true (by assumption), rfl⟩, rfl⟩) | (exact ⟨a', c', o, 0, rfl, .inl ⟨rfl, hm, h1, h2, h3⟩, rfl⟩))); exact fun w h => h.takes)))))))))))) <;> (first | refine Ex.then ?_ | (refine N.next ?_ <;> (refine X.seq ?_ <;> (refine X.text rfl ?_ <;>
    ((apply XL.det0F rfl rfl rfl rfl; exact D.move rfl)) <;>
    (have hm := any_false (by assumption); (refine XL.call rfl rfl rfl rfl (fun w hw => joined_spec w a c l (hl.conf0 hw) hm hbd) ?_; rintro v B' ⟨a', c', o, rfl, h1, h2, h3, rfl⟩; refine XL.both ?_)) <;>
    ((apply XL.det0F rfl rfl rfl rfl; exact D.assign rfl)) <;>
    ((apply XL.det0F rfl rfl rfl rfl; exact D.assign rfl)) <;>
    (refine XL.nil ?_)) <;> (first | refine Ex.then ?_ | (refine N.next ?_ <;> ((refine X.ret ?_; (repeat (first | refine Rt.then ?_ | refine Rt.block ?_ | refine Rt.scope ?_)); apply Rt.done (Res.r2 Try.results14 (RV.tmp rfl) (RV.tmp rfl)); (focus (first | (exact ⟨none, 0, [], 1, rfl, .inr ⟨rfl, any_true (by assumption), rfl⟩, rfl⟩) | (exact ⟨a', c', o, 0, rfl, .inl ⟨rfl, hm, h1, h2, h3⟩, rfl⟩))); exact fun w h => h.takes)))))))))))

theorem Cut_spec (w : World) (a b : Option Addr) (c d : Nat) (l off : List Sp) (hl : Rd w 2 a l.length c (encS l)) (ho : Rd w 2 b off.length d (encS off)) (hbd : l.length + off.length ≤ 1000000) :
    Spec Try.prog 25 #[.slice a l.length c, .slice b off.length d] w (fun _ => False) (fun v A => ∃ a' c' o e, v = .tuple #[.slice a' (List.length o) c', .int .i64 e] ∧ ((e = 0 ∧ (SetOK l l.length ∧ ∀ x ∈ off, mayS x) ∧ SetOK o o.length ∧ (∀ t, inS o t ↔ inS l t ∧ ¬ inS off t) ∧ o.length ≤ l.length + off.length) ∨ (e = 1 ∧ ¬ (SetOK l l.length ∧ ∀ x ∈ off, mayS x) ∧ o = [])) ∧ A = [own 33 2 (.slice a' o.length c') o.length (encS o)]) := by
  refine Spec.enter (args := [.slice a l.length c, .slice b off.length d]) (A := []) Try.func25 rfl Try.ntmps25 rfl (fun _ h => h) ?_
  refine X.mem (B := [own 33 2 (.slice none ([] : List Sp).length 0) ([] : List Sp).length (encS [])]) (fun w h => h.nilOwn 33 2) ?_
  (refine X.seq ?_ <;> (refine X.text rfl ?_ <;>
    ((apply XL.det0F rfl rfl rfl rfl; exact D.assign rfl)) <;>
    ((apply XL.det0F rfl rfl rfl rfl; exact D.assign rfl)) <;>
    (refine XL.nil ?_)) <;> (first | refine Ex.then ?_ | (refine N.next ?_ <;> (refine X.seq ?_ <;> (refine X.seq ?_ <;> (refine X.text rfl ?_ <;>
    ((apply XL.det0F rfl rfl rfl rfl; exact D.move rfl)) <;>
    ((refine XL.call rfl rfl rfl rfl (fun w hw => Check_spec w a l.length c l (hl.conf0 hw)) ?_; rintro v B' ⟨e, rfl, he, rfl⟩; refine XL.both ?_); rcases he with ⟨rfl, hset⟩ | ⟨rfl, hset⟩) <;>
    (first | refine XL.cmpTF rfl rfl rfl rfl (D.int rfl rfl rfl) (by omega) ?_ | refine XL.cmpFF rfl rfl rfl rfl (D.int rfl rfl rfl) (by omega) ?_ | refine XL.splitF rfl rfl rfl rfl (D.int rfl rfl rfl) (fun _ => ?_) (fun _ => ?_) | refine XL.cmpTF rfl rfl rfl rfl (D.neS2 rfl rfl) (by omega) ?_ | refine XL.cmpFF rfl rfl rfl rfl (D.neS2 rfl rfl) (by omega) ?_ | refine XL.splitF rfl rfl rfl rfl (D.neS2 rfl rfl) (fun _ => ?_) (fun _ => ?_) | (apply XL.det0F rfl rfl rfl rfl; first | exact D.neNilS rfl rfl | exact D.boolNe rfl rfl)) <;>
    ((apply XL.det0F rfl rfl rfl rfl; exact D.move rfl)) <;>
    (first | refine XL.skipF rfl rfl rfl rfl ?_ | ((apply XL.det0F rfl rfl rfl rfl; exact D.move rfl))) <;>
    (first | refine XL.skipF rfl rfl rfl rfl ?_ | ((refine XL.call rfl rfl rfl rfl (fun w hw => wrong_spec w b off.length d off (ho.conf0 hw)) ?_; rintro v B' ⟨rfl, rfl⟩; refine XL.both ?_))) <;>
    ((apply XL.det0F rfl rfl rfl rfl; first | exact D.pickT rfl rfl | exact D.pickF rfl rfl | exact D.pick rfl rfl rfl)) <;>
    (refine XL.nil ?_)) <;> (first | refine Ex.then ?_ | (refine N.next ?_ <;> ((
    refine X.cond rfl ?_ ?_; rotate_left; (focus (
    intro hc; first | exact absurd hc (by decide) | (refine X.skip ?_))); rotate_right; (focus (
    intro hc; first | exact absurd hc (by decide) | (refine X.seq ?_ <;> (refine X.text rfl ?_ <;>
    ((apply XL.det0F rfl rfl rfl rfl; exact D.assign rfl)) <;>
    ((apply XL.det0F rfl rfl rfl rfl; exact D.assign rfl)) <;>
    (refine XL.nil ?_)) <;> (first | refine Ex.then ?_ | (refine N.next ?_ <;> ((refine X.ret ?_; (repeat (first | refine Rt.then ?_ | refine Rt.block ?_ | refine Rt.scope ?_)); apply Rt.done (Res.r2 Try.results25 (RV.tmp rfl) (RV.tmp rfl)); (focus (first | (exact ⟨none, 0, [], 1, rfl, .inr ⟨rfl, fun h => hset h.1, rfl⟩, rfl⟩) | (exact ⟨none, 0, [], 1, rfl, .inr ⟨rfl, fun h => any_true (by assumption) h.2, rfl⟩, rfl⟩) | (exact ⟨a', c', o, 0, rfl, .inl ⟨rfl, ⟨hset, hm⟩, h1, fun t => by rw [h2 t, g2 t], by omega⟩, rfl⟩))); exact fun w h => h.takes)))))))))))) <;> (first | refine Ex.then ?_ | (refine N.next ?_ <;> (refine X.seq ?_ <;> (refine X.text rfl ?_ <;>
    ((apply XL.det0F rfl rfl rfl rfl; exact D.move rfl)) <;>
    ((apply XL.det0F rfl rfl rfl rfl; exact D.move rfl)) <;>
    (have hm := any_false (by assumption); (refine XL.call rfl rfl rfl rfl (fun w hw => joined_spec w b d off (ho.conf0 hw) hm (by omega)) ?_; rintro v B' ⟨a1, c1, o1, rfl, g1, g2, g3, rfl⟩; refine XL.both ?_)) <;>
    ((refine XL.call rfl rfl rfl rfl (fun w hw => less_spec w a a1 c c1 l o1 (hl.conf0 hw) (hw.ownRd (i := 0) rfl) hset g1 (by omega)) ?_; rintro v B' ⟨a', c', o, rfl, h1, h2, h3, rfl⟩; refine XL.both ?_)) <;>
    ((apply XL.det0F rfl rfl rfl rfl; exact D.assign rfl)) <;>
    ((apply XL.det0F rfl rfl rfl rfl; exact D.assign rfl)) <;>
    (refine XL.nil ?_)) <;> (first | refine Ex.then ?_ | (refine N.next ?_ <;> ((refine X.ret ?_; (repeat (first | refine Rt.then ?_ | refine Rt.block ?_ | refine Rt.scope ?_)); apply Rt.done (Res.r2 Try.results25 (RV.tmp rfl) (RV.tmp rfl)); (focus (first | (exact ⟨none, 0, [], 1, rfl, .inr ⟨rfl, fun h => hset h.1, rfl⟩, rfl⟩) | (exact ⟨none, 0, [], 1, rfl, .inr ⟨rfl, fun h => any_true (by assumption) h.2, rfl⟩, rfl⟩) | (exact ⟨a', c', o, 0, rfl, .inl ⟨rfl, ⟨hset, hm⟩, h1, fun t => by rw [h2 t, g2 t], by omega⟩, rfl⟩))); exact fun w h => h.takes)))))))))))

theorem Meet_spec (w : World) (a b : Option Addr) (c d : Nat) (l off : List Sp) (hl : Rd w 2 a l.length c (encS l)) (ho : Rd w 2 b off.length d (encS off)) (hbd : l.length + l.length + off.length ≤ 1000000) :
    Spec Try.prog 26 #[.slice a l.length c, .slice b off.length d] w (fun _ => False) (fun v A => ∃ a' c' o e, v = .tuple #[.slice a' (List.length o) c', .int .i64 e] ∧ ((e = 0 ∧ (SetOK l l.length ∧ SetOK off off.length) ∧ SetOK o o.length ∧ (∀ t, inS o t ↔ inS l t ∧ inS off t) ∧ o.length ≤ l.length + l.length + off.length) ∨ (e = 1 ∧ ¬ (SetOK l l.length ∧ SetOK off off.length) ∧ o = [])) ∧ A = [own 33 2 (.slice a' o.length c') o.length (encS o)]) := by
  refine Spec.enter (args := [.slice a l.length c, .slice b off.length d]) (A := []) Try.func26 rfl Try.ntmps26 rfl (fun _ h => h) ?_
  refine X.mem (B := [own 33 2 (.slice none ([] : List Sp).length 0) ([] : List Sp).length (encS [])]) (fun w h => h.nilOwn 33 2) ?_
  (refine X.seq ?_ <;> (refine X.text rfl ?_ <;>
    ((apply XL.det0F rfl rfl rfl rfl; exact D.assign rfl)) <;>
    ((apply XL.det0F rfl rfl rfl rfl; exact D.assign rfl)) <;>
    (refine XL.nil ?_)) <;> (first | refine Ex.then ?_ | (refine N.next ?_ <;> (refine X.seq ?_ <;> (refine X.seq ?_ <;> (refine X.text rfl ?_ <;>
    ((apply XL.det0F rfl rfl rfl rfl; exact D.move rfl)) <;>
    ((refine XL.call rfl rfl rfl rfl (fun w hw => Check_spec w a l.length c l (hl.conf0 hw)) ?_; rintro v B' ⟨e, rfl, he, rfl⟩; refine XL.both ?_); rcases he with ⟨rfl, hset⟩ | ⟨rfl, hset⟩) <;>
    (first | refine XL.cmpTF rfl rfl rfl rfl (D.int rfl rfl rfl) (by omega) ?_ | refine XL.cmpFF rfl rfl rfl rfl (D.int rfl rfl rfl) (by omega) ?_ | refine XL.splitF rfl rfl rfl rfl (D.int rfl rfl rfl) (fun _ => ?_) (fun _ => ?_) | refine XL.cmpTF rfl rfl rfl rfl (D.neS2 rfl rfl) (by omega) ?_ | refine XL.cmpFF rfl rfl rfl rfl (D.neS2 rfl rfl) (by omega) ?_ | refine XL.splitF rfl rfl rfl rfl (D.neS2 rfl rfl) (fun _ => ?_) (fun _ => ?_) | (apply XL.det0F rfl rfl rfl rfl; first | exact D.neNilS rfl rfl | exact D.boolNe rfl rfl)) <;>
    ((apply XL.det0F rfl rfl rfl rfl; exact D.move rfl)) <;>
    (first | refine XL.skipF rfl rfl rfl rfl ?_ | ((apply XL.det0F rfl rfl rfl rfl; exact D.move rfl))) <;>
    (first | refine XL.skipF rfl rfl rfl rfl ?_ | ((refine XL.call rfl rfl rfl rfl (fun w hw => Check_spec w b off.length d off (ho.conf0 hw)) ?_; rintro v B' ⟨e, rfl, he, rfl⟩; refine XL.both ?_); rcases he with ⟨rfl, hset2⟩ | ⟨rfl, hset2⟩)) <;>
    (first | refine XL.skipF rfl rfl rfl rfl ?_ | (first | refine XL.cmpTF rfl rfl rfl rfl (D.int rfl rfl rfl) (by omega) ?_ | refine XL.cmpFF rfl rfl rfl rfl (D.int rfl rfl rfl) (by omega) ?_ | refine XL.splitF rfl rfl rfl rfl (D.int rfl rfl rfl) (fun _ => ?_) (fun _ => ?_) | refine XL.cmpTF rfl rfl rfl rfl (D.neS2 rfl rfl) (by omega) ?_ | refine XL.cmpFF rfl rfl rfl rfl (D.neS2 rfl rfl) (by omega) ?_ | refine XL.splitF rfl rfl rfl rfl (D.neS2 rfl rfl) (fun _ => ?_) (fun _ => ?_) | (apply XL.det0F rfl rfl rfl rfl; first | exact D.neNilS rfl rfl | exact D.boolNe rfl rfl))) <;>
    ((apply XL.det0F rfl rfl rfl rfl; first | exact D.pickT rfl rfl | exact D.pickF rfl rfl | exact D.pick rfl rfl rfl)) <;>
    (refine XL.nil ?_)) <;> (first | refine Ex.then ?_ | (refine N.next ?_ <;> ((
    refine X.cond rfl ?_ ?_; rotate_left; (focus (
    intro hc; first | exact absurd hc (by decide) | (refine X.skip ?_))); rotate_right; (focus (
    intro hc; first | exact absurd hc (by decide) | (refine X.seq ?_ <;> (refine X.text rfl ?_ <;>
    ((apply XL.det0F rfl rfl rfl rfl; exact D.assign rfl)) <;>
    ((apply XL.det0F rfl rfl rfl rfl; exact D.assign rfl)) <;>
    (refine XL.nil ?_)) <;> (first | refine Ex.then ?_ | (refine N.next ?_ <;> ((refine X.ret ?_; (repeat (first | refine Rt.then ?_ | refine Rt.block ?_ | refine Rt.scope ?_)); apply Rt.done (Res.r2 Try.results26 (RV.tmp rfl) (RV.tmp rfl)); (focus (first | (exact ⟨none, 0, [], 1, rfl, .inr ⟨rfl, fun h => hset h.1, rfl⟩, rfl⟩) | (exact ⟨none, 0, [], 1, rfl, .inr ⟨rfl, fun h => hset2 h.2, rfl⟩, rfl⟩) | (exact ⟨a', c', o, 0, rfl, .inl ⟨rfl, ⟨hset, hset2⟩, h1, fun t => by rw [h2 t, g2 t]; constructor <;> (intro ⟨q1, q2⟩; exact ⟨q1, by by_cases q : inS off t <;> simp_all⟩), by omega⟩, rfl⟩))); exact fun w h => h.takes)))))))))))) <;> (first | refine Ex.then ?_ | (refine N.next ?_ <;> (refine X.seq ?_ <;> (refine X.text rfl ?_ <;>
    ((apply XL.det0F rfl rfl rfl rfl; exact D.move rfl)) <;>
    ((apply XL.det0F rfl rfl rfl rfl; exact D.move rfl)) <;>
    ((apply XL.det0F rfl rfl rfl rfl; exact D.move rfl)) <;>
    ((refine XL.call rfl rfl rfl rfl (fun w hw => less_spec w a b c d l off (hl.conf0 hw) (ho.conf0 hw) hset hset2 (by omega)) ?_; rintro v B' ⟨a1, c1, o1, rfl, g1, g2, g3, rfl⟩; refine XL.both ?_)) <;>
    ((refine XL.call rfl rfl rfl rfl (fun w hw => less_spec w a a1 c c1 l o1 (hl.conf0 hw) (hw.ownRd (i := 0) rfl) hset g1 (by omega)) ?_; rintro v B' ⟨a', c', o, rfl, h1, h2, h3, rfl⟩; refine XL.both ?_)) <;>
    ((apply XL.det0F rfl rfl rfl rfl; exact D.assign rfl)) <;>
    ((apply XL.det0F rfl rfl rfl rfl; exact D.assign rfl)) <;>
    (refine XL.nil ?_)) <;> (first | refine Ex.then ?_ | (refine N.next ?_ <;> ((refine X.ret ?_; (repeat (first | refine Rt.then ?_ | refine Rt.block ?_ | refine Rt.scope ?_)); apply Rt.done (Res.r2 Try.results26 (RV.tmp rfl) (RV.tmp rfl)); (focus (first | (exact ⟨none, 0, [], 1, rfl, .inr ⟨rfl, fun h => hset h.1, rfl⟩, rfl⟩) | (exact ⟨none, 0, [], 1, rfl, .inr ⟨rfl, fun h => hset2 h.2, rfl⟩, rfl⟩) | (exact ⟨a', c', o, 0, rfl, .inl ⟨rfl, ⟨hset, hset2⟩, h1, fun t => by rw [h2 t, g2 t]; constructor <;> (intro ⟨q1, q2⟩; exact ⟨q1, by by_cases q : inS off t <;> simp_all⟩), by omega⟩, rfl⟩))); exact fun w h => h.takes)))))))))))

theorem Gaps_spec (w : World) (a : Option Addr) (c : Nat) (l : List Sp) (s : Sp) (hl : Rd w 2 a l.length c (encS l)) (hbd : l.length ≤ 999999) :
    Spec Try.prog 19 #[.slice a l.length c, .agg #[.int .i64 s.1, .int .i64 s.2]] w (fun _ => False) (fun v A => ∃ a' c' o e, v = .tuple #[.slice a' (List.length o) c', .int .i64 e] ∧ ((e = 0 ∧ (SetOK l l.length ∧ mayS s) ∧ SetOK o o.length ∧ (∀ t, inS o t ↔ (s.1 ≤ t ∧ t < s.1 + s.2) ∧ ¬ inS l t) ∧ o.length ≤ l.length + 1) ∨ (e = 1 ∧ ¬ (SetOK l l.length ∧ mayS s) ∧ o = [])) ∧ A = [own 33 2 (.slice a' o.length c') o.length (encS o)]) := by
  refine Spec.enter (args := [.slice a l.length c, .agg #[.int .i64 s.1, .int .i64 s.2]]) (A := []) Try.func19 rfl Try.ntmps19 rfl (fun _ h => h) ?_
  refine X.mem (B := [own 33 2 (.slice none ([] : List Sp).length 0) ([] : List Sp).length (encS [])]) (fun w h => h.nilOwn 33 2) ?_
  (refine X.seq ?_ <;> (refine X.text rfl ?_ <;>
    (first | refine XL.boxN rfl rfl rfl rfl (by intro g; infer_instance) (fun g => ?_) | refine XL.box1 rfl rfl rfl rfl rfl (by intro g; infer_instance) (fun g => ?_)) <;>
    ((apply XL.det0F rfl rfl rfl rfl; exact D.assign rfl)) <;>
    ((apply XL.det0F rfl rfl rfl rfl; exact D.assign rfl)) <;>
    (refine XL.nil ?_)) <;> (first | refine Ex.then ?_ | (refine N.next ?_ <;> (refine X.seq ?_ <;> (refine X.seq ?_ <;> (refine X.text rfl ?_ <;>
    ((apply XL.det0F rfl rfl rfl rfl; exact D.move rfl)) <;>
    ((refine XL.call rfl rfl rfl rfl (fun w hw => Check_spec w a l.length c l (hl.conf0 hw)) ?_; rintro v B' ⟨e, rfl, he, rfl⟩; refine XL.both ?_); rcases he with ⟨rfl, hset⟩ | ⟨rfl, hset⟩) <;>
    (first | refine XL.cmpTF rfl rfl rfl rfl (D.int rfl rfl rfl) (by omega) ?_ | refine XL.cmpFF rfl rfl rfl rfl (D.int rfl rfl rfl) (by omega) ?_ | refine XL.splitF rfl rfl rfl rfl (D.int rfl rfl rfl) (fun _ => ?_) (fun _ => ?_) | refine XL.cmpTF rfl rfl rfl rfl (D.neS2 rfl rfl) (by omega) ?_ | refine XL.cmpFF rfl rfl rfl rfl (D.neS2 rfl rfl) (by omega) ?_ | refine XL.splitF rfl rfl rfl rfl (D.neS2 rfl rfl) (fun _ => ?_) (fun _ => ?_) | (apply XL.det0F rfl rfl rfl rfl; first | exact D.neNilS rfl rfl | exact D.boolNe rfl rfl)) <;>
    ((apply XL.det0F rfl rfl rfl rfl; exact D.move rfl)) <;>
    (first | refine XL.skipF rfl rfl rfl rfl ?_ | ((apply XL.detF rfl rfl rfl rfl; first | exact D.load1 rfl (fun w h => h.cellAt (Loc.at_) rfl) | exact D.loadN rfl rfl (fun w h j u hu => by rw [at_add, Nat.zero_add]; exact h.cellAt (Loc.at_) hu)))) <;>
    (first | refine XL.skipF rfl rfl rfl rfl ?_ | ((refine XL.call rfl rfl rfl rfl (fun w hw => May_spec _ _ w) ?_; rintro v B' ⟨rfl, rfl⟩; refine XL.both ?_); (by_cases hm : mayS s <;> first | rw [if_pos hm] | rw [if_neg hm]))) <;>
    (first | refine XL.skipF rfl rfl rfl rfl ?_ | (first | refine XL.cmpTF rfl rfl rfl rfl (D.int rfl rfl rfl) (by omega) ?_ | refine XL.cmpFF rfl rfl rfl rfl (D.int rfl rfl rfl) (by omega) ?_ | refine XL.splitF rfl rfl rfl rfl (D.int rfl rfl rfl) (fun _ => ?_) (fun _ => ?_) | refine XL.cmpTF rfl rfl rfl rfl (D.neS2 rfl rfl) (by omega) ?_ | refine XL.cmpFF rfl rfl rfl rfl (D.neS2 rfl rfl) (by omega) ?_ | refine XL.splitF rfl rfl rfl rfl (D.neS2 rfl rfl) (fun _ => ?_) (fun _ => ?_) | (apply XL.det0F rfl rfl rfl rfl; first | exact D.neNilS rfl rfl | exact D.boolNe rfl rfl))) <;>
    ((apply XL.det0F rfl rfl rfl rfl; first | exact D.pickT rfl rfl | exact D.pickF rfl rfl | exact D.pick rfl rfl rfl)) <;>
    (refine XL.nil ?_)) <;> (first | refine Ex.then ?_ | (refine N.next ?_ <;> ((
    refine X.cond rfl ?_ ?_; rotate_left; (focus (
    intro hc; first | exact absurd hc (by decide) | (refine X.skip ?_))); rotate_right; (focus (
    intro hc; first | exact absurd hc (by decide) | (refine X.seq ?_ <;> (refine X.text rfl ?_ <;>
    ((apply XL.det0F rfl rfl rfl rfl; exact D.assign rfl)) <;>
    ((apply XL.det0F rfl rfl rfl rfl; exact D.assign rfl)) <;>
    (refine XL.nil ?_)) <;> (first | refine Ex.then ?_ | (refine N.next ?_ <;> ((refine X.ret ?_; (repeat (first | refine Rt.then ?_ | refine Rt.block ?_ | refine Rt.scope ?_)); apply Rt.done (Res.r2 Try.results19 (RV.tmp rfl) (RV.tmp rfl)); (focus (first | (exact ⟨none, 0, [], 1, rfl, .inr ⟨rfl, fun h => hset h.1, rfl⟩, rfl⟩) | (exact ⟨none, 0, [], 1, rfl, .inr ⟨rfl, fun h => hm h.2, rfl⟩, rfl⟩) | (exact ⟨a', c', o, 0, rfl, .inl ⟨rfl, ⟨hset, hm⟩, h1, fun t => by rw [h2 t, inS_one], by simp at h3; omega⟩, rfl⟩))); exact fun w h => h.takes)))))))))))) <;> (first | refine Ex.then ?_ | (refine N.next ?_ <;> (refine X.seq ?_ <;> (refine X.text rfl ?_ <;>
    ((apply XL.detF rfl rfl rfl rfl; first | exact D.load1 rfl (fun w h => h.cellAt (Loc.at_) rfl) | exact D.loadN rfl rfl (fun w h j u hu => by rw [at_add, Nat.zero_add]; exact h.cellAt (Loc.at_) hu))) <;>
    (refine XL.slice1 rfl rfl rfl rfl rfl rfl (by intro g; infer_instance) (fun g => ?_)) <;>
    ((apply XL.det0F rfl rfl rfl rfl; exact D.move rfl)) <;>
    (refine XL.mem (fun w h => h.cellsOwn (n := ([s] : List Sp).length) (sz := 2) rfl) ?_; have hbd2 : ([s] : List Sp).length + l.length ≤ 1000000 := (by simp only [List.length_cons, List.length_nil]; omega); (refine XL.call rfl rfl rfl rfl (fun w hw => less_spec w _ a _ c [s] l (hw.ownRd (xs := encS [s]) (i := 0) rfl) (hl.conf0 hw) (SetOK.one hm) hset hbd2) ?_; rintro v B' ⟨a', c', o, rfl, h1, h2, h3, rfl⟩; refine XL.both ?_)) <;>
    ((apply XL.det0F rfl rfl rfl rfl; exact D.assign rfl)) <;>
    ((apply XL.det0F rfl rfl rfl rfl; exact D.assign rfl)) <;>
    (refine XL.nil ?_)) <;> (first | refine Ex.then ?_ | (refine N.next ?_ <;> ((refine X.ret ?_; (repeat (first | refine Rt.then ?_ | refine Rt.block ?_ | refine Rt.scope ?_)); apply Rt.done (Res.r2 Try.results19 (RV.tmp rfl) (RV.tmp rfl)); (focus (first | (exact ⟨none, 0, [], 1, rfl, .inr ⟨rfl, fun h => hset h.1, rfl⟩, rfl⟩) | (exact ⟨none, 0, [], 1, rfl, .inr ⟨rfl, fun h => hm h.2, rfl⟩, rfl⟩) | (exact ⟨a', c', o, 0, rfl, .inl ⟨rfl, ⟨hset, hm⟩, h1, fun t => by rw [h2 t, inS_one], by simp at h3; omega⟩, rfl⟩))); exact fun w h => h.takes)))))))))))

def sumS : List Sp → Int
  | [] => 0
  | x :: l => x.2 + sumS l
theorem sumS_append (a b : List Sp) : sumS (a ++ b) = sumS a + sumS b := by
  induction a with
  | nil => simp [sumS]
  | cons x a ih => simp only [List.cons_append, sumS, ih]; omega
theorem sumS_take {l : List Sp} {i : Nat} {s : Sp} (h : l[i]? = some s) : sumS (l.take (i + 1)) = sumS (l.take i) + s.2 := by
  rw [List.take_add_one, h, sumS_append]; simp [sumS]
theorem Total_spec (w : World) (a : Option Addr) (c : Nat) (l : List Sp) (hl : Rd w 2 a l.length c (encS l)) (hbd : l.length ≤ 1000000) :
    Spec Try.prog 28 #[.slice a l.length c] w (fun _ => False) (fun v A => ∃ n, v = .int .i64 n ∧ ((SetOK l l.length ∧ n = sumS l) ∨ (¬ SetOK l l.length ∧ n = 0)) ∧ A = []) := by
  refine Spec.enter (args := [.slice a l.length c]) (A := []) Try.func28 rfl Try.ntmps28 rfl (fun _ h => h) ?_
  (refine X.seq ?_ <;> (refine X.text rfl ?_ <;>
    ((apply XL.det0F rfl rfl rfl rfl; exact D.assign rfl)) <;>
    (refine XL.nil ?_)) <;> (first | refine Ex.then ?_ | (refine N.next ?_ <;> (refine X.seq ?_ <;> (refine X.seq ?_ <;> (refine X.text rfl ?_ <;>
    ((apply XL.det0F rfl rfl rfl rfl; exact D.move rfl)) <;>
    ((refine XL.call rfl rfl rfl rfl (fun w hw => Check_spec w a l.length c l (hl.conf0 hw)) ?_; rintro v B' ⟨e, rfl, he, rfl⟩; refine XL.both ?_); rcases he with ⟨rfl, hset⟩ | ⟨rfl, hset⟩) <;>
    (first | refine XL.cmpTF rfl rfl rfl rfl (D.int rfl rfl rfl) (by omega) ?_ | refine XL.cmpFF rfl rfl rfl rfl (D.int rfl rfl rfl) (by omega) ?_ | refine XL.splitF rfl rfl rfl rfl (D.int rfl rfl rfl) (fun _ => ?_) (fun _ => ?_) | refine XL.cmpTF rfl rfl rfl rfl (D.neS2 rfl rfl) (by omega) ?_ | refine XL.cmpFF rfl rfl rfl rfl (D.neS2 rfl rfl) (by omega) ?_ | refine XL.splitF rfl rfl rfl rfl (D.neS2 rfl rfl) (fun _ => ?_) (fun _ => ?_) | (apply XL.det0F rfl rfl rfl rfl; first | exact D.neNilS rfl rfl | exact D.boolNe rfl rfl)) <;>
    (refine XL.nil ?_)) <;> (first | refine Ex.then ?_ | (refine N.next ?_ <;> ((
    refine X.cond rfl ?_ ?_; rotate_left; (focus (
    intro hc; first | exact absurd hc (by decide) | (refine X.skip ?_))); rotate_right; (focus (
    intro hc; first | exact absurd hc (by decide) | (refine X.seq ?_ <;> (refine X.text rfl ?_ <;>
    ((apply XL.det0F rfl rfl rfl rfl; exact D.assign rfl)) <;>
    (refine XL.nil ?_)) <;> (first | refine Ex.then ?_ | (refine N.next ?_ <;> ((refine X.ret ?_; (repeat (first | refine Rt.then ?_ | refine Rt.block ?_ | refine Rt.scope ?_)); apply Rt.done (Res.r1 Try.results28 (RV.tmp rfl)); (focus (first | (exact ⟨0, rfl, .inr ⟨hset, rfl⟩, rfl⟩) | ((obtain rfl : i = l.length := by omega); exact ⟨_, rfl, .inl ⟨hset, by rw [List.take_length]⟩, rfl⟩))); exact fun w h => h.takes)))))))))))) <;> (first | refine Ex.then ?_ | (refine N.next ?_ <;> (refine X.seq ?_ <;> (refine X.text rfl ?_ <;>
    ((apply XL.det0F rfl rfl rfl rfl; exact D.assign rfl)) <;>
    (refine XL.nil ?_)) <;> (first | refine Ex.then ?_ | (refine N.next ?_ <;> (refine X.seq ?_ <;> (refine X.seq ?_ <;> (refine X.text rfl ?_ <;>
    ((apply XL.det0F rfl rfl rfl rfl; exact D.move rfl)) <;>
    ((apply XL.det0F rfl rfl rfl rfl; first | exact D.len rfl | exact D.lenS rfl)) <;>
    ((apply XL.det0F rfl rfl rfl rfl; exact D.move rfl)) <;>
    (refine XL.nil ?_)) <;> (first | refine Ex.then ?_ | (refine N.next ?_ <;> (refine X.block ?_ <;> ((refine X.loop (ι := Nat) (fun i => [(3, .int .i64 (sumS (l.take i))), (9, .slice a l.length c), (10, .int .i64 l.length), (11, .int .i64 i)]) (fun _ => []) (fun i => i ≤ l.length ∧ 0 ≤ sumS (l.take i) ∧ sumS (l.take i) ≤ 65536 * i) (fun i => l.length - i) (0) ?_ ?_ ?_ ?_; (focus (exact ⟨Nat.zero_le _, by simp [sumS], by simp [sumS]⟩)); (focus (repeat (first | exact Sub.nil | refine Sub.cons rfl ?_))); (focus (exact (fun w h => h.takes))); rintro i ⟨hi, h0, h1⟩) <;> (refine X.seq ?_ <;> (refine X.text rfl ?_ <;>
    (first | refine XL.splitF rfl rfl rfl rfl (D.int rfl rfl rfl) (fun h2 => ?_) (fun h2 => ?_)) <;>
    (refine XL.nil ?_)) <;> (first | refine Ex.then ?_ | (refine N.next ?_ <;> (refine X.seq ?_ <;> ((
    refine X.cond rfl ?_ ?_; rotate_left; (focus (
    intro hc; first | exact absurd hc (by decide) | (refine X.exit ?_))); rotate_right; (focus (
    intro hc; first | exact absurd hc (by decide) | (refine X.skip ?_))))) <;> (first | refine Ex.then ?_ | (refine N.next ?_ <;> (refine X.seq ?_ <;> (refine X.block ?_ <;> (refine X.seq ?_ <;> (refine X.text rfl ?_ <;>
    (have hil : i < l.length := (by omega); obtain ⟨s, hs⟩ := get_lt hil; have hsm := hset.may hil hs; (apply XL.detF rfl rfl rfl rfl; exact D.indexAddr i rfl rfl rfl hil (hl.sm (by omega)))) <;>
    ((apply XL.detF rfl rfl rfl rfl; exact D.loadN rfl rfl (fun w hw j u hu => Rd.sp (Rd.conf0 hl hw) hs j u hu))) <;>
    (refine XL.alloc rfl rfl rfl (by intro g; infer_instance) (fun g => ?_)) <;>
    (first | refine XL.store1 rfl rfl rfl rfl rfl ?_ | refine XL.storeN rfl rfl rfl rfl rfl rfl ?_) <;>
    (refine XL.nil ?_)) <;> (first | refine Ex.then ?_ | (refine N.next ?_ <;> (refine X.text rfl ?_ <;>
    ((apply XL.det0F rfl rfl rfl rfl; exact D.move rfl)) <;>
    ((apply XL.det0F rfl rfl rfl rfl; first | exact D.fieldAddrB rfl rfl | exact D.fieldAddrE rfl rfl)) <;>
    ((apply XL.detF rfl rfl rfl rfl; first | exact D.load1 rfl (fun w h => h.cellAt (Loc.at_) rfl) | exact D.loadN rfl rfl (fun w h j u hu => by rw [at_add, Nat.zero_add]; exact h.cellAt (Loc.at_) hu))) <;>
    (have hsum := sumS_take hs; (apply XL.det0F rfl rfl rfl rfl; exact D.add64 rfl rfl (by unfold mayS at hsm; omega)); rw [← hsum]) <;>
    ((apply XL.det0F rfl rfl rfl rfl; exact D.assign rfl)) <;>
    (refine XL.nil ?_))))) <;> (first | refine N.block ?_ | refine Ex.here ?_ | refine Ex.out rfl ?_)) <;> (first | refine Ex.then ?_ | (refine N.next ?_ <;> (refine X.text rfl ?_ <;>
    ((apply XL.det0F rfl rfl rfl rfl; first | exact D.add64 rfl rfl (by omega) | exact D.int rfl rfl rfl)) <;>
    ((apply XL.det0F rfl rfl rfl rfl; exact D.move rfl)) <;>
    (refine XL.nil ?_))))))))))) <;> (first | refine Ex.then ?_ | ((refine N.again ((i + 1)) ?_ ?_ ?_ ?_; (focus (exact ⟨by omega, by unfold mayS at hsm; omega, by unfold mayS at hsm; omega⟩)); (focus (first | omega | (dsimp only; omega))); (focus (repeat (first | exact Sub.nil | refine Sub.cons rfl ?_))); exact (fun w h => h.takes))))) <;> (first | refine N.block ?_ | refine Ex.here ?_ | refine Ex.out rfl ?_))))) <;> (first | refine Ex.then ?_ | (refine N.next ?_ <;> (refine X.seq ?_ <;> (refine X.text rfl ?_ <;>
    ((apply XL.det0F rfl rfl rfl rfl; exact D.move rfl)) <;>
    ((apply XL.det0F rfl rfl rfl rfl; exact D.assign rfl)) <;>
    (refine XL.nil ?_)) <;> (first | refine Ex.then ?_ | (refine N.next ?_ <;> ((refine X.ret ?_; (repeat (first | refine Rt.then ?_ | refine Rt.block ?_ | refine Rt.scope ?_)); apply Rt.done (Res.r1 Try.results28 (RV.tmp rfl)); (focus (first | (exact ⟨0, rfl, .inr ⟨hset, rfl⟩, rfl⟩) | ((obtain rfl : i = l.length := by omega); exact ⟨_, rfl, .inl ⟨hset, by rw [List.take_length]⟩, rfl⟩))); exact fun w h => h.takes)))))))))))))))))

theorem Fit_spec (w : World) (a : Option Addr) (c : Nat) (l : List Sp) (s : Sp) (n : Int) (hl : Rd w 2 a l.length c (encS l)) (hbd : l.length ≤ 999999) :
    Spec Try.prog 20 #[.slice a l.length c, .agg #[.int .i64 s.1, .int .i64 s.2], .int .i64 n] w (fun _ => False) (fun v A => ∃ p q e, v = .tuple #[.agg #[.int .i64 p, .int .i64 q], .int .i64 e] ∧ ((e = 1 ∧ ¬ (SetOK l l.length ∧ mayS s ∧ 1 ≤ n) ∧ p = 0 ∧ q = 0) ∨ (∃ o : List Sp, (SetOK l l.length ∧ mayS s ∧ 1 ≤ n) ∧ SetOK o o.length ∧ (∀ t, inS o t ↔ (s.1 ≤ t ∧ t < s.1 + s.2) ∧ ¬ inS l t) ∧ ((e = 0 ∧ ∃ (i : Nat) (x : Sp), o[i]? = some x ∧ n ≤ x.2 ∧ (∀ (j : Nat) (y : Sp), j < i → o[j]? = some y → y.2 < n) ∧ p = x.1 ∧ q = n) ∨ (e = 15 ∧ (∀ y ∈ o, y.2 < n) ∧ p = 0 ∧ q = 0)))) ∧ A = []) := by
  refine Spec.enter (args := [.slice a l.length c, .agg #[.int .i64 s.1, .int .i64 s.2], .int .i64 n]) (A := []) Try.func20 rfl Try.ntmps20 rfl (fun _ h => h) ?_
  (refine X.seq ?_ <;> (refine X.text rfl ?_ <;>
    (first | refine XL.boxN rfl rfl rfl rfl (by intro g; infer_instance) (fun g => ?_) | refine XL.box1 rfl rfl rfl rfl rfl (by intro g; infer_instance) (fun g => ?_)) <;>
    (refine XL.alloc rfl rfl rfl (by intro g; infer_instance) (fun gr => ?_)) <;>
    ((apply XL.det0F rfl rfl rfl rfl; exact D.assign rfl)) <;>
    (refine XL.nil ?_)) <;> (first | refine Ex.then ?_ | (refine N.next ?_ <;> (refine X.seq ?_ <;> (refine X.text rfl ?_ <;>
    ((apply XL.det0F rfl rfl rfl rfl; exact D.move rfl)) <;>
    ((apply XL.detF rfl rfl rfl rfl; first | exact D.load1 rfl (fun w h => h.cellAt (Loc.at_) rfl) | exact D.loadN rfl rfl (fun w h j u hu => by rw [at_add, Nat.zero_add]; exact h.cellAt (Loc.at_) hu))) <;>
    ((refine XL.call rfl rfl rfl rfl (fun w hw => Gaps_spec w a c l s (hl.conf0 hw) hbd) ?_; rintro v B' ⟨a1, c1, o, e, rfl, he, rfl⟩; refine XL.both ?_); rcases he with ⟨rfl, ⟨hset, hm⟩, h1, h2, h3⟩ | ⟨rfl, hno, rfl⟩) <;>
    ((apply XL.det0F rfl rfl rfl rfl; exact D.move rfl)) <;>
    ((apply XL.det0F rfl rfl rfl rfl; exact D.extract rfl rfl)) <;>
    ((apply XL.det0F rfl rfl rfl rfl; exact D.extract rfl rfl)) <;>
    ((apply XL.det0F rfl rfl rfl rfl; exact D.assign rfl)) <;>
    ((apply XL.det0F rfl rfl rfl rfl; exact D.assign rfl)) <;>
    (refine XL.nil ?_)) <;> (first | refine Ex.then ?_ | (refine N.next ?_ <;> (refine X.seq ?_ <;> (refine X.seq ?_ <;> (refine X.text rfl ?_ <;>
    ((apply XL.det0F rfl rfl rfl rfl; exact D.move rfl)) <;>
    (first | refine XL.cmpTF rfl rfl rfl rfl (D.int rfl rfl rfl) (by omega) ?_ | refine XL.cmpFF rfl rfl rfl rfl (D.int rfl rfl rfl) (by omega) ?_ | refine XL.splitF rfl rfl rfl rfl (D.int rfl rfl rfl) (fun _ => ?_) (fun _ => ?_) | refine XL.cmpTF rfl rfl rfl rfl (D.neS2 rfl rfl) (by omega) ?_ | refine XL.cmpFF rfl rfl rfl rfl (D.neS2 rfl rfl) (by omega) ?_ | refine XL.splitF rfl rfl rfl rfl (D.neS2 rfl rfl) (fun _ => ?_) (fun _ => ?_) | (apply XL.det0F rfl rfl rfl rfl; first | exact D.neNilS rfl rfl | exact D.boolNe rfl rfl)) <;>
    ((apply XL.det0F rfl rfl rfl rfl; exact D.move rfl)) <;>
    (first | refine XL.skipF rfl rfl rfl rfl ?_ | ((apply XL.det0F rfl rfl rfl rfl; exact D.move rfl))) <;>
    (first | refine XL.skipF rfl rfl rfl rfl ?_ | (first | refine XL.cmpTF rfl rfl rfl rfl (D.int rfl rfl rfl) (by omega) ?_ | refine XL.cmpFF rfl rfl rfl rfl (D.int rfl rfl rfl) (by omega) ?_ | refine XL.splitF rfl rfl rfl rfl (D.int rfl rfl rfl) (fun _ => ?_) (fun _ => ?_))) <;>
    ((apply XL.det0F rfl rfl rfl rfl; first | exact D.pickT rfl rfl | exact D.pickF rfl rfl | exact D.pick rfl rfl rfl)) <;>
    (refine XL.nil ?_)) <;> (first | refine Ex.then ?_ | (refine N.next ?_ <;> ((
    refine X.cond rfl ?_ ?_; rotate_left; (focus (
    intro hc; first | exact absurd hc (by decide) | (refine X.skip ?_))); rotate_right; (focus (
    intro hc; first | exact absurd hc (by decide) | (refine X.seq ?_ <;> (refine X.text rfl ?_ <;>
    ((apply XL.det0F rfl rfl rfl rfl; exact D.build rfl)) <;>
    (first | refine XL.store1 rfl rfl rfl rfl rfl ?_ | refine XL.storeN rfl rfl rfl rfl rfl rfl ?_) <;>
    ((apply XL.det0F rfl rfl rfl rfl; exact D.assign rfl)) <;>
    (refine XL.nil ?_)) <;> (first | refine Ex.then ?_ | (refine N.next ?_ <;> ((refine X.ret ?_; (repeat (first | refine Rt.then ?_ | refine Rt.block ?_ | refine Rt.scope ?_)); apply Rt.done (Res.r2 Try.results20 (by first | exact RV.cell rfl rfl | exact RV.cell1 rfl) (RV.tmp rfl)); (focus (first | (exact ⟨_, _, _, rfl, .inl ⟨rfl, by first | (intro h; exact absurd h.2.2 (by omega)) | (intro h; exact hno ⟨h.1, h.2.1⟩), rfl, rfl⟩, rfl⟩) | (exact ⟨_, _, _, rfl, .inr ⟨o, ⟨hset, hm, by omega⟩, h1, h2, .inl ⟨rfl, i, x, hx, by omega, hno, rfl, rfl⟩⟩, rfl⟩) | (exact ⟨_, _, _, rfl, .inr ⟨o, ⟨hset, hm, by omega⟩, h1, h2, .inr ⟨rfl, fun y hy => by obtain ⟨j, hj⟩ := List.mem_iff_getElem?.1 hy; exact hno j y (by have := lt_of_get hj; omega) hj, rfl, rfl⟩⟩, rfl⟩))); exact fun w h => h.takes)))))))))))) <;> (first | refine Ex.then ?_ | (refine N.next ?_ <;> (refine X.seq ?_ <;> (refine X.seq ?_ <;> (refine X.text rfl ?_ <;>
    ((apply XL.det0F rfl rfl rfl rfl; exact D.move rfl)) <;>
    ((apply XL.det0F rfl rfl rfl rfl; first | exact D.len rfl | exact D.lenS rfl)) <;>
    ((apply XL.det0F rfl rfl rfl rfl; exact D.move rfl)) <;>
    (refine XL.nil ?_)) <;> (first | refine Ex.then ?_ | (refine N.next ?_ <;> (refine X.block ?_ <;> ((refine X.loop (ι := Nat) (fun i => [(2, .int .i64 n), (6, .pointer (some ⟨gr, 0, none⟩)), (25, .slice a1 o.length c1), (26, .int .i64 o.length), (27, .int .i64 i)]) (fun _ => [own 33 2 (.slice a1 o.length c1) o.length (encS o), cells gr [.int .i64 0, .int .i64 0] 33]) (fun i => i ≤ o.length ∧ ∀ j y, j < i → o[j]? = some y → y.2 < n) (fun i => o.length - i) (0) ?_ ?_ ?_ ?_; (focus (exact ⟨Nat.zero_le _, fun j y hj => absurd hj (Nat.not_lt_zero j)⟩)); (focus (repeat (first | exact Sub.nil | refine Sub.cons rfl ?_))); (focus (exact (fun w h => h.takes))); rintro i ⟨hi, hno⟩) <;> (refine X.seq ?_ <;> (refine X.text rfl ?_ <;>
    (first | refine XL.splitF rfl rfl rfl rfl (D.int rfl rfl rfl) (fun h4 => ?_) (fun h4 => ?_)) <;>
    (refine XL.nil ?_)) <;> (first | refine Ex.then ?_ | (refine N.next ?_ <;> (refine X.seq ?_ <;> ((
    refine X.cond rfl ?_ ?_; rotate_left; (focus (
    intro hc; first | exact absurd hc (by decide) | (refine X.exit ?_))); rotate_right; (focus (
    intro hc; first | exact absurd hc (by decide) | (refine X.skip ?_))))) <;> (first | refine Ex.then ?_ | (refine N.next ?_ <;> (refine X.seq ?_ <;> (refine X.block ?_ <;> (refine X.seq ?_ <;> (refine X.text rfl ?_ <;>
    (have hil : i < o.length := (by omega); obtain ⟨x, hx⟩ := get_lt hil; refine XL.fact (fun w h => (h.ownRd (i := 0) rfl).sm (by omega)) (fun hsome => ?_); (apply XL.detF rfl rfl rfl rfl; exact D.indexAddr i rfl rfl rfl hil hsome)) <;>
    ((apply XL.detF rfl rfl rfl rfl; exact D.loadN rfl rfl (fun w hw j u hu => Rd.sp (hw.ownRd (i := 0) rfl) hx j u hu))) <;>
    (refine XL.alloc rfl rfl rfl (by intro g; infer_instance) (fun g => ?_)) <;>
    (first | refine XL.store1 rfl rfl rfl rfl rfl ?_ | refine XL.storeN rfl rfl rfl rfl rfl rfl ?_) <;>
    (refine XL.nil ?_)) <;> (first | refine Ex.then ?_ | (refine N.next ?_ <;> (refine X.seq ?_ <;> (refine X.text rfl ?_ <;>
    ((apply XL.det0F rfl rfl rfl rfl; first | exact D.fieldAddrB rfl rfl | exact D.fieldAddrE rfl rfl)) <;>
    ((apply XL.detF rfl rfl rfl rfl; first | exact D.load1 rfl (fun w h => h.cellAt (Loc.at_) rfl) | exact D.loadN rfl rfl (fun w h j u hu => by rw [at_add, Nat.zero_add]; exact h.cellAt (Loc.at_) hu))) <;>
    ((apply XL.det0F rfl rfl rfl rfl; exact D.move rfl)) <;>
    (first | refine XL.splitF rfl rfl rfl rfl (D.int rfl rfl rfl) (fun h5 => ?_) (fun h5 => ?_)) <;>
    (refine XL.nil ?_)) <;> (first | refine Ex.then ?_ | (refine N.next ?_ <;> ((
    refine X.cond rfl ?_ ?_; rotate_left; (focus (
    intro hc; first | exact absurd hc (by decide) | (refine X.skip ?_))); rotate_right; (focus (
    intro hc; first | exact absurd hc (by decide) | (refine X.seq ?_ <;> (refine X.text rfl ?_ <;>
    ((apply XL.det0F rfl rfl rfl rfl; first | exact D.fieldAddrB rfl rfl | exact D.fieldAddrE rfl rfl)) <;>
    ((apply XL.detF rfl rfl rfl rfl; first | exact D.load1 rfl (fun w h => h.cellAt (Loc.at_) rfl) | exact D.loadN rfl rfl (fun w h j u hu => by rw [at_add, Nat.zero_add]; exact h.cellAt (Loc.at_) hu))) <;>
    ((apply XL.det0F rfl rfl rfl rfl; exact D.move rfl)) <;>
    ((apply XL.det0F rfl rfl rfl rfl; exact D.build rfl)) <;>
    (first | refine XL.store1 rfl rfl rfl rfl rfl ?_ | refine XL.storeN rfl rfl rfl rfl rfl rfl ?_) <;>
    ((apply XL.det0F rfl rfl rfl rfl; exact D.assign rfl)) <;>
    (refine XL.nil ?_)) <;> (first | refine Ex.then ?_ | (refine N.next ?_ <;> ((refine X.ret ?_; (repeat (first | refine Rt.then ?_ | refine Rt.block ?_ | refine Rt.scope ?_)); apply Rt.done (Res.r2 Try.results20 (by first | exact RV.cell rfl rfl | exact RV.cell1 rfl) (RV.tmp rfl)); (focus (first | (exact ⟨_, _, _, rfl, .inl ⟨rfl, by first | (intro h; exact absurd h.2.2 (by omega)) | (intro h; exact hno ⟨h.1, h.2.1⟩), rfl, rfl⟩, rfl⟩) | (exact ⟨_, _, _, rfl, .inr ⟨o, ⟨hset, hm, by omega⟩, h1, h2, .inl ⟨rfl, i, x, hx, by omega, hno, rfl, rfl⟩⟩, rfl⟩) | (exact ⟨_, _, _, rfl, .inr ⟨o, ⟨hset, hm, by omega⟩, h1, h2, .inr ⟨rfl, fun y hy => by obtain ⟨j, hj⟩ := List.mem_iff_getElem?.1 hy; exact hno j y (by have := lt_of_get hj; omega) hj, rfl, rfl⟩⟩, rfl⟩))); exact fun w h => h.takes))))))))))))))) <;> (first | refine N.block ?_ | refine Ex.here ?_ | refine Ex.out rfl ?_)) <;> (first | refine Ex.then ?_ | (refine N.next ?_ <;> (refine X.text rfl ?_ <;>
    ((apply XL.det0F rfl rfl rfl rfl; first | exact D.add64 rfl rfl (by omega) | exact D.int rfl rfl rfl)) <;>
    ((apply XL.det0F rfl rfl rfl rfl; exact D.move rfl)) <;>
    (refine XL.nil ?_))))))))))) <;> (first | refine Ex.then ?_ | ((refine N.again ((i + 1)) ?_ ?_ ?_ ?_; (focus (exact ⟨by omega, fun j y hj hy => by rcases Nat.lt_or_ge j i with h | h; exact hno j y h hy; (obtain rfl : j = i := by omega); rw [hx] at hy; cases hy; omega⟩)); (focus (first | omega | (dsimp only; omega))); (focus (repeat (first | exact Sub.nil | refine Sub.cons rfl ?_))); exact (fun w h => h.takes))))) <;> (first | refine N.block ?_ | refine Ex.here ?_ | refine Ex.out rfl ?_))))) <;> (first | refine Ex.then ?_ | (refine N.next ?_ <;> (refine X.seq ?_ <;> (refine X.text rfl ?_ <;>
    ((apply XL.det0F rfl rfl rfl rfl; exact D.build rfl)) <;>
    (first | refine XL.store1 rfl rfl rfl rfl rfl ?_ | refine XL.storeN rfl rfl rfl rfl rfl rfl ?_) <;>
    ((apply XL.det0F rfl rfl rfl rfl; exact D.assign rfl)) <;>
    (refine XL.nil ?_)) <;> (first | refine Ex.then ?_ | (refine N.next ?_ <;> ((refine X.ret ?_; (repeat (first | refine Rt.then ?_ | refine Rt.block ?_ | refine Rt.scope ?_)); apply Rt.done (Res.r2 Try.results20 (by first | exact RV.cell rfl rfl | exact RV.cell1 rfl) (RV.tmp rfl)); (focus (first | (exact ⟨_, _, _, rfl, .inl ⟨rfl, by first | (intro h; exact absurd h.2.2 (by omega)) | (intro h; exact hno ⟨h.1, h.2.1⟩), rfl, rfl⟩, rfl⟩) | (exact ⟨_, _, _, rfl, .inr ⟨o, ⟨hset, hm, by omega⟩, h1, h2, .inl ⟨rfl, i, x, hx, by omega, hno, rfl, rfl⟩⟩, rfl⟩) | (exact ⟨_, _, _, rfl, .inr ⟨o, ⟨hset, hm, by omega⟩, h1, h2, .inr ⟨rfl, fun y hy => by obtain ⟨j, hj⟩ := List.mem_iff_getElem?.1 hy; exact hno j y (by have := lt_of_get hj; omega) hj, rfl, rfl⟩⟩, rfl⟩))); exact fun w h => h.takes)))))))))))))))))
end Go.Lx
