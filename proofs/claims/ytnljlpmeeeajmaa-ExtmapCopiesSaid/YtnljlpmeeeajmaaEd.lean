/- Package extmap's walks, part d: slices of extents, one behind the other. -/
import Derived.Test.YtnljlpmeeeajmaaEc
namespace Go.Lx
open Go.Proofs
set_option linter.unusedVariables false
set_option linter.unusedSimpArgs false
set_option maxRecDepth 20000

/-- A slice of extents, and what it holds. -/
structure Sle where
  a : Option Addr
  c : Nat
  l : List Ext
  deriving Inhabited
def valL (s : Sle) : Value := .slice s.a s.l.length s.c
def encL1 (s : Sle) : List Value := [valL s]
def sumL : List Sle → Nat
  | [] => 0
  | s :: l => s.l.length + sumL l
theorem sumL_take : ∀ (l : List Sle) (i : Nat) (s : Sle), l[i]? = some s → sumL (l.take (i + 1)) = sumL (l.take i) + s.l.length ∧ sumL (l.take i) + s.l.length ≤ sumL l
  | s :: l, 0, x, h => by
    simp at h
    subst h
    simp [sumL]
  | s :: l, i + 1, x, h => by
    have := sumL_take l i x (by simpa using h)
    simp only [List.take_succ_cons, sumL]
    omega
theorem flat_len_sum : ∀ (l : List Sle), (l.flatMap (·.l)).length = sumL l
  | [] => rfl
  | s :: l => by simp only [List.flatMap_cons, List.length_append, sumL, flat_len_sum l]

theorem Concat_spec (w : World) (a : Option Addr) (c : Nat) (ss : List Sle) (hp : Rd w 1 a ss.length c (ss.flatMap encL1)) (hs : ∀ s ∈ ss, Rd w 4 s.a s.l.length s.c (encE s.l)) (hk : ss.length ≤ 1000) (hbd : sumL ss ≤ 1000000) :
    Spec Try.prog 57 #[.slice a ss.length c] w (fun _ => False) (fun v A => ∃ a' c', v = .slice a' (ss.flatMap (·.l)).length c' ∧ A = [own 30 4 (.slice a' (ss.flatMap (·.l)).length c') (ss.flatMap (·.l)).length (encE (ss.flatMap (·.l)))]) := by
  refine Spec.enter (args := [.slice a ss.length c]) (A := []) Try.func57 rfl Try.ntmps57 rfl (fun _ h => h) ?_
  (refine X.seq ?_ <;> (refine X.text (L := (.op .fin 0 .nil)) rfl ?_ <;>
    ((apply XL.det0F rfl rfl rfl rfl; exact D.assign rfl)) <;>
    (refine XL.nil ?_)) <;> (first | refine Ex.then ?_ | (refine N.next ?_ <;> (refine X.seq ?_ <;> (refine X.text (L := (.op .fin 0 .nil)) rfl ?_ <;>
    ((apply XL.det0F rfl rfl rfl rfl; exact D.assign rfl)) <;>
    (refine XL.nil ?_)) <;> (first | refine Ex.then ?_ | (refine N.next ?_ <;> (refine X.seq ?_ <;> (refine X.seq ?_ <;> (refine X.text (L := (.op .fin 0 (.op .fin 1 (.op .fin 2 .nil)))) rfl ?_ <;>
    ((apply XL.det0F rfl rfl rfl rfl; exact D.move rfl)) <;>
    ((apply XL.det0F rfl rfl rfl rfl; first | exact D.len rfl | exact D.lenS rfl)) <;>
    ((apply XL.det0F rfl rfl rfl rfl; exact D.move rfl)) <;>
    (refine XL.nil ?_)) <;> (first | refine Ex.then ?_ | (refine N.next ?_ <;> (refine X.block ?_ <;> ((refine X.loop (ι := Nat) (fun i => [(0, .slice a ss.length c), (3, .int .i64 (sumL (ss.take i) : Nat)), (9, .slice a ss.length c), (10, .int .i64 ss.length), (11, .int .i64 i)]) (fun _ => []) (fun i => i ≤ ss.length) (fun i => ss.length - i) (0) ?_ ?_ ?_ ?_; (focus (exact Nat.zero_le _)); (focus (repeat (first | exact Sub.nil | refine Sub.cons rfl ?_))); (focus (exact (fun w h => h.takes))); rintro i hi) <;> (refine X.seq ?_ <;> (refine X.text (L := (.op .fin 0 .nil)) rfl ?_ <;>
    (first | refine XL.splitF rfl rfl rfl rfl (D.int rfl rfl rfl) (fun h0 => ?_) (fun h0 => ?_)) <;>
    (refine XL.nil ?_)) <;> (first | refine Ex.then ?_ | (refine N.next ?_ <;> (refine X.seq ?_ <;> ((
    refine X.cond rfl ?_ ?_; rotate_left; (focus (
    intro hc; first | exact absurd hc (by decide) | (cases hc; done) | (refine X.exit ?_))); rotate_right; (focus (
    intro hc; first | exact absurd hc (by decide) | (cases hc; done) | (refine X.skip ?_))))) <;> (first | refine Ex.then ?_ | (refine N.next ?_ <;> (refine X.seq ?_ <;> (refine X.block ?_ <;> (refine X.seq ?_ <;> (refine X.text (L := (.op .fin 0 (.op .fin 1 (.op .fin 2 .nil)))) rfl ?_ <;>
    (have hil : i < ss.length := (by omega); obtain ⟨s, hs'⟩ := get_lt hil; have hsum := sumL_take ss i s hs'; (apply XL.detF rfl rfl rfl rfl; exact D.indexAddr i rfl rfl rfl hil (hp.sm (by omega)))) <;>
    ((apply XL.detF rfl rfl rfl rfl; exact D.load1 (v := valL s) rfl (fun w hw => by have := Rd.elem (f := encL1) (hp.conf0 hw) (fun _ => rfl) hs' 0 _ rfl; simpa [el_add] using this))) <;>
    ((apply XL.det0F rfl rfl rfl rfl; exact D.assign rfl)) <;>
    (refine XL.nil ?_)) <;> (first | refine Ex.then ?_ | (refine N.next ?_ <;> (refine X.seq ?_ <;> (refine X.text (L := (.op .fin 0 (.op .fin 1 (.op .fin 2 (.op .fin 3 (.op .fin 4 .nil)))))) rfl ?_ <;>
    ((apply XL.det0F rfl rfl rfl rfl; exact D.move rfl)) <;>
    ((apply XL.det0F rfl rfl rfl rfl; exact D.move rfl)) <;>
    ((apply XL.det0F rfl rfl rfl rfl; exact D.len (ad := s.a) (n := s.l.length) (c := s.c) rfl)) <;>
    ((apply XL.det0F rfl rfl rfl rfl; exact D.add64 rfl rfl (by omega)); rw [show ((sumL (ss.take i) : Nat) : Int) + (s.l.length : Int) = ((sumL (ss.take (i + 1)) : Nat) : Int) from (by omega)]) <;>
    ((apply XL.det0F rfl rfl rfl rfl; exact D.assign rfl)) <;>
    (refine XL.nil ?_)) <;> (first | refine Ex.then ?_ | (refine N.next ?_ <;> (refine X.seq ?_ <;> (refine X.text (L := (.op .fin 0 (.op .fin 1 .nil))) rfl ?_ <;>
    ((apply XL.det0F rfl rfl rfl rfl; exact D.move rfl)) <;>
    (first | refine XL.cmpTF rfl rfl rfl rfl (D.int rfl rfl rfl) (by omega) ?_ | refine XL.cmpFF rfl rfl rfl rfl (D.int rfl rfl rfl) (by omega) ?_ | refine XL.splitF rfl rfl rfl rfl (D.int rfl rfl rfl) (fun _ => ?_) (fun _ => ?_)) <;>
    (refine XL.nil ?_)) <;> (first | refine Ex.then ?_ | (refine N.next ?_ <;> ((
    refine X.cond rfl ?_ ?_; rotate_left; (focus (
    intro hc; first | exact absurd hc (by decide) | (cases hc; done) | (refine X.skip ?_))); rotate_right; (focus (
    intro hc; first | exact absurd hc (by decide) | (cases hc; done) | (refine X.text (L := (.op .fin 0 (.op .fin 1 .nil))) rfl ?_ <;>
    (fail "op makeInterface") <;>
    (fail "op panic") <;>
    (refine XL.nil ?_))))))))))))))) <;> (first | refine N.block ?_ | refine Ex.here ?_ | refine Ex.out rfl ?_)) <;> (first | refine Ex.then ?_ | (refine N.next ?_ <;> (refine X.text (L := (.op .fin 0 (.op .fin 1 .nil))) rfl ?_ <;>
    ((apply XL.det0F rfl rfl rfl rfl; first | exact D.add64 rfl rfl (by omega) | exact D.int rfl rfl rfl)) <;>
    ((apply XL.det0F rfl rfl rfl rfl; exact D.move rfl)) <;>
    (refine XL.nil ?_))))))))))) <;> (first | refine Ex.then ?_ | ((refine N.again ((i + 1)) ?_ ?_ ?_ ?_; (focus (omega)); (focus (first | omega | (dsimp only; omega))); (focus (repeat (first | exact Sub.nil | refine Sub.cons rfl ?_))); exact (fun w h => h.takes))))) <;> (first | refine N.block ?_ | refine Ex.here ?_ | refine Ex.out rfl ?_))))) <;> (first | refine Ex.then ?_ | (refine N.next ?_ <;> (refine X.seq ?_ <;> (refine X.text (L := (.op .fin 0 (.op .fin 1 (.op .fin 2 .nil)))) rfl ?_ <;>
    ((apply XL.det0F rfl rfl rfl rfl; exact D.move rfl)) <;>
    (have hsl : sumL (ss.take i) ≤ 1000000 := (by rw [List.take_of_length_le (by omega)]; exact hbd); (refine XL.call rfl rfl rfl rfl (fun w hw => Grow_spec w _ hsl) ?_; rintro v B' ⟨a1, c1, rfl, rfl⟩; refine XL.both ?_); refine XL.mem (B := [own 30 4 (.slice a1 ((ss.take 0).flatMap (·.l)).length c1) ((ss.take 0).flatMap (·.l)).length (encE ((ss.take 0).flatMap (·.l)))]) (fun w h => h) ?_) <;>
    ((apply XL.det0F rfl rfl rfl rfl; exact D.assign rfl)) <;>
    (refine XL.nil ?_)) <;> (first | refine Ex.then ?_ | (refine N.next ?_ <;> (refine X.seq ?_ <;> (refine X.seq ?_ <;> (refine X.text (L := (.op .fin 0 (.op .fin 1 (.op .fin 2 .nil)))) rfl ?_ <;>
    ((apply XL.det0F rfl rfl rfl rfl; exact D.move rfl)) <;>
    ((apply XL.det0F rfl rfl rfl rfl; first | exact D.len rfl | exact D.lenS rfl)) <;>
    ((apply XL.det0F rfl rfl rfl rfl; exact D.move rfl)) <;>
    (refine XL.nil ?_)) <;> (first | refine Ex.then ?_ | (refine N.next ?_ <;> (refine X.block ?_ <;> ((refine X.loop (ι := Nat × Option Addr × Nat) (fun x => [(6, .slice x.2.1 ((ss.take x.1).flatMap (·.l)).length x.2.2), (25, .slice a ss.length c), (26, .int .i64 ss.length), (27, .int .i64 x.1)]) (fun x => [own 30 4 (.slice x.2.1 ((ss.take x.1).flatMap (·.l)).length x.2.2) ((ss.take x.1).flatMap (·.l)).length (encE ((ss.take x.1).flatMap (·.l)))]) (fun x => x.1 ≤ ss.length) (fun x => ss.length - x.1) ((0, a1, c1)) ?_ ?_ ?_ ?_; (focus (exact Nat.zero_le _)); (focus (repeat (first | exact Sub.nil | refine Sub.cons rfl ?_))); (focus (exact (fun w h => h.takes))); rintro ⟨j, a2, c2⟩ hj; (dsimp only at *)) <;> (refine X.seq ?_ <;> (refine X.text (L := (.op .fin 0 .nil)) rfl ?_ <;>
    (first | refine XL.splitF rfl rfl rfl rfl (D.int rfl rfl rfl) (fun h3 => ?_) (fun h3 => ?_)) <;>
    (refine XL.nil ?_)) <;> (first | refine Ex.then ?_ | (refine N.next ?_ <;> (refine X.seq ?_ <;> ((
    refine X.cond rfl ?_ ?_; rotate_left; (focus (
    intro hc; first | exact absurd hc (by decide) | (cases hc; done) | (refine X.exit ?_))); rotate_right; (focus (
    intro hc; first | exact absurd hc (by decide) | (cases hc; done) | (refine X.skip ?_))))) <;> (first | refine Ex.then ?_ | (refine N.next ?_ <;> (refine X.seq ?_ <;> (refine X.block ?_ <;> (refine X.seq ?_ <;> (refine X.text (L := (.op .fin 0 (.op .fin 1 (.op .fin 2 .nil)))) rfl ?_ <;>
    (have hjl : j < ss.length := (by omega); obtain ⟨s, hs'⟩ := get_lt hjl; have hsum := sumL_take ss j s hs'; have hfl := flat_len_sum (ss.take j); (apply XL.detF rfl rfl rfl rfl; exact D.indexAddr j rfl rfl rfl hjl (hp.sm (by omega)))) <;>
    ((apply XL.detF rfl rfl rfl rfl; exact D.load1 (v := valL s) rfl (fun w hw => by have := Rd.elem (f := encL1) (hp.conf0 hw) (fun _ => rfl) hs' 0 _ rfl; simpa [el_add] using this))) <;>
    ((apply XL.det0F rfl rfl rfl rfl; exact D.assign rfl)) <;>
    (refine XL.nil ?_)) <;> (first | refine Ex.then ?_ | (refine N.next ?_ <;> (refine X.text (L := (.op .fin 0 (.op .fin 1 (.op .fin 2 (.op .fin 3 .nil))))) rfl ?_ <;>
    ((apply XL.det0F rfl rfl rfl rfl; exact D.move rfl)) <;>
    ((apply XL.det0F rfl rfl rfl rfl; exact D.move rfl)) <;>
    ((refine XL.appendR (a2 := s.a) (m := s.l.length) (c2 := s.c) (news := encE s.l) rfl rfl rfl rfl rfl (fun w hw => (hs s (List.mem_of_getElem? hs')).conf0 hw) (encE_one s.l) (by unfold maxLen; omega) (fun _ _ => by infer_instance) (fun a3 c3 => ?_)); rw [show encE ((ss.take j).flatMap (·.l)) ++ encE s.l = encE ((ss.take (j + 1)).flatMap (·.l)) from (by rw [take_succ_snoc hs']; simp [encE]), show ((ss.take j).flatMap (·.l)).length + s.l.length = ((ss.take (j + 1)).flatMap (·.l)).length from (by rw [take_succ_snoc hs']; simp)]) <;>
    ((apply XL.det0F rfl rfl rfl rfl; exact D.assign rfl)) <;>
    (refine XL.nil ?_))))) <;> (first | refine N.block ?_ | refine Ex.here ?_ | refine Ex.out rfl ?_)) <;> (first | refine Ex.then ?_ | (refine N.next ?_ <;> (refine X.text (L := (.op .fin 0 (.op .fin 1 .nil))) rfl ?_ <;>
    ((apply XL.det0F rfl rfl rfl rfl; first | exact D.add64 rfl rfl (by omega) | exact D.int rfl rfl rfl)) <;>
    ((apply XL.det0F rfl rfl rfl rfl; exact D.move rfl)) <;>
    (refine XL.nil ?_))))))))))) <;> (first | refine Ex.then ?_ | ((refine N.again ((j + 1, a3, c3)) ?_ ?_ ?_ ?_; (focus ((dsimp only; omega))); (focus (first | omega | (dsimp only; omega))); (focus (repeat (first | exact Sub.nil | refine Sub.cons rfl ?_))); exact (fun w h => h.takes))))) <;> (first | refine N.block ?_ | refine Ex.here ?_ | refine Ex.out rfl ?_))))) <;> (first | refine Ex.then ?_ | (refine N.next ?_ <;> (refine X.seq ?_ <;> (refine X.text (L := (.op .fin 0 (.op .fin 1 .nil))) rfl ?_ <;>
    (have hje : ss.take j = ss := (List.take_of_length_le (by omega)); (apply XL.det0F rfl rfl rfl rfl; exact D.move rfl); rw [hje]) <;>
    ((apply XL.det0F rfl rfl rfl rfl; exact D.assign rfl)) <;>
    (refine XL.nil ?_)) <;> (first | refine Ex.then ?_ | (refine N.next ?_ <;> ((refine X.ret ?_; (repeat (first | refine Rt.then ?_ | refine Rt.block ?_ | refine Rt.scope ?_)); apply Rt.done (Res.r1 Try.results57 (RV.tmp rfl)); (focus (exact ⟨a2, c2, rfl, rfl⟩)); exact fun w h => h.takes))))))))))))))))))))
end Go.Lx
