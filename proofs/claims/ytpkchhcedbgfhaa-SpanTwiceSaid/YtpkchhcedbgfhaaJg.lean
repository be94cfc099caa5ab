/- SpanTwice, walked. -/
import Derived.Test.YtpkchhcedbgfhaaJf
namespace Go.Lx
open Go.Proofs
set_option linter.unusedVariables false
set_option linter.unusedSimpArgs false
set_option maxRecDepth 20000
set_option maxHeartbeats 2000000

theorem has_iff {l : List Sp} (h : SetOK l l.length) {t : Int} {b : Bool} (hb : b = true ↔ SetOK l l.length ∧ ∃ x ∈ l, x.1 ≤ t ∧ t < x.1 + x.2) : b = inB l t := by
  rw [Bool.eq_iff_iff, inB_iff, hb]
  exact ⟨fun h => h.2, fun h' => ⟨h, h'⟩⟩
theorem SpanTwice_spec (w : World) (pl pa pb : Option Addr) (cl ca cb : Nat) (l a b : List Sp) (rl : Rd w 2 pl l.length cl (encS l)) (ra : Rd w 2 pa a.length ca (encS a)) (rb : Rd w 2 pb b.length cb (encS b)) (hbd : l.length ≤ 8796093022208 ∧ a.length ≤ 8796093022208 ∧ b.length ≤ 8796093022208) : Spec Try.prog 8 #[.slice pl l.length cl, .slice pa a.length ca, .slice pb b.length cb] w (fun _ => False) (fun v A => v = .bool true ∧ A = []) := by
  refine Spec.enter (args := [.slice pl l.length cl, .slice pa a.length ca, .slice pb b.length cb]) (A := []) Try.func8 rfl Try.ntmps8 rfl (fun _ h => h) ?_
  refine X.mem (B := [own 33 2 (.slice none 0 0) 0 []]) (fun w h => h.nilOwn 33 2) ?_
  (refine X.seq ?_ <;> (refine X.text rfl ?_ <;>
    ((apply XL.det0F rfl rfl rfl rfl; exact D.assign rfl)) <;>
    (refine XL.nil ?_)) <;> (first | refine Ex.then ?_ | (refine N.next ?_ <;> (refine X.seq ?_ <;> (refine X.seq ?_ <;> (refine X.text rfl ?_ <;>
    ((apply XL.det0F rfl rfl rfl rfl; exact D.move rfl)) <;>
    ((refine XL.call rfl rfl rfl rfl (fun w hw => refCheck_spec w pl cl l (rl.conf0 hw) (by omega)) ?_; rintro v B' ⟨b1, rfl, hL, rfl⟩; refine XL.both ?_); cases b1) <;>
    ((apply XL.det0F rfl rfl rfl rfl; exact D.not rfl)) <;>
    ((apply XL.det0F rfl rfl rfl rfl; exact D.move rfl)) <;>
    (first | refine XL.skipF rfl rfl rfl rfl ?_ | ((apply XL.det0F rfl rfl rfl rfl; exact D.move rfl))) <;>
    (first | refine XL.skipF rfl rfl rfl rfl ?_ | ((refine XL.call rfl rfl rfl rfl (fun w hw => Few_spec w pl cl l (rl.conf0 hw) (by omega)) ?_; rintro v B' ⟨b2, rfl, hF, rfl⟩; refine XL.both ?_); cases b2)) <;>
    (first | refine XL.skipF rfl rfl rfl rfl ?_ | ((apply XL.det0F rfl rfl rfl rfl; exact D.not rfl))) <;>
    ((apply XL.det0F rfl rfl rfl rfl; first | exact D.pickT rfl rfl | exact D.pickF rfl rfl | exact D.pick rfl rfl rfl)) <;>
    ((apply XL.det0F rfl rfl rfl rfl; exact D.move rfl)) <;>
    (first | refine XL.skipF rfl rfl rfl rfl ?_ | ((apply XL.det0F rfl rfl rfl rfl; exact D.move rfl))) <;>
    (first | refine XL.skipF rfl rfl rfl rfl ?_ | ((refine XL.call rfl rfl rfl rfl (fun w hw => refAll_spec w pa ca a (ra.conf0 hw) (by omega)) ?_; rintro v B' ⟨b3, rfl, hA, rfl⟩; refine XL.both ?_); cases b3)) <;>
    (first | refine XL.skipF rfl rfl rfl rfl ?_ | ((apply XL.det0F rfl rfl rfl rfl; exact D.not rfl))) <;>
    ((apply XL.det0F rfl rfl rfl rfl; first | exact D.pickT rfl rfl | exact D.pickF rfl rfl | exact D.pick rfl rfl rfl)) <;>
    ((apply XL.det0F rfl rfl rfl rfl; exact D.move rfl)) <;>
    (first | refine XL.skipF rfl rfl rfl rfl ?_ | ((apply XL.det0F rfl rfl rfl rfl; exact D.move rfl))) <;>
    (first | refine XL.skipF rfl rfl rfl rfl ?_ | ((refine XL.call rfl rfl rfl rfl (fun w hw => refAll_spec w pb cb b (rb.conf0 hw) (by omega)) ?_; rintro v B' ⟨b4, rfl, hB, rfl⟩; refine XL.both ?_); cases b4)) <;>
    (first | refine XL.skipF rfl rfl rfl rfl ?_ | ((apply XL.det0F rfl rfl rfl rfl; exact D.not rfl))) <;>
    ((apply XL.det0F rfl rfl rfl rfl; first | exact D.pickT rfl rfl | exact D.pickF rfl rfl | exact D.pick rfl rfl rfl)) <;>
    ((apply XL.det0F rfl rfl rfl rfl; exact D.move rfl)) <;>
    (first | refine XL.skipF rfl rfl rfl rfl ?_ | ((apply XL.det0F rfl rfl rfl rfl; exact D.move rfl))) <;>
    (first | refine XL.skipF rfl rfl rfl rfl ?_ | ((apply XL.det0F rfl rfl rfl rfl; first | exact D.len rfl | exact D.lenS rfl))) <;>
    (first | refine XL.skipF rfl rfl rfl rfl ?_ | (first | refine XL.cmpTF rfl rfl rfl rfl (D.int rfl rfl rfl) (by omega) ?_ | refine XL.cmpFF rfl rfl rfl rfl (D.int rfl rfl rfl) (by omega) ?_ | refine XL.splitF rfl rfl rfl rfl (D.int rfl rfl rfl) (fun _ => ?_) (fun _ => ?_))) <;>
    ((apply XL.det0F rfl rfl rfl rfl; first | exact D.pickT rfl rfl | exact D.pickF rfl rfl | exact D.pick rfl rfl rfl)) <;>
    ((apply XL.det0F rfl rfl rfl rfl; exact D.move rfl)) <;>
    (first | refine XL.skipF rfl rfl rfl rfl ?_ | ((apply XL.det0F rfl rfl rfl rfl; exact D.move rfl))) <;>
    (first | refine XL.skipF rfl rfl rfl rfl ?_ | ((apply XL.det0F rfl rfl rfl rfl; first | exact D.len rfl | exact D.lenS rfl))) <;>
    (first | refine XL.skipF rfl rfl rfl rfl ?_ | (first | refine XL.cmpTF rfl rfl rfl rfl (D.int rfl rfl rfl) (by omega) ?_ | refine XL.cmpFF rfl rfl rfl rfl (D.int rfl rfl rfl) (by omega) ?_ | refine XL.splitF rfl rfl rfl rfl (D.int rfl rfl rfl) (fun _ => ?_) (fun _ => ?_))) <;>
    ((apply XL.det0F rfl rfl rfl rfl; first | exact D.pickT rfl rfl | exact D.pickF rfl rfl | exact D.pick rfl rfl rfl)) <;>
    (refine XL.nil ?_)) <;> (first | refine Ex.then ?_ | (refine N.next ?_ <;> ((
    refine X.cond rfl ?_ ?_; rotate_left; (focus (
    intro hc; first | exact absurd hc (by decide) | (refine X.skip ?_))); rotate_right; (focus (
    intro hc; first | exact absurd hc (by decide) | (refine X.seq ?_ <;> (refine X.text rfl ?_ <;>
    ((refine XL.call rfl rfl rfl rfl (fun w hw => awake_spec w) ?_; rintro v B' ⟨rfl, rfl⟩; refine XL.both ?_)) <;>
    ((apply XL.det0F rfl rfl rfl rfl; exact D.assign rfl)) <;>
    (refine XL.nil ?_)) <;> (first | refine Ex.then ?_ | (refine N.next ?_ <;> ((refine X.ret ?_; (repeat (first | refine Rt.then ?_ | refine Rt.block ?_ | refine Rt.scope ?_)); apply Rt.done (Res.r1 Try.results8 (RV.tmp rfl)); (focus (exact ⟨rfl, rfl⟩)); exact fun w h => h.takes)))))))))))) <;> (first | refine Ex.then ?_ | (refine N.next ?_ <;> (refine X.seq ?_ <;> (refine X.text rfl ?_ <;>
    (have hl := hL.1 rfl; have hf := hF.1 rfl; have ha := hA.1 rfl; have hb := hB.1 rfl; have hll := hf.2; have hla : a.length ≤ 100 := (by omega); have hlb : b.length ≤ 100 := (by omega); (apply XL.det0F rfl rfl rfl rfl; exact D.move rfl)) <;>
    ((apply XL.det0F rfl rfl rfl rfl; exact D.move rfl)) <;>
    ((refine XL.call rfl rfl rfl rfl (fun w hw => Cut_spec w pl pa cl ca l a (rl.conf0 hw) (ra.conf0 hw) (by omega)) ?_; rintro v B' ⟨px, cx, x, e, rfl, hx, rfl⟩; refine XL.both ?_); obtain ⟨rfl, _, x1, x2, x3⟩ := hx.resolve_right (fun h => h.2.1 ⟨hl, ha⟩)) <;>
    ((apply XL.det0F rfl rfl rfl rfl; exact D.move rfl)) <;>
    ((apply XL.det0F rfl rfl rfl rfl; exact D.extract rfl rfl)) <;>
    ((apply XL.det0F rfl rfl rfl rfl; exact D.extract rfl rfl)) <;>
    ((apply XL.det0F rfl rfl rfl rfl; exact D.assign rfl)) <;>
    ((apply XL.det0F rfl rfl rfl rfl; exact D.assign rfl)) <;>
    (refine XL.nil ?_)) <;> (first | refine Ex.then ?_ | (refine N.next ?_ <;> (refine X.seq ?_ <;> (refine X.text rfl ?_ <;>
    ((apply XL.det0F rfl rfl rfl rfl; exact D.move rfl)) <;>
    ((apply XL.det0F rfl rfl rfl rfl; exact D.move rfl)) <;>
    ((refine XL.call rfl rfl rfl rfl (fun w hw => Cut_spec w px pb cx cb x b hw.rd (rb.conf0 hw) (by omega)) ?_; rintro v B' ⟨py, cy, y, e, rfl, hy, rfl⟩; refine XL.both ?_); obtain ⟨rfl, _, y1, y2, y3⟩ := hy.resolve_right (fun h => h.2.1 ⟨x1, hb⟩)) <;>
    ((apply XL.det0F rfl rfl rfl rfl; exact D.move rfl)) <;>
    ((apply XL.det0F rfl rfl rfl rfl; exact D.extract rfl rfl)) <;>
    ((apply XL.det0F rfl rfl rfl rfl; exact D.extract rfl rfl)) <;>
    ((apply XL.det0F rfl rfl rfl rfl; exact D.assign rfl)) <;>
    ((apply XL.det0F rfl rfl rfl rfl; exact D.assign rfl)) <;>
    (refine XL.nil ?_)) <;> (first | refine Ex.then ?_ | (refine N.next ?_ <;> (refine X.seq ?_ <;> (refine X.text rfl ?_ <;>
    ((apply XL.det0F rfl rfl rfl rfl; exact D.assign rfl)) <;>
    (refine XL.nil ?_)) <;> (first | refine Ex.then ?_ | (refine N.next ?_ <;> (refine X.seq ?_ <;> (refine X.text rfl ?_ <;>
    ((apply XL.det0F rfl rfl rfl rfl; exact D.move rfl)) <;>
    ((apply XL.det0F rfl rfl rfl rfl; exact D.move rfl)) <;>
    ((refine XL.appendR (news := encS b) rfl rfl rfl rfl rfl (fun w hw => rb.conf0 hw) (encS_one b) (by unfold maxLen; omega) (fun _ _ => by infer_instance) (fun a1 c1 => ?_)); rw [Nat.zero_add, List.nil_append]) <;>
    ((apply XL.det0F rfl rfl rfl rfl; exact D.assign rfl)) <;>
    (refine XL.nil ?_)) <;> (first | refine Ex.then ?_ | (refine N.next ?_ <;> (refine X.seq ?_ <;> (refine X.text rfl ?_ <;>
    ((apply XL.det0F rfl rfl rfl rfl; exact D.move rfl)) <;>
    ((apply XL.det0F rfl rfl rfl rfl; exact D.move rfl)) <;>
    ((refine XL.appendR (news := encS a) rfl rfl rfl rfl rfl (fun w hw => ra.conf0 hw) (encS_one a) (by unfold maxLen; omega) (fun _ _ => by infer_instance) (fun a2 c2 => ?_)); rw [encS_app]) <;>
    ((apply XL.det0F rfl rfl rfl rfl; exact D.assign rfl)) <;>
    (refine XL.nil ?_)) <;> (first | refine Ex.then ?_ | (refine N.next ?_ <;> (refine X.seq ?_ <;> (refine X.text rfl ?_ <;>
    ((apply XL.det0F rfl rfl rfl rfl; exact D.move rfl)) <;>
    ((apply XL.det0F rfl rfl rfl rfl; exact D.move rfl)) <;>
    ((refine XL.call rfl rfl rfl rfl (fun w hw => CutN_spec w pl a2 cl (b.length + a.length) c2 l (b ++ a) List.length_append (rl.conf0 hw) hw.rd (by omega)) ?_; rintro v B' ⟨pz, cz, z, e, rfl, hz, rfl⟩; refine XL.both ?_); obtain ⟨rfl, _, z1, z2, z3⟩ := hz.resolve_right (fun h => h.2.1 ⟨hl, may_app hb ha⟩)) <;>
    ((apply XL.det0F rfl rfl rfl rfl; exact D.move rfl)) <;>
    ((apply XL.det0F rfl rfl rfl rfl; exact D.extract rfl rfl)) <;>
    ((apply XL.det0F rfl rfl rfl rfl; exact D.extract rfl rfl)) <;>
    ((apply XL.det0F rfl rfl rfl rfl; exact D.assign rfl)) <;>
    ((apply XL.det0F rfl rfl rfl rfl; exact D.assign rfl)) <;>
    (refine XL.nil ?_)) <;> (first | refine Ex.then ?_ | (refine N.next ?_ <;> (refine X.seq ?_ <;> (refine X.text rfl ?_ <;>
    ((apply XL.det0F rfl rfl rfl rfl; exact D.assign rfl)) <;>
    (refine XL.nil ?_)) <;> (first | refine Ex.then ?_ | (refine N.next ?_ <;> (refine X.seq ?_ <;> (refine X.seq ?_ <;> (refine X.text rfl ?_ <;>
    ((apply XL.det0F rfl rfl rfl rfl; exact D.assign rfl)) <;>
    (refine XL.nil ?_)) <;> (first | refine Ex.then ?_ | (refine N.next ?_ <;> (refine X.block ?_ <;> ((refine X.loop (ι := Nat) (fun i => [(0, .slice pl l.length cl), (8, .int .i64 0), (9, .slice py y.length cy), (10, .int .i64 0), (12, .slice pz z.length cz), (13, .int .i64 0), (14, .int .i64 (cnt (fun t => inB l t) i)), (15, .int .i64 i)]) (fun _ => [own 33 2 (.slice pz z.length cz) z.length (encS z), own 33 2 (.slice py y.length cy) y.length (encS y)]) (fun i => i ≤ 400 ∧ 0 ≤ cnt (fun t => inB l t) i ∧ cnt (fun t => inB l t) i ≤ i) (fun i => 400 - i) (0) ?_ ?_ ?_ ?_; (focus (exact ⟨Nat.zero_le _, by simp [cnt], by simp [cnt]⟩)); (focus (repeat (first | exact Sub.nil | refine Sub.cons rfl ?_))); (focus (exact (fun w h => h.takes))); rintro i ⟨hi, h1, h2⟩) <;> (refine X.seq ?_ <;> (refine X.seq ?_ <;> (refine X.text rfl ?_ <;>
    ((apply XL.det0F rfl rfl rfl rfl; exact D.move rfl)) <;>
    (first | refine XL.splitF rfl rfl rfl rfl (D.int rfl rfl rfl) (fun h3 => ?_) (fun h3 => ?_)) <;>
    (refine XL.nil ?_)) <;> (first | refine Ex.then ?_ | (refine N.next ?_ <;> ((
    refine X.cond rfl ?_ ?_; rotate_left; (focus (
    intro hc; first | exact absurd hc (by decide) | (refine X.exit ?_))); rotate_right; (focus (
    intro hc; first | exact absurd hc (by decide) | (refine X.skip ?_)))))))) <;> (first | refine Ex.then ?_ | (refine N.next ?_ <;> (refine X.seq ?_ <;> (refine X.block ?_ <;> (refine X.seq ?_ <;> (refine X.text rfl ?_ <;>
    ((apply XL.det0F rfl rfl rfl rfl; exact D.move rfl)) <;>
    ((apply XL.det0F rfl rfl rfl rfl; exact D.move rfl)) <;>
    ((refine XL.call rfl rfl rfl rfl (fun w hw => Has_spec w pl l.length cl l (rl.conf0 hw) i) ?_; rintro v B' ⟨b5, rfl, hb5, rfl⟩; refine XL.both ?_); have hbi := has_iff hl hb5; cases b5) <;>
    (refine XL.nil ?_)) <;> (first | refine Ex.then ?_ | (refine N.next ?_ <;> ((
    refine X.cond rfl ?_ ?_; rotate_left; (focus (
    intro hc; first | exact absurd hc (by decide) | (refine X.skip ?_))); rotate_right; (focus (
    intro hc; first | exact absurd hc (by decide) | (refine X.text rfl ?_ <;>
    ((apply XL.det0F rfl rfl rfl rfl; exact D.move rfl)) <;>
    ((apply XL.det0F rfl rfl rfl rfl; exact D.add64 rfl rfl (by omega)); rw [show cnt (fun t => inB l t) i + 1 = cnt (fun t => inB l t) (i + 1) from (by simp only [cnt]; rw [if_pos hbi.symm])]) <;>
    ((apply XL.det0F rfl rfl rfl rfl; exact D.assign rfl)) <;>
    (refine XL.nil ?_))))))))) <;> (first | refine N.block ?_ | refine Ex.here ?_ | refine Ex.out rfl ?_)) <;> (first | refine Ex.then ?_ | (refine N.next ?_ <;> (refine X.text rfl ?_ <;>
    ((first | skip | skip); have hstep : cnt (fun t => inB l t) (i + 1) = cnt (fun t => inB l t) i + (if inB l i = true then 1 else 0) := rfl; rw [← hbi] at hstep; (first | (rw [if_neg (by decide), Int.add_zero] at hstep; rw [← hstep]; (apply XL.det0F rfl rfl rfl rfl; exact D.move rfl)) | (rw [if_pos rfl] at hstep; (apply XL.det0F rfl rfl rfl rfl; exact D.move rfl)))) <;>
    ((apply XL.det0F rfl rfl rfl rfl; first | exact D.add64 rfl rfl (by omega) | exact D.int rfl rfl rfl)) <;>
    ((apply XL.det0F rfl rfl rfl rfl; exact D.assign rfl)) <;>
    (refine XL.nil ?_)))))))) <;> (first | refine Ex.then ?_ | ((refine N.again ((i + 1)) ?_ ?_ ?_ ?_; (focus (exact ⟨by omega, by omega, by omega⟩)); (focus (first | omega | (dsimp only; omega))); (focus (repeat (first | exact Sub.nil | refine Sub.cons rfl ?_))); exact (fun w h => h.takes))))) <;> (first | refine N.block ?_ | refine Ex.here ?_ | refine Ex.out rfl ?_))))) <;> (first | refine Ex.then ?_ | (refine N.next ?_ <;> (refine X.seq ?_ <;> (refine X.text rfl ?_ <;>
    ((apply XL.det0F rfl rfl rfl rfl; exact D.move rfl)) <;>
    (first | refine XL.cmpTF rfl rfl rfl rfl (D.int rfl rfl rfl) (by omega) ?_ | refine XL.cmpFF rfl rfl rfl rfl (D.int rfl rfl rfl) (by omega) ?_ | refine XL.splitF rfl rfl rfl rfl (D.int rfl rfl rfl) (fun _ => ?_) (fun _ => ?_) | refine XL.cmpTF rfl rfl rfl rfl (D.eqS2 rfl rfl) (by omega) ?_ | refine XL.cmpFF rfl rfl rfl rfl (D.eqS2 rfl rfl) (by omega) ?_ | refine XL.splitF rfl rfl rfl rfl (D.eqS2 rfl rfl) (fun _ => ?_) (fun _ => ?_) | (apply XL.det0F rfl rfl rfl rfl; first | exact D.eqNilS rfl rfl | exact D.boolEq rfl rfl)) <;>
    ((apply XL.det0F rfl rfl rfl rfl; exact D.move rfl)) <;>
    (first | refine XL.skipF rfl rfl rfl rfl ?_ | ((apply XL.det0F rfl rfl rfl rfl; exact D.move rfl))) <;>
    (first | refine XL.skipF rfl rfl rfl rfl ?_ | (first | refine XL.cmpTF rfl rfl rfl rfl (D.int rfl rfl rfl) (by omega) ?_ | refine XL.cmpFF rfl rfl rfl rfl (D.int rfl rfl rfl) (by omega) ?_ | refine XL.splitF rfl rfl rfl rfl (D.int rfl rfl rfl) (fun _ => ?_) (fun _ => ?_) | refine XL.cmpTF rfl rfl rfl rfl (D.eqS2 rfl rfl) (by omega) ?_ | refine XL.cmpFF rfl rfl rfl rfl (D.eqS2 rfl rfl) (by omega) ?_ | refine XL.splitF rfl rfl rfl rfl (D.eqS2 rfl rfl) (fun _ => ?_) (fun _ => ?_) | (apply XL.det0F rfl rfl rfl rfl; first | exact D.eqNilS rfl rfl | exact D.boolEq rfl rfl))) <;>
    ((apply XL.det0F rfl rfl rfl rfl; first | exact D.pickT rfl rfl | exact D.pickF rfl rfl | exact D.pick rfl rfl rfl)) <;>
    ((apply XL.det0F rfl rfl rfl rfl; exact D.move rfl)) <;>
    (first | refine XL.skipF rfl rfl rfl rfl ?_ | ((apply XL.det0F rfl rfl rfl rfl; exact D.move rfl))) <;>
    (first | refine XL.skipF rfl rfl rfl rfl ?_ | (first | refine XL.cmpTF rfl rfl rfl rfl (D.int rfl rfl rfl) (by omega) ?_ | refine XL.cmpFF rfl rfl rfl rfl (D.int rfl rfl rfl) (by omega) ?_ | refine XL.splitF rfl rfl rfl rfl (D.int rfl rfl rfl) (fun _ => ?_) (fun _ => ?_) | refine XL.cmpTF rfl rfl rfl rfl (D.eqS2 rfl rfl) (by omega) ?_ | refine XL.cmpFF rfl rfl rfl rfl (D.eqS2 rfl rfl) (by omega) ?_ | refine XL.splitF rfl rfl rfl rfl (D.eqS2 rfl rfl) (fun _ => ?_) (fun _ => ?_) | (apply XL.det0F rfl rfl rfl rfl; first | exact D.eqNilS rfl rfl | exact D.boolEq rfl rfl))) <;>
    ((apply XL.det0F rfl rfl rfl rfl; first | exact D.pickT rfl rfl | exact D.pickF rfl rfl | exact D.pick rfl rfl rfl)) <;>
    ((apply XL.det0F rfl rfl rfl rfl; exact D.move rfl)) <;>
    (first | refine XL.skipF rfl rfl rfl rfl ?_ | ((apply XL.det0F rfl rfl rfl rfl; exact D.move rfl))) <;>
    (first | refine XL.skipF rfl rfl rfl rfl ?_ | ((apply XL.det0F rfl rfl rfl rfl; exact D.move rfl))) <;>
    (first | refine XL.skipF rfl rfl rfl rfl ?_ | ((refine XL.call rfl rfl rfl rfl (fun w hw => Same_spec w py pz cy cz y z hw.rd hw.rd (by omega)) ?_; rintro v B' ⟨rfl, rfl⟩; refine XL.both ?_); rw [decide_eq_true (set_unique y z y1 z1 (fun t => by rw [y2 t, x2 t, z2 t, inS_append]; by_cases q : inS a t <;> simp [q]))])) <;>
    ((apply XL.det0F rfl rfl rfl rfl; first | exact D.pickT rfl rfl | exact D.pickF rfl rfl | exact D.pick rfl rfl rfl)) <;>
    ((apply XL.det0F rfl rfl rfl rfl; exact D.move rfl)) <;>
    (first | refine XL.skipF rfl rfl rfl rfl ?_ | ((apply XL.det0F rfl rfl rfl rfl; exact D.move rfl))) <;>
    (first | refine XL.skipF rfl rfl rfl rfl ?_ | ((apply XL.det0F rfl rfl rfl rfl; exact D.move rfl))) <;>
    (first | refine XL.skipF rfl rfl rfl rfl ?_ | ((refine XL.call rfl rfl rfl rfl (fun w hw => Total_spec w pl cl l (rl.conf0 hw) (by omega)) ?_; rintro v B' ⟨n1, rfl, hn1, rfl⟩; refine XL.both ?_); obtain ⟨_, rfl⟩ := hn1.resolve_right (fun h => h.1 hl); have hq := sum_cnt l hl 400 (fun x hx => hf.1 x hx (hl.mem rfl hx)); (obtain rfl : i = 400 := by omega))) <;>
    (first | refine XL.skipF rfl rfl rfl rfl ?_ | (first | refine XL.cmpTF rfl rfl rfl rfl (D.int rfl rfl rfl) (by omega) ?_ | refine XL.cmpFF rfl rfl rfl rfl (D.int rfl rfl rfl) (by omega) ?_ | refine XL.splitF rfl rfl rfl rfl (D.int rfl rfl rfl) (fun _ => ?_) (fun _ => ?_) | refine XL.cmpTF rfl rfl rfl rfl (D.eqS2 rfl rfl) (by omega) ?_ | refine XL.cmpFF rfl rfl rfl rfl (D.eqS2 rfl rfl) (by omega) ?_ | refine XL.splitF rfl rfl rfl rfl (D.eqS2 rfl rfl) (fun _ => ?_) (fun _ => ?_) | (apply XL.det0F rfl rfl rfl rfl; first | exact D.eqNilS rfl rfl | exact D.boolEq rfl rfl))) <;>
    ((apply XL.det0F rfl rfl rfl rfl; first | exact D.pickT rfl rfl | exact D.pickF rfl rfl | exact D.pick rfl rfl rfl)) <;>
    ((apply XL.det0F rfl rfl rfl rfl; exact D.move rfl)) <;>
    (first | refine XL.skipF rfl rfl rfl rfl ?_ | ((refine XL.call rfl rfl rfl rfl (fun w hw => awake_spec w) ?_; rintro v B' ⟨rfl, rfl⟩; refine XL.both ?_))) <;>
    ((apply XL.det0F rfl rfl rfl rfl; first | exact D.pickT rfl rfl | exact D.pickF rfl rfl | exact D.pick rfl rfl rfl)) <;>
    ((apply XL.det0F rfl rfl rfl rfl; exact D.assign rfl)) <;>
    (refine XL.nil ?_)) <;> (first | refine Ex.then ?_ | (refine N.next ?_ <;> ((refine X.ret ?_; (repeat (first | refine Rt.then ?_ | refine Rt.block ?_ | refine Rt.scope ?_)); apply Rt.done (Res.r1 Try.results8 (RV.tmp rfl)); (focus (exact ⟨rfl, rfl⟩)); exact fun w h => h.takes)))))))))))))))))))))))))))))))))))
end Go.Lx
