/- SpanParts and SpanTwice, walked. -/
import Derived.Test.YtpkchhcedbgfhaaJb
namespace Go.Lx
open Go.Proofs
set_option linter.unusedVariables false
set_option linter.unusedSimpArgs false
set_option maxRecDepth 20000
set_option maxHeartbeats 2000000

theorem encS_app (a b : List Sp) : encS a ++ encS b = encS (a ++ b) := by simp [encS]
theorem CutN_spec (w : World) (a b : Option Addr) (c n d : Nat) (l off : List Sp) (hn : off.length = n) (hl : Rd w 2 a l.length c (encS l)) (ho : Rd w 2 b n d (encS off)) (hbd : l.length + n ≤ 1000000) :
    Spec Try.prog 25 #[.slice a l.length c, .slice b n d] w (fun _ => False) (fun v A => ∃ a' c' o e, v = .tuple #[.slice a' (List.length o) c', .int .i64 e] ∧ ((e = 0 ∧ (SetOK l l.length ∧ ∀ x ∈ off, mayS x) ∧ SetOK o o.length ∧ (∀ t, inS o t ↔ inS l t ∧ ¬ inS off t) ∧ o.length ≤ l.length + n) ∨ (e = 1 ∧ ¬ (SetOK l l.length ∧ ∀ x ∈ off, mayS x) ∧ o = [])) ∧ A = [own 33 2 (.slice a' o.length c') o.length (encS o)]) := by
  subst hn
  exact Cut_spec w a b c d l off hl ho hbd
theorem JoinN2_spec (w : World) (a : Option Addr) (n c : Nat) (l : List Sp) (hn : l.length = n) (hl : Rd w 2 a n c (encS l)) (hbd : n ≤ 1000000) :
    Spec Try.prog 14 #[.slice a n c] w (fun _ => False) (fun v A => ∃ a' c' o e, v = .tuple #[.slice a' (List.length o) c', .int .i64 e] ∧ ((e = 0 ∧ (∀ x ∈ l, mayS x) ∧ SetOK o o.length ∧ (∀ t, inS o t ↔ inS l t) ∧ o.length ≤ n) ∨ (e = 1 ∧ ¬ (∀ x ∈ l, mayS x) ∧ o = [])) ∧ A = [own 33 2 (.slice a' o.length c') o.length (encS o)]) := by
  subst hn
  exact Join_spec w a c l hl hbd
theorem may_app {a b : List Sp} (ha : ∀ x ∈ a, mayS x) (hb : ∀ x ∈ b, mayS x) : ∀ x ∈ a ++ b, mayS x := fun x hx => (List.mem_append.1 hx).elim (ha x) (hb x)

theorem SpanParts_spec (w : World) (pa pb : Option Addr) (ca cb : Nat) (a b : List Sp) (s : Sp) (ra : Rd w 2 pa a.length ca (encS a)) (rb : Rd w 2 pb b.length cb (encS b)) (hbd : a.length ≤ 8796093022208 ∧ b.length ≤ 8796093022208) : Spec Try.prog 9 #[.slice pa a.length ca, .slice pb b.length cb, .agg #[.int .i64 s.1, .int .i64 s.2]] w (fun _ => False) (fun v A => v = .bool true ∧ A = []) := by
  refine Spec.enter (args := [.slice pa a.length ca, .slice pb b.length cb, .agg #[.int .i64 s.1, .int .i64 s.2]]) (A := []) Try.func9 rfl Try.ntmps9 rfl (fun _ h => h) ?_
  refine X.mem (B := [own 33 2 (.slice none 0 0) 0 [], own 33 2 (.slice none 0 0) 0 []]) (fun w h => (h.nilOwn 33 2).nilOwn 33 2) ?_
  (refine X.seq ?_ <;> (refine X.text rfl ?_ <;>
    (first | refine XL.boxN rfl rfl rfl rfl (by intro g; infer_instance) (fun g => ?_) | refine XL.box1 rfl rfl rfl rfl rfl (by intro g; infer_instance) (fun g => ?_)) <;>
    ((apply XL.det0F rfl rfl rfl rfl; exact D.assign rfl)) <;>
    (refine XL.nil ?_)) <;> (first | refine Ex.then ?_ | (refine N.next ?_ <;> (refine X.seq ?_ <;> (refine X.seq ?_ <;> (refine X.text rfl ?_ <;>
    ((apply XL.det0F rfl rfl rfl rfl; exact D.move rfl)) <;>
    ((refine XL.call rfl rfl rfl rfl (fun w hw => refCheck_spec w pa ca a (ra.conf0 hw) (by omega)) ?_; rintro v B' ⟨b1, rfl, hA, rfl⟩; refine XL.both ?_); cases b1) <;>
    ((apply XL.det0F rfl rfl rfl rfl; exact D.not rfl)) <;>
    ((apply XL.det0F rfl rfl rfl rfl; exact D.move rfl)) <;>
    (first | refine XL.skipF rfl rfl rfl rfl ?_ | ((apply XL.det0F rfl rfl rfl rfl; exact D.move rfl))) <;>
    (first | refine XL.skipF rfl rfl rfl rfl ?_ | ((refine XL.call rfl rfl rfl rfl (fun w hw => refCheck_spec w pb cb b (rb.conf0 hw) (by omega)) ?_; rintro v B' ⟨b2, rfl, hB, rfl⟩; refine XL.both ?_); cases b2)) <;>
    (first | refine XL.skipF rfl rfl rfl rfl ?_ | ((apply XL.det0F rfl rfl rfl rfl; exact D.not rfl))) <;>
    ((apply XL.det0F rfl rfl rfl rfl; first | exact D.pickT rfl rfl | exact D.pickF rfl rfl | exact D.pick rfl rfl rfl)) <;>
    ((apply XL.det0F rfl rfl rfl rfl; exact D.move rfl)) <;>
    (first | refine XL.skipF rfl rfl rfl rfl ?_ | ((apply XL.detF rfl rfl rfl rfl; first | exact D.load1 rfl (fun w h => h.cellAt (Loc.at_) rfl) | exact D.loadN rfl rfl (fun w h j u hu => by rw [at_add, Nat.zero_add]; exact h.cellAt (Loc.at_) hu)))) <;>
    (first | refine XL.skipF rfl rfl rfl rfl ?_ | ((refine XL.call rfl rfl rfl rfl (fun w hw => refMay_spec _ _ w) ?_; rintro v B' ⟨rfl, rfl⟩; refine XL.both ?_); (by_cases hm : mayS s <;> first | rw [decide_eq_true hm] | rw [decide_eq_false hm]))) <;>
    (first | refine XL.skipF rfl rfl rfl rfl ?_ | ((apply XL.det0F rfl rfl rfl rfl; exact D.not rfl))) <;>
    ((apply XL.det0F rfl rfl rfl rfl; first | exact D.pickT rfl rfl | exact D.pickF rfl rfl | exact D.pick rfl rfl rfl)) <;>
    ((apply XL.det0F rfl rfl rfl rfl; exact D.move rfl)) <;>
    (first | refine XL.skipF rfl rfl rfl rfl ?_ | ((apply XL.det0F rfl rfl rfl rfl; exact D.move rfl))) <;>
    (first | refine XL.skipF rfl rfl rfl rfl ?_ | ((apply XL.det0F rfl rfl rfl rfl; first | exact D.len rfl | exact D.lenS rfl))) <;>
    (first | refine XL.skipF rfl rfl rfl rfl ?_ | (first | refine XL.cmpTF rfl rfl rfl rfl (D.int rfl rfl rfl) (by omega) ?_ | refine XL.cmpFF rfl rfl rfl rfl (D.int rfl rfl rfl) (by omega) ?_ | refine XL.splitF rfl rfl rfl rfl (D.int rfl rfl rfl) (fun _ => ?_) (fun _ => ?_))) <;>
    ((apply XL.det0F rfl rfl rfl rfl; first | exact D.pickT rfl rfl | exact D.pickF rfl rfl | exact D.pick rfl rfl rfl)) <;>
    ((apply XL.det0F rfl rfl rfl rfl; exact D.move rfl)) <;>
    (first | refine XL.skipF rfl rfl rfl rfl ?_ | ((apply XL.det0F rfl rfl rfl rfl; exact D.move rfl))) <;>
    (first | refine XL.skipF rfl rfl rfl rfl ?_ | ((apply XL.det0F rfl rfl rfl rfl; first | exact D.len rfl | exact D.lenS rfl))) <;>
    (first | refine XL.skipF rfl rfl rfl rfl ?_ | (first | refine XL.cmpTF rfl rfl rfl rfl (D.int rfl rfl rfl) (by omega) ?_ | refine XL.cmpFF rfl rfl rfl rfl (D.int rfl rfl rfl) (by omega) ?_ | refine XL.splitF rfl rfl rfl rfl (D.int rfl rfl rfl) (fun _ => ?_) (fun _ => ?_))) <;>
    ((apply XL.det0F rfl rfl rfl rfl; first | exact D.pickT rfl rfl | exact D.pickF rfl rfl | exact D.pick rfl rfl rfl)) <;>
    (refine XL.nil ?_)) <;> (first | refine Ex.then ?_ | (refine N.next ?_ <;> ((
    refine X.cond rfl ?_ ?_; rotate_left; (focus (
    intro hc; first | exact absurd hc (by decide) | (refine X.skip ?_))); rotate_right; (focus (
    intro hc; first | exact absurd hc (by decide) | (refine X.seq ?_ <;> (refine X.text rfl ?_ <;>
    ((refine XL.call rfl rfl rfl rfl (fun w hw => awake_spec w) ?_; rintro v B' ⟨rfl, rfl⟩; refine XL.both ?_)) <;>
    ((apply XL.det0F rfl rfl rfl rfl; exact D.assign rfl)) <;>
    (refine XL.nil ?_)) <;> (first | refine Ex.then ?_ | (refine N.next ?_ <;> ((refine X.ret ?_; (repeat (first | refine Rt.then ?_ | refine Rt.block ?_ | refine Rt.scope ?_)); apply Rt.done (Res.r1 Try.results9 (RV.tmp rfl)); (focus (exact ⟨rfl, rfl⟩)); exact fun w h => h.takes)))))))))))) <;> (first | refine Ex.then ?_ | (refine N.next ?_ <;> (refine X.seq ?_ <;> (refine X.text rfl ?_ <;>
    (have ha := hA.1 rfl; have hb := hB.1 rfl; have hla : a.length ≤ 1000 := (by omega); have hlb : b.length ≤ 1000 := (by omega); have hone := SetOK.one hm; (apply XL.det0F rfl rfl rfl rfl; exact D.move rfl)) <;>
    ((apply XL.det0F rfl rfl rfl rfl; exact D.move rfl)) <;>
    ((refine XL.call rfl rfl rfl rfl (fun w hw => Cut_spec w pa pb ca cb a b (ra.conf0 hw) (rb.conf0 hw) (by omega)) ?_; rintro v B' ⟨pc, cc, c, e, rfl, hc, rfl⟩; refine XL.both ?_); obtain ⟨rfl, _, c1, c2, c3⟩ := hc.resolve_right (fun h => h.2.1 ⟨ha, fun x hx => hb.mem rfl hx⟩)) <;>
    ((apply XL.det0F rfl rfl rfl rfl; exact D.move rfl)) <;>
    ((apply XL.det0F rfl rfl rfl rfl; exact D.extract rfl rfl)) <;>
    ((apply XL.det0F rfl rfl rfl rfl; exact D.extract rfl rfl)) <;>
    ((apply XL.det0F rfl rfl rfl rfl; exact D.assign rfl)) <;>
    ((apply XL.det0F rfl rfl rfl rfl; exact D.assign rfl)) <;>
    (refine XL.nil ?_)) <;> (first | refine Ex.then ?_ | (refine N.next ?_ <;> (refine X.seq ?_ <;> (refine X.text rfl ?_ <;>
    ((apply XL.det0F rfl rfl rfl rfl; exact D.move rfl)) <;>
    ((apply XL.det0F rfl rfl rfl rfl; exact D.move rfl)) <;>
    ((refine XL.call rfl rfl rfl rfl (fun w hw => Meet_spec w pa pb ca cb a b (ra.conf0 hw) (rb.conf0 hw) (by omega)) ?_; rintro v B' ⟨pm, cm, m, e, rfl, hmm, rfl⟩; refine XL.both ?_); obtain ⟨rfl, _, m1, m2, m3⟩ := hmm.resolve_right (fun h => h.2.1 ⟨ha, hb⟩)) <;>
    ((apply XL.det0F rfl rfl rfl rfl; exact D.move rfl)) <;>
    ((apply XL.det0F rfl rfl rfl rfl; exact D.extract rfl rfl)) <;>
    ((apply XL.det0F rfl rfl rfl rfl; exact D.extract rfl rfl)) <;>
    ((apply XL.det0F rfl rfl rfl rfl; exact D.assign rfl)) <;>
    ((apply XL.det0F rfl rfl rfl rfl; exact D.assign rfl)) <;>
    (refine XL.nil ?_)) <;> (first | refine Ex.then ?_ | (refine N.next ?_ <;> (refine X.seq ?_ <;> (refine X.text rfl ?_ <;>
    ((apply XL.det0F rfl rfl rfl rfl; exact D.move rfl)) <;>
    ((apply XL.det0F rfl rfl rfl rfl; exact D.move rfl)) <;>
    ((refine XL.call rfl rfl rfl rfl (fun w hw => Meet_spec w pb pa cb ca b a (rb.conf0 hw) (ra.conf0 hw) (by omega)) ?_; rintro v B' ⟨pk, ck, k, e, rfl, hk, rfl⟩; refine XL.both ?_); obtain ⟨rfl, _, k1, k2, k3⟩ := hk.resolve_right (fun h => h.2.1 ⟨hb, ha⟩)) <;>
    ((apply XL.det0F rfl rfl rfl rfl; exact D.move rfl)) <;>
    ((apply XL.det0F rfl rfl rfl rfl; exact D.extract rfl rfl)) <;>
    ((apply XL.det0F rfl rfl rfl rfl; exact D.extract rfl rfl)) <;>
    ((apply XL.det0F rfl rfl rfl rfl; exact D.assign rfl)) <;>
    ((apply XL.det0F rfl rfl rfl rfl; exact D.assign rfl)) <;>
    (refine XL.nil ?_)) <;> (first | refine Ex.then ?_ | (refine N.next ?_ <;> (refine X.seq ?_ <;> (refine X.text rfl ?_ <;>
    ((apply XL.det0F rfl rfl rfl rfl; exact D.move rfl)) <;>
    ((apply XL.detF rfl rfl rfl rfl; first | exact D.load1 rfl (fun w h => h.cellAt (Loc.at_) rfl) | exact D.loadN rfl rfl (fun w h j u hu => by rw [at_add, Nat.zero_add]; exact h.cellAt (Loc.at_) hu))) <;>
    ((refine XL.call rfl rfl rfl rfl (fun w hw => Gaps_spec w pa ca a s (ra.conf0 hw) (by omega)) ?_; rintro v B' ⟨pg, cg, g1, e, rfl, hg, rfl⟩; refine XL.both ?_); obtain ⟨rfl, _, g2, g3, g4⟩ := hg.resolve_right (fun h => h.2.1 ⟨ha, hm⟩)) <;>
    ((apply XL.det0F rfl rfl rfl rfl; exact D.move rfl)) <;>
    ((apply XL.det0F rfl rfl rfl rfl; exact D.extract rfl rfl)) <;>
    ((apply XL.det0F rfl rfl rfl rfl; exact D.extract rfl rfl)) <;>
    ((apply XL.det0F rfl rfl rfl rfl; exact D.assign rfl)) <;>
    ((apply XL.det0F rfl rfl rfl rfl; exact D.assign rfl)) <;>
    (refine XL.nil ?_)) <;> (first | refine Ex.then ?_ | (refine N.next ?_ <;> (refine X.seq ?_ <;> (refine X.text rfl ?_ <;>
    ((apply XL.det0F rfl rfl rfl rfl; exact D.move rfl)) <;>
    ((apply XL.detF rfl rfl rfl rfl; first | exact D.load1 rfl (fun w h => h.cellAt (Loc.at_) rfl) | exact D.loadN rfl rfl (fun w h j u hu => by rw [at_add, Nat.zero_add]; exact h.cellAt (Loc.at_) hu))) <;>
    ((refine XL.sliceL valS encS1 [s] (fun _ => rfl) (fun _ => rfl) rfl rfl rfl rfl rfl rfl (fun _ => by infer_instance) (fun gw => ?_)); have hlw : a.length + a.length + ([s] : List Sp).length ≤ 1000000 := (by simp only [List.length_cons, List.length_nil]; omega)) <;>
    ((refine XL.call rfl rfl rfl rfl (fun w hw => Meet_spec w pa _ ca _ a [s] (ra.conf0 hw) hw.rd hlw) ?_; rintro v B' ⟨pv, cv, v, e, rfl, hv, rfl⟩; refine XL.both ?_); obtain ⟨rfl, _, v1, v2, v3⟩ := hv.resolve_right (fun h => h.2.1 ⟨ha, hone⟩)) <;>
    ((apply XL.det0F rfl rfl rfl rfl; exact D.move rfl)) <;>
    ((apply XL.det0F rfl rfl rfl rfl; exact D.extract rfl rfl)) <;>
    ((apply XL.det0F rfl rfl rfl rfl; exact D.extract rfl rfl)) <;>
    ((apply XL.det0F rfl rfl rfl rfl; exact D.assign rfl)) <;>
    ((apply XL.det0F rfl rfl rfl rfl; exact D.assign rfl)) <;>
    (refine XL.nil ?_)) <;> (first | refine Ex.then ?_ | (refine N.next ?_ <;> (refine X.seq ?_ <;> (refine X.seq ?_ <;> (refine X.draw [(.v0, 0), (.v0, 1), (.v0, 2), (.v0, 3), (.v0, 4), (.v0, 5), (.v0, 6), (.v0, 7), (.v0, 8), (.v0, 9), (.v0, 10), (.v0, 11), (.v0, 12), (.v0, 13), (.v0, 14), (.v0, 15), (.v0, 16), (.v0, 17), (.v0, 18), (.v0, 19), (.v0, 20), (.ch, 21), (.v0, 22), (.v0, 23), (.v0, 24), (.v0, 25), (.v0, 27), (.v0, 30), (.ch, 26), (.ch, 28), (.v0, 29), (.ch, 31), (.v0, 32), (.v0, 33), (.v0, 34), (.v0, 35), (.v0, 37), (.v0, 40), (.v1, 41), (.ch, 36), (.ch, 38), (.v0, 39), (.v0, 42), (.v0, 43)] mixed (by kernel_rfl) ?_ <;>
    (have z1 := sumS_nonneg c1; have z2 := sumS_nonneg m1; have z3 := sumS_nonneg ha; have z4 := sumS_nonneg g2; have z5 := sumS_nonneg v1; have v4 : v.length ≤ a.length + a.length + 1 := v3; have q1 := tot_part c1 m1 ha (fun t => ⟨by rw [c2 t, m2 t]; by_cases q : inS b t <;> simp [q], by rw [c2 t, m2 t]; exact fun h => h.1.2 h.2.2⟩); have q2 := tot_part (c := [s]) g2 v1 hone (fun t => ⟨by rw [g3 t, v2 t, inS_one]; by_cases q : inS a t <;> simp [q], by rw [g3 t, v2 t]; exact fun h => h.1.2 h.2.1⟩); have q3 : sumS [s] = s.2 := (by simp [sumS]); (apply XL.det0 rfl rfl rfl rfl; exact D.move rfl)) <;>
    (first | refine XL.cmpT0 rfl rfl rfl rfl (D.int rfl rfl rfl) (by omega) ?_ | refine XL.cmpF0 rfl rfl rfl rfl (D.int rfl rfl rfl) (by omega) ?_ | refine XL.split0 rfl rfl rfl rfl (D.int rfl rfl rfl) (fun _ => ?_) (fun _ => ?_) | refine XL.cmpT0 rfl rfl rfl rfl (D.neS2 rfl rfl) (by omega) ?_ | refine XL.cmpF0 rfl rfl rfl rfl (D.neS2 rfl rfl) (by omega) ?_ | refine XL.split0 rfl rfl rfl rfl (D.neS2 rfl rfl) (fun _ => ?_) (fun _ => ?_) | (apply XL.det0 rfl rfl rfl rfl; first | exact D.neNilS rfl rfl | exact D.boolNe rfl rfl)) <;>
    ((apply XL.det0 rfl rfl rfl rfl; exact D.move rfl)) <;>
    (first | refine XL.skip0 rfl rfl rfl rfl ?_ | ((apply XL.det0 rfl rfl rfl rfl; exact D.move rfl))) <;>
    (first | refine XL.skip0 rfl rfl rfl rfl ?_ | (first | refine XL.cmpT0 rfl rfl rfl rfl (D.int rfl rfl rfl) (by omega) ?_ | refine XL.cmpF0 rfl rfl rfl rfl (D.int rfl rfl rfl) (by omega) ?_ | refine XL.split0 rfl rfl rfl rfl (D.int rfl rfl rfl) (fun _ => ?_) (fun _ => ?_) | refine XL.cmpT0 rfl rfl rfl rfl (D.neS2 rfl rfl) (by omega) ?_ | refine XL.cmpF0 rfl rfl rfl rfl (D.neS2 rfl rfl) (by omega) ?_ | refine XL.split0 rfl rfl rfl rfl (D.neS2 rfl rfl) (fun _ => ?_) (fun _ => ?_) | (apply XL.det0 rfl rfl rfl rfl; first | exact D.neNilS rfl rfl | exact D.boolNe rfl rfl))) <;>
    ((apply XL.det0 rfl rfl rfl rfl; first | exact D.pickT rfl rfl | exact D.pickF rfl rfl | exact D.pick rfl rfl rfl)) <;>
    ((apply XL.det0 rfl rfl rfl rfl; exact D.move rfl)) <;>
    (first | refine XL.skip0 rfl rfl rfl rfl ?_ | ((apply XL.det0 rfl rfl rfl rfl; exact D.move rfl))) <;>
    (first | refine XL.skip0 rfl rfl rfl rfl ?_ | (first | refine XL.cmpT0 rfl rfl rfl rfl (D.int rfl rfl rfl) (by omega) ?_ | refine XL.cmpF0 rfl rfl rfl rfl (D.int rfl rfl rfl) (by omega) ?_ | refine XL.split0 rfl rfl rfl rfl (D.int rfl rfl rfl) (fun _ => ?_) (fun _ => ?_) | refine XL.cmpT0 rfl rfl rfl rfl (D.neS2 rfl rfl) (by omega) ?_ | refine XL.cmpF0 rfl rfl rfl rfl (D.neS2 rfl rfl) (by omega) ?_ | refine XL.split0 rfl rfl rfl rfl (D.neS2 rfl rfl) (fun _ => ?_) (fun _ => ?_) | (apply XL.det0 rfl rfl rfl rfl; first | exact D.neNilS rfl rfl | exact D.boolNe rfl rfl))) <;>
    ((apply XL.det0 rfl rfl rfl rfl; first | exact D.pickT rfl rfl | exact D.pickF rfl rfl | exact D.pick rfl rfl rfl)) <;>
    ((apply XL.det0 rfl rfl rfl rfl; exact D.move rfl)) <;>
    (first | refine XL.skip0 rfl rfl rfl rfl ?_ | ((apply XL.det0 rfl rfl rfl rfl; exact D.move rfl))) <;>
    (first | refine XL.skip0 rfl rfl rfl rfl ?_ | (first | refine XL.cmpT0 rfl rfl rfl rfl (D.int rfl rfl rfl) (by omega) ?_ | refine XL.cmpF0 rfl rfl rfl rfl (D.int rfl rfl rfl) (by omega) ?_ | refine XL.split0 rfl rfl rfl rfl (D.int rfl rfl rfl) (fun _ => ?_) (fun _ => ?_) | refine XL.cmpT0 rfl rfl rfl rfl (D.neS2 rfl rfl) (by omega) ?_ | refine XL.cmpF0 rfl rfl rfl rfl (D.neS2 rfl rfl) (by omega) ?_ | refine XL.split0 rfl rfl rfl rfl (D.neS2 rfl rfl) (fun _ => ?_) (fun _ => ?_) | (apply XL.det0 rfl rfl rfl rfl; first | exact D.neNilS rfl rfl | exact D.boolNe rfl rfl))) <;>
    ((apply XL.det0 rfl rfl rfl rfl; first | exact D.pickT rfl rfl | exact D.pickF rfl rfl | exact D.pick rfl rfl rfl)) <;>
    ((apply XL.det0 rfl rfl rfl rfl; exact D.move rfl)) <;>
    (first | refine XL.skip0 rfl rfl rfl rfl ?_ | ((apply XL.det0 rfl rfl rfl rfl; exact D.move rfl))) <;>
    (first | refine XL.skip0 rfl rfl rfl rfl ?_ | (first | refine XL.cmpT0 rfl rfl rfl rfl (D.int rfl rfl rfl) (by omega) ?_ | refine XL.cmpF0 rfl rfl rfl rfl (D.int rfl rfl rfl) (by omega) ?_ | refine XL.split0 rfl rfl rfl rfl (D.int rfl rfl rfl) (fun _ => ?_) (fun _ => ?_) | refine XL.cmpT0 rfl rfl rfl rfl (D.neS2 rfl rfl) (by omega) ?_ | refine XL.cmpF0 rfl rfl rfl rfl (D.neS2 rfl rfl) (by omega) ?_ | refine XL.split0 rfl rfl rfl rfl (D.neS2 rfl rfl) (fun _ => ?_) (fun _ => ?_) | (apply XL.det0 rfl rfl rfl rfl; first | exact D.neNilS rfl rfl | exact D.boolNe rfl rfl))) <;>
    ((apply XL.det0 rfl rfl rfl rfl; first | exact D.pickT rfl rfl | exact D.pickF rfl rfl | exact D.pick rfl rfl rfl)) <;>
    ((apply XL.det0 rfl rfl rfl rfl; exact D.move rfl)) <;>
    (first | refine XL.skip0 rfl rfl rfl rfl ?_ | ((apply XL.det0 rfl rfl rfl rfl; exact D.move rfl))) <;>
    (first | refine XL.skip0 rfl rfl rfl rfl ?_ | ((apply XL.det0 rfl rfl rfl rfl; exact D.move rfl))) <;>
    (first | refine XL.skipC rfl rfl rfl rfl ?_ | ((refine XL.call rfl rfl rfl rfl (fun w hw => Same_spec w pm pk cm ck m k hw.rd hw.rd (by omega)) ?_; rintro v B' ⟨rfl, rfl⟩; refine XL.both ?_); rw [decide_eq_true (set_unique m k m1 k1 (fun t => by rw [m2 t, k2 t, and_comm]))])) <;>
    (first | refine XL.skip0 rfl rfl rfl rfl ?_ | ((apply XL.det0 rfl rfl rfl rfl; exact D.not rfl))) <;>
    ((apply XL.det0 rfl rfl rfl rfl; first | exact D.pickT rfl rfl | exact D.pickF rfl rfl | exact D.pick rfl rfl rfl)) <;>
    ((apply XL.det0 rfl rfl rfl rfl; exact D.move rfl)) <;>
    (first | refine XL.skip0 rfl rfl rfl rfl ?_ | ((apply XL.det0 rfl rfl rfl rfl; exact D.move rfl))) <;>
    (first | refine XL.skip0 rfl rfl rfl rfl ?_ | ((apply XL.det0 rfl rfl rfl rfl; exact D.move rfl))) <;>
    (first | refine XL.skip0 rfl rfl rfl rfl ?_ | ((apply XL.det0 rfl rfl rfl rfl; exact D.move rfl))) <;>
    (first | refine XL.skipC rfl rfl rfl rfl ?_ | ((refine XL.call rfl rfl rfl rfl (fun w hw => Total_spec w pc cc c hw.rd (by omega)) ?_; rintro v B' ⟨n1, rfl, hn1, rfl⟩; refine XL.both ?_); obtain ⟨_, rfl⟩ := hn1.resolve_right (fun h => h.1 c1))) <;>
    (first | refine XL.skipC rfl rfl rfl rfl ?_ | ((refine XL.call rfl rfl rfl rfl (fun w hw => Total_spec w pm cm m hw.rd (by omega)) ?_; rintro v B' ⟨n1, rfl, hn1, rfl⟩; refine XL.both ?_); obtain ⟨_, rfl⟩ := hn1.resolve_right (fun h => h.1 m1))) <;>
    (first | refine XL.skip0 rfl rfl rfl rfl ?_ | ((apply XL.det0 rfl rfl rfl rfl; first | exact D.add64 rfl rfl (by omega) | exact D.int rfl rfl rfl))) <;>
    (first | refine XL.skipC rfl rfl rfl rfl ?_ | ((refine XL.call rfl rfl rfl rfl (fun w hw => Total_spec w pa ca a (ra.conf0 hw) (by omega)) ?_; rintro v B' ⟨n1, rfl, hn1, rfl⟩; refine XL.both ?_); obtain ⟨_, rfl⟩ := hn1.resolve_right (fun h => h.1 ha))) <;>
    (first | refine XL.skip0 rfl rfl rfl rfl ?_ | (first | refine XL.cmpT0 rfl rfl rfl rfl (D.int rfl rfl rfl) (by omega) ?_ | refine XL.cmpF0 rfl rfl rfl rfl (D.int rfl rfl rfl) (by omega) ?_ | refine XL.split0 rfl rfl rfl rfl (D.int rfl rfl rfl) (fun _ => ?_) (fun _ => ?_) | refine XL.cmpT0 rfl rfl rfl rfl (D.neS2 rfl rfl) (by omega) ?_ | refine XL.cmpF0 rfl rfl rfl rfl (D.neS2 rfl rfl) (by omega) ?_ | refine XL.split0 rfl rfl rfl rfl (D.neS2 rfl rfl) (fun _ => ?_) (fun _ => ?_) | (apply XL.det0 rfl rfl rfl rfl; first | exact D.neNilS rfl rfl | exact D.boolNe rfl rfl))) <;>
    ((apply XL.det0 rfl rfl rfl rfl; first | exact D.pickT rfl rfl | exact D.pickF rfl rfl | exact D.pick rfl rfl rfl)) <;>
    ((apply XL.det0 rfl rfl rfl rfl; exact D.move rfl)) <;>
    (first | refine XL.skip0 rfl rfl rfl rfl ?_ | ((apply XL.det0 rfl rfl rfl rfl; exact D.move rfl))) <;>
    (first | refine XL.skip0 rfl rfl rfl rfl ?_ | ((apply XL.det0 rfl rfl rfl rfl; exact D.move rfl))) <;>
    (first | refine XL.skip0 rfl rfl rfl rfl ?_ | ((apply XL.det0 rfl rfl rfl rfl; first | exact D.fieldAddrB rfl rfl | exact D.fieldAddrE rfl rfl))) <;>
    (first | refine XL.skip1 rfl rfl rfl rfl ?_ | ((apply XL.det1 rfl rfl rfl rfl; first | exact D.load1 rfl (fun w h => h.cellAt (Loc.at_) rfl) | exact D.loadN rfl rfl (fun w h j u hu => by rw [at_add, Nat.zero_add]; exact h.cellAt (Loc.at_) hu)))) <;>
    (first | refine XL.skipC rfl rfl rfl rfl ?_ | ((refine XL.call rfl rfl rfl rfl (fun w hw => Total_spec w pg cg g1 hw.rd (by omega)) ?_; rintro v B' ⟨n1, rfl, hn1, rfl⟩; refine XL.both ?_); obtain ⟨_, rfl⟩ := hn1.resolve_right (fun h => h.1 g2))) <;>
    (first | refine XL.skipC rfl rfl rfl rfl ?_ | ((refine XL.call rfl rfl rfl rfl (fun w hw => Total_spec w pv cv v hw.rd (by omega)) ?_; rintro v B' ⟨n1, rfl, hn1, rfl⟩; refine XL.both ?_); obtain ⟨_, rfl⟩ := hn1.resolve_right (fun h => h.1 v1))) <;>
    (first | refine XL.skip0 rfl rfl rfl rfl ?_ | ((apply XL.det0 rfl rfl rfl rfl; first | exact D.add64 rfl rfl (by omega) | exact D.int rfl rfl rfl))) <;>
    (first | refine XL.skip0 rfl rfl rfl rfl ?_ | (first | refine XL.cmpT0 rfl rfl rfl rfl (D.int rfl rfl rfl) (by omega) ?_ | refine XL.cmpF0 rfl rfl rfl rfl (D.int rfl rfl rfl) (by omega) ?_ | refine XL.split0 rfl rfl rfl rfl (D.int rfl rfl rfl) (fun _ => ?_) (fun _ => ?_) | refine XL.cmpT0 rfl rfl rfl rfl (D.neS2 rfl rfl) (by omega) ?_ | refine XL.cmpF0 rfl rfl rfl rfl (D.neS2 rfl rfl) (by omega) ?_ | refine XL.split0 rfl rfl rfl rfl (D.neS2 rfl rfl) (fun _ => ?_) (fun _ => ?_) | (apply XL.det0 rfl rfl rfl rfl; first | exact D.neNilS rfl rfl | exact D.boolNe rfl rfl))) <;>
    ((apply XL.det0 rfl rfl rfl rfl; first | exact D.pickT rfl rfl | exact D.pickF rfl rfl | exact D.pick rfl rfl rfl)) <;>
    (refine XL.nil ?_)) <;> (first | refine Ex.then ?_ | (refine N.next ?_ <;> ((
    refine X.cond rfl ?_ ?_; rotate_left; (focus (
    intro hc; first | exact absurd hc (by decide) | (refine X.skip ?_))); rotate_right; (focus (
    intro hc; first | exact absurd hc (by decide) | (refine X.seq ?_ <;> (refine X.text rfl ?_ <;>
    ((apply XL.det0F rfl rfl rfl rfl; exact D.assign rfl)) <;>
    (refine XL.nil ?_)) <;> (first | refine Ex.then ?_ | (refine N.next ?_ <;> ((refine X.ret ?_; (repeat (first | refine Rt.then ?_ | refine Rt.block ?_ | refine Rt.scope ?_)); apply Rt.done (Res.r1 Try.results9 (RV.tmp rfl)); (focus (exact ⟨rfl, rfl⟩)); exact fun w h => h.takes)))))))))))) <;> (first | refine Ex.then ?_ | (refine N.next ?_ <;> (refine X.seq ?_ <;> (refine X.text rfl ?_ <;>
    ((apply XL.det0F rfl rfl rfl rfl; exact D.assign rfl)) <;>
    (refine XL.nil ?_)) <;> (first | refine Ex.then ?_ | (refine N.next ?_ <;> (refine X.seq ?_ <;> (refine X.text rfl ?_ <;>
    ((apply XL.det0F rfl rfl rfl rfl; exact D.move rfl)) <;>
    ((apply XL.det0F rfl rfl rfl rfl; exact D.move rfl)) <;>
    ((refine XL.appendR (news := encS c) rfl rfl rfl rfl rfl (fun w hw => hw.rd) (encS_one c) (by unfold maxLen; omega) (fun _ _ => by infer_instance) (fun a1 c1' => ?_)); rw [Nat.zero_add, List.nil_append]) <;>
    ((apply XL.det0F rfl rfl rfl rfl; exact D.assign rfl)) <;>
    (refine XL.nil ?_)) <;> (first | refine Ex.then ?_ | (refine N.next ?_ <;> (refine X.seq ?_ <;> (refine X.text rfl ?_ <;>
    ((apply XL.det0F rfl rfl rfl rfl; exact D.move rfl)) <;>
    ((apply XL.det0F rfl rfl rfl rfl; exact D.move rfl)) <;>
    ((refine XL.appendR (news := encS m) rfl rfl rfl rfl rfl (fun w hw => hw.rd) (encS_one m) (by unfold maxLen; omega) (fun _ _ => by infer_instance) (fun a2 c2' => ?_)); rw [encS_app]) <;>
    ((apply XL.det0F rfl rfl rfl rfl; exact D.assign rfl)) <;>
    (refine XL.nil ?_)) <;> (first | refine Ex.then ?_ | (refine N.next ?_ <;> (refine X.seq ?_ <;> (refine X.text rfl ?_ <;>
    ((apply XL.det0F rfl rfl rfl rfl; exact D.move rfl)) <;>
    ((refine XL.call rfl rfl rfl rfl (fun w hw => JoinN2_spec w a2 (c.length + m.length) c2' (c ++ m) List.length_append hw.rd (by omega)) ?_; rintro v B' ⟨px, cx, x, e, rfl, hx, rfl⟩; refine XL.both ?_); obtain ⟨rfl, _, x1, x2, x3⟩ := hx.resolve_right (fun h => h.2.1 (may_app (fun x hx => c1.mem rfl hx) (fun x hx => m1.mem rfl hx)))) <;>
    ((apply XL.det0F rfl rfl rfl rfl; exact D.move rfl)) <;>
    ((apply XL.det0F rfl rfl rfl rfl; exact D.extract rfl rfl)) <;>
    ((apply XL.det0F rfl rfl rfl rfl; exact D.extract rfl rfl)) <;>
    ((apply XL.det0F rfl rfl rfl rfl; exact D.assign rfl)) <;>
    ((apply XL.det0F rfl rfl rfl rfl; exact D.assign rfl)) <;>
    (refine XL.nil ?_)) <;> (first | refine Ex.then ?_ | (refine N.next ?_ <;> (refine X.seq ?_ <;> (refine X.text rfl ?_ <;>
    ((apply XL.det0F rfl rfl rfl rfl; exact D.assign rfl)) <;>
    (refine XL.nil ?_)) <;> (first | refine Ex.then ?_ | (refine N.next ?_ <;> (refine X.seq ?_ <;> (refine X.text rfl ?_ <;>
    ((apply XL.det0F rfl rfl rfl rfl; exact D.move rfl)) <;>
    ((apply XL.det0F rfl rfl rfl rfl; exact D.move rfl)) <;>
    ((refine XL.appendR (news := encS v) rfl rfl rfl rfl rfl (fun w hw => hw.rd) (encS_one v) (by unfold maxLen; omega) (fun _ _ => by infer_instance) (fun a3 c3' => ?_)); rw [Nat.zero_add, List.nil_append]) <;>
    ((apply XL.det0F rfl rfl rfl rfl; exact D.assign rfl)) <;>
    (refine XL.nil ?_)) <;> (first | refine Ex.then ?_ | (refine N.next ?_ <;> (refine X.seq ?_ <;> (refine X.text rfl ?_ <;>
    ((apply XL.det0F rfl rfl rfl rfl; exact D.move rfl)) <;>
    ((apply XL.det0F rfl rfl rfl rfl; exact D.move rfl)) <;>
    ((refine XL.appendR (news := encS g1) rfl rfl rfl rfl rfl (fun w hw => hw.rd) (encS_one g1) (by unfold maxLen; omega) (fun _ _ => by infer_instance) (fun a4 c4' => ?_)); rw [encS_app]) <;>
    ((apply XL.det0F rfl rfl rfl rfl; exact D.assign rfl)) <;>
    (refine XL.nil ?_)) <;> (first | refine Ex.then ?_ | (refine N.next ?_ <;> (refine X.seq ?_ <;> (refine X.text rfl ?_ <;>
    ((apply XL.det0F rfl rfl rfl rfl; exact D.move rfl)) <;>
    ((refine XL.call rfl rfl rfl rfl (fun w hw => JoinN2_spec w a4 (v.length + g1.length) c4' (v ++ g1) List.length_append hw.rd (by omega)) ?_; rintro v B' ⟨py, cy, y, e, rfl, hy, rfl⟩; refine XL.both ?_); obtain ⟨rfl, _, y1, y2, y3⟩ := hy.resolve_right (fun h => h.2.1 (may_app (fun x hx => v1.mem rfl hx) (fun x hx => g2.mem rfl hx)))) <;>
    ((apply XL.det0F rfl rfl rfl rfl; exact D.move rfl)) <;>
    ((apply XL.det0F rfl rfl rfl rfl; exact D.extract rfl rfl)) <;>
    ((apply XL.det0F rfl rfl rfl rfl; exact D.extract rfl rfl)) <;>
    ((apply XL.det0F rfl rfl rfl rfl; exact D.assign rfl)) <;>
    ((apply XL.det0F rfl rfl rfl rfl; exact D.assign rfl)) <;>
    (refine XL.nil ?_)) <;> (first | refine Ex.then ?_ | (refine N.next ?_ <;> (refine X.seq ?_ <;> (refine X.text rfl ?_ <;>
    ((apply XL.det0F rfl rfl rfl rfl; exact D.move rfl)) <;>
    ((apply XL.det0F rfl rfl rfl rfl; exact D.move rfl)) <;>
    ((refine XL.call rfl rfl rfl rfl (fun w hw => Meet_spec w pc pb cc cb c b hw.rd (rb.conf0 hw) (by omega)) ?_; rintro v B' ⟨pz, cz, z, e, rfl, hz, rfl⟩; refine XL.both ?_); obtain ⟨rfl, _, u1, u2, u3⟩ := hz.resolve_right (fun h => h.2.1 ⟨c1, hb⟩); have hz0 : z.length = 0 := (by rw [set_unique z [] u1 (SetOK.nil 0) (fun t => by rw [u2 t, c2 t]; exact ⟨fun h => absurd h.2 h.1.2, fun h => absurd h (inS_nil t)⟩)]; rfl)) <;>
    ((apply XL.det0F rfl rfl rfl rfl; exact D.move rfl)) <;>
    ((apply XL.det0F rfl rfl rfl rfl; exact D.extract rfl rfl)) <;>
    ((apply XL.det0F rfl rfl rfl rfl; exact D.extract rfl rfl)) <;>
    ((apply XL.det0F rfl rfl rfl rfl; exact D.assign rfl)) <;>
    ((apply XL.det0F rfl rfl rfl rfl; exact D.assign rfl)) <;>
    (refine XL.nil ?_)) <;> (first | refine Ex.then ?_ | (refine N.next ?_ <;> (refine X.seq ?_ <;> (refine X.text rfl ?_ <;>
    ((apply XL.det0F rfl rfl rfl rfl; exact D.move rfl)) <;>
    (first | refine XL.cmpTF rfl rfl rfl rfl (D.int rfl rfl rfl) (by omega) ?_ | refine XL.cmpFF rfl rfl rfl rfl (D.int rfl rfl rfl) (by omega) ?_ | refine XL.splitF rfl rfl rfl rfl (D.int rfl rfl rfl) (fun _ => ?_) (fun _ => ?_) | refine XL.cmpTF rfl rfl rfl rfl (D.eqS2 rfl rfl) (by omega) ?_ | refine XL.cmpFF rfl rfl rfl rfl (D.eqS2 rfl rfl) (by omega) ?_ | refine XL.splitF rfl rfl rfl rfl (D.eqS2 rfl rfl) (fun _ => ?_) (fun _ => ?_) | (apply XL.det0F rfl rfl rfl rfl; first | exact D.eqNilS rfl rfl | exact D.boolEq rfl rfl)) <;>
    ((apply XL.det0F rfl rfl rfl rfl; exact D.move rfl)) <;>
    (first | refine XL.skipF rfl rfl rfl rfl ?_ | ((apply XL.det0F rfl rfl rfl rfl; exact D.move rfl))) <;>
    (first | refine XL.skipF rfl rfl rfl rfl ?_ | (first | refine XL.cmpTF rfl rfl rfl rfl (D.int rfl rfl rfl) (by omega) ?_ | refine XL.cmpFF rfl rfl rfl rfl (D.int rfl rfl rfl) (by omega) ?_ | refine XL.splitF rfl rfl rfl rfl (D.int rfl rfl rfl) (fun _ => ?_) (fun _ => ?_) | refine XL.cmpTF rfl rfl rfl rfl (D.eqS2 rfl rfl) (by omega) ?_ | refine XL.cmpFF rfl rfl rfl rfl (D.eqS2 rfl rfl) (by omega) ?_ | refine XL.splitF rfl rfl rfl rfl (D.eqS2 rfl rfl) (fun _ => ?_) (fun _ => ?_) | (apply XL.det0F rfl rfl rfl rfl; first | exact D.eqNilS rfl rfl | exact D.boolEq rfl rfl))) <;>
    ((apply XL.det0F rfl rfl rfl rfl; first | exact D.pickT rfl rfl | exact D.pickF rfl rfl | exact D.pick rfl rfl rfl)) <;>
    ((apply XL.det0F rfl rfl rfl rfl; exact D.move rfl)) <;>
    (first | refine XL.skipF rfl rfl rfl rfl ?_ | ((apply XL.det0F rfl rfl rfl rfl; exact D.move rfl))) <;>
    (first | refine XL.skipF rfl rfl rfl rfl ?_ | (first | refine XL.cmpTF rfl rfl rfl rfl (D.int rfl rfl rfl) (by omega) ?_ | refine XL.cmpFF rfl rfl rfl rfl (D.int rfl rfl rfl) (by omega) ?_ | refine XL.splitF rfl rfl rfl rfl (D.int rfl rfl rfl) (fun _ => ?_) (fun _ => ?_) | refine XL.cmpTF rfl rfl rfl rfl (D.eqS2 rfl rfl) (by omega) ?_ | refine XL.cmpFF rfl rfl rfl rfl (D.eqS2 rfl rfl) (by omega) ?_ | refine XL.splitF rfl rfl rfl rfl (D.eqS2 rfl rfl) (fun _ => ?_) (fun _ => ?_) | (apply XL.det0F rfl rfl rfl rfl; first | exact D.eqNilS rfl rfl | exact D.boolEq rfl rfl))) <;>
    ((apply XL.det0F rfl rfl rfl rfl; first | exact D.pickT rfl rfl | exact D.pickF rfl rfl | exact D.pick rfl rfl rfl)) <;>
    ((apply XL.det0F rfl rfl rfl rfl; exact D.move rfl)) <;>
    (first | refine XL.skipF rfl rfl rfl rfl ?_ | ((apply XL.det0F rfl rfl rfl rfl; exact D.move rfl))) <;>
    (first | refine XL.skipF rfl rfl rfl rfl ?_ | ((apply XL.det0F rfl rfl rfl rfl; exact D.move rfl))) <;>
    (first | refine XL.skipF rfl rfl rfl rfl ?_ | ((refine XL.call rfl rfl rfl rfl (fun w hw => Same_spec w px pa cx ca x a hw.rd (ra.conf0 hw) (by omega)) ?_; rintro v B' ⟨rfl, rfl⟩; refine XL.both ?_); rw [decide_eq_true (set_unique x a x1 ha (fun t => by rw [x2 t, inS_append, c2 t, m2 t]; by_cases q : inS b t <;> simp [q]))])) <;>
    ((apply XL.det0F rfl rfl rfl rfl; first | exact D.pickT rfl rfl | exact D.pickF rfl rfl | exact D.pick rfl rfl rfl)) <;>
    ((apply XL.det0F rfl rfl rfl rfl; exact D.move rfl)) <;>
    (first | refine XL.skipF rfl rfl rfl rfl ?_ | ((apply XL.det0F rfl rfl rfl rfl; exact D.move rfl))) <;>
    (first | refine XL.skipF rfl rfl rfl rfl ?_ | ((apply XL.detF rfl rfl rfl rfl; first | exact D.load1 rfl (fun w h => h.cellAt (Loc.at_) rfl) | exact D.loadN rfl rfl (fun w h j u hu => by rw [at_add, Nat.zero_add]; exact h.cellAt (Loc.at_) hu)))) <;>
    (first | refine XL.skipF rfl rfl rfl rfl ?_ | ((refine XL.sliceL valS encS1 [s] (fun _ => rfl) (fun _ => rfl) rfl rfl rfl rfl rfl rfl (fun _ => by infer_instance) (fun gw2 => ?_)))) <;>
    (first | refine XL.skipF rfl rfl rfl rfl ?_ | ((refine XL.call rfl rfl rfl rfl (fun w hw => Same_spec w py _ cy _ y [s] hw.rd (hw.rd (a := some ⟨gw2, 0, none⟩)) (by omega)) ?_; rintro v B' ⟨rfl, rfl⟩; refine XL.both ?_); rw [decide_eq_true (set_unique y [s] y1 hone (fun t => by rw [y2 t, inS_append, v2 t, g3 t, inS_one]; by_cases q : inS a t <;> simp [q]))])) <;>
    ((apply XL.det0F rfl rfl rfl rfl; first | exact D.pickT rfl rfl | exact D.pickF rfl rfl | exact D.pick rfl rfl rfl)) <;>
    ((apply XL.det0F rfl rfl rfl rfl; exact D.move rfl)) <;>
    (first | refine XL.skipF rfl rfl rfl rfl ?_ | ((apply XL.det0F rfl rfl rfl rfl; exact D.move rfl))) <;>
    (first | refine XL.skipF rfl rfl rfl rfl ?_ | ((apply XL.det0F rfl rfl rfl rfl; first | exact D.len rfl | exact D.lenS rfl))) <;>
    (first | refine XL.skipF rfl rfl rfl rfl ?_ | (first | refine XL.cmpTF rfl rfl rfl rfl (D.int rfl rfl rfl) (by omega) ?_ | refine XL.cmpFF rfl rfl rfl rfl (D.int rfl rfl rfl) (by omega) ?_ | refine XL.splitF rfl rfl rfl rfl (D.int rfl rfl rfl) (fun _ => ?_) (fun _ => ?_) | refine XL.cmpTF rfl rfl rfl rfl (D.eqS2 rfl rfl) (by omega) ?_ | refine XL.cmpFF rfl rfl rfl rfl (D.eqS2 rfl rfl) (by omega) ?_ | refine XL.splitF rfl rfl rfl rfl (D.eqS2 rfl rfl) (fun _ => ?_) (fun _ => ?_) | (apply XL.det0F rfl rfl rfl rfl; first | exact D.eqNilS rfl rfl | exact D.boolEq rfl rfl))) <;>
    ((apply XL.det0F rfl rfl rfl rfl; first | exact D.pickT rfl rfl | exact D.pickF rfl rfl | exact D.pick rfl rfl rfl)) <;>
    ((apply XL.det0F rfl rfl rfl rfl; exact D.move rfl)) <;>
    (first | refine XL.skipF rfl rfl rfl rfl ?_ | ((refine XL.call rfl rfl rfl rfl (fun w hw => awake_spec w) ?_; rintro v B' ⟨rfl, rfl⟩; refine XL.both ?_))) <;>
    ((apply XL.det0F rfl rfl rfl rfl; first | exact D.pickT rfl rfl | exact D.pickF rfl rfl | exact D.pick rfl rfl rfl)) <;>
    ((apply XL.det0F rfl rfl rfl rfl; exact D.assign rfl)) <;>
    (refine XL.nil ?_)) <;> (first | refine Ex.then ?_ | (refine N.next ?_ <;> ((refine X.ret ?_; (repeat (first | refine Rt.then ?_ | refine Rt.block ?_ | refine Rt.scope ?_)); apply Rt.done (Res.r1 Try.results9 (RV.tmp rfl)); (focus (exact ⟨rfl, rfl⟩)); exact fun w h => h.takes))))))))))))))))))))))))))))))))))))))))))))))))))))))))
end Go.Lx
