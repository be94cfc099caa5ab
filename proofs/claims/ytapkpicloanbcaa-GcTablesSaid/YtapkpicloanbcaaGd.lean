/- Package gc's walks: orphans; the document's orphans and victims; helpers. -/
import Derived.Test.YtapkpicloanbcaaGc
import Derived.Test.YtapkpicloanbcaaGp
import Derived.Test.YtapkpicloanbcaaSq
namespace Go.Lx
open Go.Proofs
set_option linter.unusedVariables false
set_option linter.unusedSimpArgs false
set_option maxRecDepth 20000
set_option maxHeartbeats 4000000

theorem IndexI_spec (w : World) (a : Option Addr) (c : Nat) (l : List Int) (n : Int) (hl : Rd w 1 a l.length c (encN l)) : Spec Try.prog 47 #[.slice a l.length c, .int .i64 n] w (fun _ => False) (fun v A => ∃ r : Int, v = .int .i64 r ∧ (0 ≤ r ↔ n ∈ l) ∧ A = []) := by
  have hb := hl.bd'
  refine Spec.enter (args := [.slice a l.length c, .int .i64 n]) (A := []) Try.func47 rfl Try.ntmps47 rfl (fun _ h => h) ?_
  (refine X.seq ?_ <;> (refine X.text (L := (.op .fin 0 .nil)) rfl ?_ <;>
    ((apply XL.det0F rfl rfl rfl rfl; exact D.assign rfl)) <;>
    (refine XL.nil ?_)) <;> (first | refine Ex.then ?_ | (refine N.next ?_ <;> (refine X.seq ?_ <;> (refine X.seq ?_ <;> (refine X.text (L := (.op .fin 0 (.op .fin 1 (.op .fin 2 .nil)))) rfl ?_ <;>
    ((apply XL.det0F rfl rfl rfl rfl; exact D.move rfl)) <;>
    ((apply XL.det0F rfl rfl rfl rfl; first | exact D.len rfl | exact D.lenS rfl)) <;>
    ((apply XL.det0F rfl rfl rfl rfl; exact D.move rfl)) <;>
    (refine XL.nil ?_)) <;> (first | refine Ex.then ?_ | (refine N.next ?_ <;> (refine X.block ?_ <;> ((refine X.loop (ι := Nat) (fun i => [(0, .slice a l.length c), (1, .int .i64 n), (6, .slice a l.length c), (7, .int .i64 l.length), (8, .int .i64 i)]) (fun _ => []) (fun i => i ≤ l.length ∧ ∀ j x, j < i → l[j]? = some x → x ≠ n) (fun i => l.length - i) (0) ?_ ?_ ?_ ?_; (focus (exact ⟨Nat.zero_le _, fun j x hj => by omega⟩)); (focus (repeat (first | exact Sub.nil | refine Sub.cons rfl ?_))); (focus (exact (fun w h => h.takes))); rintro i ⟨hi, hno⟩) <;> (refine X.seq ?_ <;> (refine X.text (L := (.op .fin 0 .nil)) rfl ?_ <;>
    (first | refine XL.splitF rfl rfl rfl rfl (D.int rfl rfl rfl) (fun h0 => ?_) (fun h0 => ?_)) <;>
    (refine XL.nil ?_)) <;> (first | refine Ex.then ?_ | (refine N.next ?_ <;> (refine X.seq ?_ <;> ((
    refine X.cond rfl ?_ ?_; rotate_left; (focus (
    intro hc; first | exact absurd hc (by decide) | (cases hc; done) | (refine X.exit ?_))); rotate_right; (focus (
    intro hc; first | exact absurd hc (by decide) | (cases hc; done) | (refine X.skip ?_))))) <;> (first | refine Ex.then ?_ | (refine N.next ?_ <;> (refine X.seq ?_ <;> (refine X.block ?_ <;> (refine X.seq ?_ <;> (refine X.text (L := (.op .fin 0 (.op .fin 1 .nil))) rfl ?_ <;>
    ((apply XL.det0F rfl rfl rfl rfl; exact D.move rfl)) <;>
    ((apply XL.det0F rfl rfl rfl rfl; exact D.assign rfl)) <;>
    (refine XL.nil ?_)) <;> (first | refine Ex.then ?_ | (refine N.next ?_ <;> (refine X.seq ?_ <;> (refine X.text (L := (.op .fin 0 (.op .fin 1 (.op .fin 2 (.op .fin 3 (.op .fin 4 (.op .fin 5 .nil))))))) rfl ?_ <;>
    ((apply XL.det0F rfl rfl rfl rfl; exact D.move rfl)) <;>
    ((apply XL.det0F rfl rfl rfl rfl; exact D.move rfl)) <;>
    ((apply XL.det0F rfl rfl rfl rfl; exact D.move rfl)) <;>
    (have hil : i < l.length := (by omega); obtain ⟨x, hx⟩ := get_lt' hil; (apply XL.det0F rfl rfl rfl rfl; exact D.indexAddr i rfl rfl rfl hil (hl.sm (by omega)))) <;>
    ((apply XL.detF rfl rfl rfl rfl; exact D.load1 rfl (fun w hw => Rd.intAt (hl.conf0 hw) hx))) <;>
    (first | refine XL.splitF rfl rfl rfl rfl (D.int rfl rfl rfl) (fun h1 => ?_) (fun h1 => ?_)) <;>
    (refine XL.nil ?_)) <;> (first | refine Ex.then ?_ | (refine N.next ?_ <;> ((
    refine X.cond rfl ?_ ?_; rotate_left; (focus (
    intro hc; first | exact absurd hc (by decide) | (cases hc; done) | (refine X.skip ?_))); rotate_right; (focus (
    intro hc; first | exact absurd hc (by decide) | (cases hc; done) | (refine X.seq ?_ <;> (refine X.text (L := (.op .fin 0 (.op .fin 1 .nil))) rfl ?_ <;>
    ((apply XL.det0F rfl rfl rfl rfl; exact D.move rfl)) <;>
    ((apply XL.det0F rfl rfl rfl rfl; exact D.assign rfl)) <;>
    (refine XL.nil ?_)) <;> (first | refine Ex.then ?_ | (refine N.next ?_ <;> ((refine X.ret ?_; (repeat (first | refine Rt.then ?_ | refine Rt.block ?_ | refine Rt.scope ?_)); apply Rt.done (Res.r1 Try.results47 (RV.tmp rfl)); (focus (first | (exact ⟨_, rfl, ⟨fun _ => by have e : n = x := (by omega); rw [e]; exact List.mem_of_getElem? hx, fun _ => by omega⟩, rfl⟩) | (exact ⟨_, rfl, ⟨fun h => by omega, fun h => by obtain ⟨j, hj⟩ := List.mem_iff_getElem?.1 h; exact absurd rfl (hno j n (by have := lt_of_get' hj; omega) hj)⟩, rfl⟩))); exact fun w h => h.takes))))))))))))))) <;> (first | refine N.block ?_ | refine Ex.here ?_ | refine Ex.out rfl ?_)) <;> (first | refine Ex.then ?_ | (refine N.next ?_ <;> (refine X.text (L := (.op .fin 0 (.op .fin 1 .nil))) rfl ?_ <;>
    ((apply XL.det0F rfl rfl rfl rfl; first | exact D.add64 rfl rfl (by omega) | exact D.int rfl rfl rfl)) <;>
    ((apply XL.det0F rfl rfl rfl rfl; exact D.move rfl)) <;>
    (refine XL.nil ?_))))))))))) <;> (first | refine Ex.then ?_ | ((refine N.again ((i + 1)) ?_ ?_ ?_ ?_; (focus (exact ⟨by omega, fun j y hj hy => by rcases Nat.lt_or_ge j i with h | h; exact hno j y h hy; (obtain rfl : j = i := by omega); rw [hx] at hy; cases hy; exact fun e => h1 (by omega)⟩)); (focus (first | omega | (dsimp only; omega))); (focus (repeat (first | exact Sub.nil | refine Sub.cons rfl ?_))); exact (fun w h => h.takes))))) <;> (first | refine N.block ?_ | refine Ex.here ?_ | refine Ex.out rfl ?_))))) <;> (first | refine Ex.then ?_ | (refine N.next ?_ <;> (refine X.seq ?_ <;> (refine X.text (L := (.op .fin 0 .nil)) rfl ?_ <;>
    ((apply XL.det0F rfl rfl rfl rfl; exact D.assign rfl)) <;>
    (refine XL.nil ?_)) <;> (first | refine Ex.then ?_ | (refine N.next ?_ <;> ((refine X.ret ?_; (repeat (first | refine Rt.then ?_ | refine Rt.block ?_ | refine Rt.scope ?_)); apply Rt.done (Res.r1 Try.results47 (RV.tmp rfl)); (focus (first | (exact ⟨_, rfl, ⟨fun _ => by have e : n = x := (by omega); rw [e]; exact List.mem_of_getElem? hx, fun _ => by omega⟩, rfl⟩) | (exact ⟨_, rfl, ⟨fun h => by omega, fun h => by obtain ⟨j, hj⟩ := List.mem_iff_getElem?.1 h; exact absurd rfl (hno j n (by have := lt_of_get' hj; omega) hj)⟩, rfl⟩))); exact fun w h => h.takes)))))))))))
theorem ContainsI_spec (w : World) (a : Option Addr) (c : Nat) (l : List Int) (n : Int) (hl : Rd w 1 a l.length c (encN l)) : Spec Try.prog 31 #[.slice a l.length c, .int .i64 n] w (fun _ => False) (fun v A => v = .bool (decide (n ∈ l)) ∧ A = []) := by
  refine Spec.enter (args := [.slice a l.length c, .int .i64 n]) (A := []) Try.func31 rfl Try.ntmps31 rfl (fun _ h => h) ?_
  (refine X.seq ?_ <;> (refine X.text (L := (.op .fin 0 .nil)) rfl ?_ <;>
    ((apply XL.det0F rfl rfl rfl rfl; exact D.assign rfl)) <;>
    (refine XL.nil ?_)) <;> (first | refine Ex.then ?_ | (refine N.next ?_ <;> (refine X.seq ?_ <;> (refine X.text (L := (.op .fin 0 (.op .fin 1 (.op .fin 2 (.op .fin 3 (.op .fin 4 .nil)))))) rfl ?_ <;>
    ((apply XL.det0F rfl rfl rfl rfl; exact D.move rfl)) <;>
    ((apply XL.det0F rfl rfl rfl rfl; exact D.move rfl)) <;>
    ((refine XL.call rfl rfl rfl rfl (fun w hw => IndexI_spec w a c l n (hl.conf0 hw)) ?_; rintro v B' ⟨r, rfl, hr, rfl⟩; refine XL.both ?_)) <;>
    ((apply XL.det0F rfl rfl rfl rfl; exact D.int rfl rfl rfl)) <;>
    ((apply XL.det0F rfl rfl rfl rfl; exact D.assign rfl)) <;>
    (refine XL.nil ?_)) <;> (first | refine Ex.then ?_ | (refine N.next ?_ <;> ((refine X.ret ?_; (repeat (first | refine Rt.then ?_ | refine Rt.block ?_ | refine Rt.scope ?_)); apply Rt.done (Res.r1 Try.results31 (RV.tmp rfl)); (focus (refine ⟨congrArg Value.bool ?_, rfl⟩; exact decide_eq_decide.2 hr)); exact fun w h => h.takes))))))))
theorem Orphans_spec (w : World) (a ak : Option Addr) (c ck : Nat) (st kn : List Int) (below : Int) (hl : Rd w 1 a st.length c (encN st)) (hk : Rd w 1 ak kn.length ck (encN kn)) (hbd : st.length ≤ 1000000) :
    Spec Try.prog 13 #[.slice a st.length c, .slice ak kn.length ck, .int .i64 below] w (fun _ => False) (fun v A => ∃ a' c' o, v = .slice a' (List.length o) c' ∧ IsOrph st kn below o ∧ A = [own 3 1 (.slice a' (List.length o) c') (List.length o) (encN o)]) := by
  refine Spec.enter (args := [.slice a st.length c, .slice ak kn.length ck, .int .i64 below]) (A := []) Try.func13 rfl Try.ntmps13 rfl (fun _ h => h) ?_
  (refine X.seq ?_ <;> (refine X.text (L := (.op .fin 0 .nil)) rfl ?_ <;>
    ((apply XL.det0F rfl rfl rfl rfl; exact D.assign rfl)) <;>
    (refine XL.nil ?_)) <;> (first | refine Ex.then ?_ | (refine N.next ?_ <;> (refine X.seq ?_ <;> (refine X.text (L := (.op .fin 0 .nil)) rfl ?_ <;>
    (refine XL.mem (B := [own 3 1 (.slice none 0 0) 0 (encN ((st.take 0).filter fun n => decide (n < below) && !decide (n ∈ kn)))]) (fun w h => h.nilOwn 3 1) ?_; (apply XL.det0F rfl rfl rfl rfl; exact D.assign rfl)) <;>
    (refine XL.nil ?_)) <;> (first | refine Ex.then ?_ | (refine N.next ?_ <;> (refine X.seq ?_ <;> (refine X.seq ?_ <;> (refine X.text (L := (.op .fin 0 (.op .fin 1 (.op .fin 2 .nil)))) rfl ?_ <;>
    ((apply XL.det0F rfl rfl rfl rfl; exact D.move rfl)) <;>
    ((apply XL.det0F rfl rfl rfl rfl; first | exact D.len rfl | exact D.lenS rfl)) <;>
    ((apply XL.det0F rfl rfl rfl rfl; exact D.move rfl)) <;>
    (refine XL.nil ?_)) <;> (first | refine Ex.then ?_ | (refine N.next ?_ <;> (refine X.block ?_ <;> ((refine X.loop (ι := Nat × Option Addr × Nat × Nat) (fun y => [(1, .slice ak kn.length ck), (2, .int .i64 below), (7, .slice y.2.1 y.2.2.2 y.2.2.1), (10, .slice a st.length c), (11, .int .i64 st.length), (12, .int .i64 y.1)]) (fun y => [own 3 1 (.slice y.2.1 y.2.2.2 y.2.2.1) y.2.2.2 (encN ((st.take y.1).filter fun n => decide (n < below) && !decide (n ∈ kn)))]) (fun y => y.1 ≤ st.length ∧ y.2.2.2 = ((st.take y.1).filter fun n => decide (n < below) && !decide (n ∈ kn)).length) (fun y => st.length - y.1) ((0, none, 0, 0)) ?_ ?_ ?_ ?_; (focus (exact ⟨Nat.zero_le _, rfl⟩)); (focus (repeat (first | exact Sub.nil | refine Sub.cons rfl ?_))); (focus (exact (fun w h => h.takes))); rintro ⟨i, a', c', m⟩ ⟨hi, hm⟩; (dsimp only at *; have hmi : m ≤ i := (by rw [hm]; exact Nat.le_trans (List.length_filter_le _ _) (by simp; omega)))) <;> (refine X.seq ?_ <;> (refine X.text (L := (.op .fin 0 .nil)) rfl ?_ <;>
    (first | refine XL.splitF rfl rfl rfl rfl (D.int rfl rfl rfl) (fun h1 => ?_) (fun h1 => ?_)) <;>
    (refine XL.nil ?_)) <;> (first | refine Ex.then ?_ | (refine N.next ?_ <;> (refine X.seq ?_ <;> ((
    refine X.cond rfl ?_ ?_; rotate_left; (focus (
    intro hc; first | exact absurd hc (by decide) | (cases hc; done) | (refine X.exit ?_))); rotate_right; (focus (
    intro hc; first | exact absurd hc (by decide) | (cases hc; done) | (refine X.skip ?_))))) <;> (first | refine Ex.then ?_ | (refine N.next ?_ <;> (refine X.seq ?_ <;> (refine X.block ?_ <;> (refine X.seq ?_ <;> (refine X.text (L := (.op .fin 0 (.op .fin 1 (.op .fin 2 .nil)))) rfl ?_ <;>
    (have hil : i < st.length := (by omega); obtain ⟨n, hn⟩ := get_lt' hil; have hfl := List.filter_append (p := fun n => decide (n < below) && !decide (n ∈ kn)) (st.take i) [n]; rw [← take_snoc' hn] at hfl; (apply XL.detF rfl rfl rfl rfl; exact D.indexAddr i rfl rfl rfl hil (hl.sm (by omega)))) <;>
    ((apply XL.detF rfl rfl rfl rfl; exact D.load1 rfl (fun w hw => Rd.intAt (hl.conf0 hw) hn))) <;>
    ((apply XL.det0F rfl rfl rfl rfl; exact D.assign rfl)) <;>
    (refine XL.nil ?_)) <;> (first | refine Ex.then ?_ | (refine N.next ?_ <;> (refine X.seq ?_ <;> (refine X.text (L := (.op .fin 0 (.op .fin 1 (.op .fin 2 (.op .fin 3 (.op .fin 4 (.op .fin 5 (.op .fin 6 (.op .fin 7 (.op .fin 8 .nil)))))))))) rfl ?_ <;>
    ((apply XL.det0F rfl rfl rfl rfl; exact D.move rfl)) <;>
    ((apply XL.det0F rfl rfl rfl rfl; exact D.move rfl)) <;>
    (first | refine XL.splitF rfl rfl rfl rfl (D.int rfl rfl rfl) (fun h2 => ?_) (fun h2 => ?_)) <;>
    ((apply XL.det0F rfl rfl rfl rfl; exact D.move rfl)) <;>
    (first | refine XL.skipF rfl rfl rfl rfl ?_ | ((apply XL.det0F rfl rfl rfl rfl; exact D.move rfl))) <;>
    (first | refine XL.skipF rfl rfl rfl rfl ?_ | ((apply XL.det0F rfl rfl rfl rfl; exact D.move rfl))) <;>
    (first | refine XL.skipF rfl rfl rfl rfl ?_ | ((refine XL.call rfl rfl rfl rfl (fun w hw => ContainsI_spec w ak ck kn n (hk.conf0 hw)) ?_; rintro v B' ⟨rfl, rfl⟩; refine XL.both ?_); (by_cases h3 : n ∈ kn <;> first | rw [decide_eq_true h3] | rw [decide_eq_false h3]))) <;>
    (first | refine XL.skipF rfl rfl rfl rfl ?_ | ((apply XL.det0F rfl rfl rfl rfl; exact D.not rfl))) <;>
    ((apply XL.det0F rfl rfl rfl rfl; first | exact D.pickT rfl rfl | exact D.pickF rfl rfl | exact D.pick rfl rfl rfl)) <;>
    (refine XL.nil ?_)) <;> (first | refine Ex.then ?_ | (refine N.next ?_ <;> ((
    refine X.cond rfl ?_ ?_; rotate_left; (focus (
    intro hc; first | exact absurd hc (by decide) | (cases hc; done) | (refine X.skip ?_))); rotate_right; (focus (
    intro hc; first | exact absurd hc (by decide) | (cases hc; done) | (refine X.text (L := (.op .fin 0 (.op .fin 1 (.op .fin 2 (.op .fin 3 (.op .fin 4 .nil)))))) rfl ?_ <;>
    ((apply XL.det0F rfl rfl rfl rfl; exact D.move rfl)) <;>
    ((apply XL.det0F rfl rfl rfl rfl; exact D.move rfl)) <;>
    (refine XL.slice1 rfl rfl rfl rfl rfl rfl (by intro g; infer_instance) (fun g => ?_)) <;>
    ((refine XL.append rfl rfl rfl rfl rfl rfl ?_ ?_ (fun a' c' => ?_); (focus (skip; unfold maxLen; omega)); (focus (intro _ _; infer_instance))); rw [encN_snoc _ n, show (st.take i).filter (fun n => decide (n < below) && !decide (n ∈ kn)) ++ [n] = (st.take (i + 1)).filter (fun n => decide (n < below) && !decide (n ∈ kn)) from (by rw [hfl]; simp [h2, h3])]) <;>
    ((apply XL.det0F rfl rfl rfl rfl; exact D.assign rfl)) <;>
    (refine XL.nil ?_)))))))))))) <;> (first | refine N.block ?_ | refine Ex.here ?_ | refine Ex.out rfl ?_)) <;> (first | refine Ex.then ?_ | (refine N.next ?_ <;> (refine X.text (L := (.op .fin 0 (.op .fin 1 .nil))) rfl ?_ <;>
    ((first | (have hq : n < below ∧ n ∉ kn := ⟨h2, h3⟩; have hlen : ((st.take (i + 1)).filter (fun n => decide (n < below) && !decide (n ∈ kn))).length = m + 1 := (by rw [hfl, List.length_append, ← hm]; simp [h2, h3])) | (have hlen : ((st.take (i + 1)).filter (fun n => decide (n < below) && !decide (n ∈ kn))).length = m := (by rw [hfl, List.length_append, ← hm]; first | (simp [h2, h3]; done) | (simp [h2]; done)); rw [show (st.take i).filter (fun n => decide (n < below) && !decide (n ∈ kn)) = (st.take (i + 1)).filter (fun n => decide (n < below) && !decide (n ∈ kn)) from (by rw [hfl]; first | (simp [h2, h3]; done) | (simp [h2]; done))])); (apply XL.det0F rfl rfl rfl rfl; exact D.add64 rfl rfl (by omega))) <;>
    ((apply XL.det0F rfl rfl rfl rfl; exact D.move rfl)) <;>
    (refine XL.nil ?_))))))))))) <;> (first | refine Ex.then ?_ | (first | (refine N.again ((i + 1, a', c', m + 1)) ?_ ?_ ?_ ?_; (focus (exact ⟨by dsimp only; omega, hlen.symm⟩)); (focus (first | omega | (dsimp only; omega))); (focus (repeat (first | exact Sub.nil | refine Sub.cons rfl ?_))); exact (fun w h => h.takes)) | (refine N.again ((i + 1, a', c', m)) ?_ ?_ ?_ ?_; (focus (exact ⟨by dsimp only; omega, hlen.symm⟩)); (focus (first | omega | (dsimp only; omega))); (focus (repeat (first | exact Sub.nil | refine Sub.cons rfl ?_))); exact (fun w h => h.takes))))) <;> (first | refine N.block ?_ | refine Ex.here ?_ | refine Ex.out rfl ?_))))) <;> (first | refine Ex.then ?_ | (refine N.next ?_ <;> (refine X.seq ?_ <;> (refine X.text (L := (.op .fin 0 (.op .fin 1 .nil))) rfl ?_ <;>
    ((apply XL.det0F rfl rfl rfl rfl; exact D.move rfl)) <;>
    (have hje : st.take i = st := (List.take_of_length_le (by omega)); rw [hje] at hm ⊢; subst hm; obtain ⟨lo, hlo⟩ : ∃ lo, st.filter (fun n => decide (n < below) && !decide (n ∈ kn)) = lo := (⟨_, rfl⟩); rw [hlo] at hmi ⊢; (refine XL.callH [own 3 1 (.slice a' (List.length lo) c') (List.length lo) (encN lo)] rfl rfl rfl rfl (fun w F hF hw => sortI_row Try.sortI w F a' lo.length c' 3 lo hF (by omega)) ?_; rintro v B' ⟨ds, rfl, hdp, hds, rfl⟩; refine XL.both ?_)) <;>
    (refine XL.nil ?_)) <;> (first | refine Ex.then ?_ | (refine N.next ?_ <;> (refine X.seq ?_ <;> (refine X.text (L := (.op .fin 0 (.op .fin 1 (.op .fin 2 .nil)))) rfl ?_ <;>
    ((apply XL.det0F rfl rfl rfl rfl; exact D.move rfl)) <;>
    ((refine XL.callH [own 3 1 (.slice a' lo.length c') lo.length (encN ds)] rfl rfl rfl rfl (fun w F hF hw => compactI_row Try.compactI w F a' lo.length c' 3 ds hF (by omega)) ?_; rintro v B' ⟨k, rfl, rfl, rfl⟩; refine XL.both ?_)) <;>
    ((apply XL.det0F rfl rfl rfl rfl; exact D.assign rfl)) <;>
    (refine XL.nil ?_)) <;> (first | refine Ex.then ?_ | (refine N.next ?_ <;> ((refine X.ret ?_; (repeat (first | refine Rt.then ?_ | refine Rt.block ?_ | refine Rt.scope ?_)); apply Rt.done (Res.r1 Try.results13 (RV.tmp rfl)); (focus (exact ⟨a', c', _, rfl, orph_of (by rw [hlo]; exact hdp) hds, rfl⟩)); exact fun w h => h.takes)))))))))))))))))
theorem refOrphans_spec (w : World) (a ak : Option Addr) (c ck : Nat) (st kn : List Int) (below : Int) (hl : Rd w 1 a st.length c (encN st)) (hk : Rd w 1 ak kn.length ck (encN kn)) (hbd : st.length ≤ 1000000) :
    Spec Try.prog 14 #[.slice a st.length c, .slice ak kn.length ck, .int .i64 below] w (fun _ => False) (fun v A => ∃ a' c' o, v = .slice a' (List.length o) c' ∧ IsOrph st kn below o ∧ A = [own 3 1 (.slice a' (List.length o) c') (List.length o) (encN o)]) := by
  refine Spec.enter (args := [.slice a st.length c, .slice ak kn.length ck, .int .i64 below]) (A := []) Try.func14 rfl Try.ntmps14 rfl (fun _ h => h) ?_
  refine X.mem (B := [own 3 1 (.slice none (List.length (([] : List Int))) 0) (List.length (([] : List Int))) (encN (([] : List Int)))]) (fun w h => h.nilOwn 3 1) ?_
  (refine X.seq ?_ <;> (refine X.text (L := (.op .fin 0 .nil)) rfl ?_ <;>
    ((apply XL.det0F rfl rfl rfl rfl; exact D.assign rfl)) <;>
    (refine XL.nil ?_)) <;> (first | refine Ex.then ?_ | (refine N.next ?_ <;> (refine X.seq ?_ <;> (refine X.text (L := (.op .fin 0 .nil)) rfl ?_ <;>
    ((apply XL.det0F rfl rfl rfl rfl; exact D.assign rfl)) <;>
    (refine XL.nil ?_)) <;> (first | refine Ex.then ?_ | (refine N.next ?_ <;> (refine X.seq ?_ <;> (refine X.seq ?_ <;> (refine X.text (L := (.op .fin 0 .nil)) rfl ?_ <;>
    ((apply XL.det0F rfl rfl rfl rfl; exact D.assign rfl)) <;>
    (refine XL.nil ?_)) <;> (first | refine Ex.then ?_ | (refine N.next ?_ <;> (refine X.block ?_ <;> ((refine X.loop (ι := Nat × List Int × Option Addr × Nat) (fun y => [(0, .slice a st.length c), (1, .slice ak kn.length ck), (2, .int .i64 below), (7, .slice y.2.2.1 y.2.1.length y.2.2.2), (8, .int .i64 y.1)]) (fun y => [own 3 1 (.slice y.2.2.1 (List.length y.2.1) y.2.2.2) (List.length y.2.1) (encN y.2.1)]) (fun y => y.1 ≤ st.length ∧ IsOrph (st.take y.1) kn below y.2.1 ∧ y.2.1.length ≤ y.1) (fun y => st.length - y.1) ((0, [], none, 0)) ?_ ?_ ?_ ?_; (focus (exact ⟨Nat.zero_le _, ⟨List.Pairwise.nil, fun n => by simp⟩, Nat.le_refl _⟩)); (focus (repeat (first | exact Sub.nil | refine Sub.cons rfl ?_))); (focus (exact (fun w h => h.takes))); rintro ⟨i, o, ao, co⟩ ⟨hi, ho, hol⟩; (dsimp only at *)) <;> (refine X.seq ?_ <;> (refine X.seq ?_ <;> (refine X.text (L := (.op .fin 0 (.op .fin 1 (.op .fin 2 (.op .fin 3 .nil))))) rfl ?_ <;>
    ((apply XL.det0F rfl rfl rfl rfl; exact D.move rfl)) <;>
    ((apply XL.det0F rfl rfl rfl rfl; exact D.move rfl)) <;>
    ((apply XL.det0F rfl rfl rfl rfl; first | exact D.len rfl | exact D.lenS rfl)) <;>
    (first | refine XL.splitF rfl rfl rfl rfl (D.int rfl rfl rfl) (fun h1 => ?_) (fun h1 => ?_)) <;>
    (refine XL.nil ?_)) <;> (first | refine Ex.then ?_ | (refine N.next ?_ <;> ((
    refine X.cond rfl ?_ ?_; rotate_left; (focus (
    intro hc; first | exact absurd hc (by decide) | (cases hc; done) | (refine X.exit ?_))); rotate_right; (focus (
    intro hc; first | exact absurd hc (by decide) | (cases hc; done) | (refine X.skip ?_)))))))) <;> (first | refine Ex.then ?_ | (refine N.next ?_ <;> (refine X.seq ?_ <;> (refine X.block ?_ <;> (refine X.seq ?_ <;> (refine X.text (L := (.op .fin 0 (.op .fin 1 (.op .fin 2 (.op .fin 3 (.op .fin 4 .nil)))))) rfl ?_ <;>
    ((apply XL.det0F rfl rfl rfl rfl; exact D.move rfl)) <;>
    ((apply XL.det0F rfl rfl rfl rfl; exact D.move rfl)) <;>
    (have hil : i < st.length := (by omega); obtain ⟨n, hn⟩ := get_lt' hil; (apply XL.det0F rfl rfl rfl rfl; exact D.indexAddr i rfl rfl rfl hil (hl.sm (by omega)))) <;>
    ((apply XL.detF rfl rfl rfl rfl; exact D.load1 rfl (fun w hw => Rd.intAt (hl.conf0 hw) hn))) <;>
    ((apply XL.det0F rfl rfl rfl rfl; exact D.assign rfl)) <;>
    (refine XL.nil ?_)) <;> (first | refine Ex.then ?_ | (refine N.next ?_ <;> (refine X.seq ?_ <;> (refine X.seq ?_ <;> (refine X.text (L := (.op .fin 0 (.op .fin 1 (.op .fin 2 (.op .fin 3 (.op .fin 4 (.op .fin 5 (.op .fin 6 (.op .fin 7 (.op .fin 8 (.op .fin 9 (.op .fin 10 (.op .fin 11 (.op .fin 12 .nil)))))))))))))) rfl ?_ <;>
    ((apply XL.det0F rfl rfl rfl rfl; exact D.move rfl)) <;>
    ((apply XL.det0F rfl rfl rfl rfl; exact D.move rfl)) <;>
    (first | refine XL.splitF rfl rfl rfl rfl (D.int rfl rfl rfl) (fun h2 => ?_) (fun h2 => ?_)) <;>
    ((apply XL.det0F rfl rfl rfl rfl; exact D.move rfl)) <;>
    (first | refine XL.skipF rfl rfl rfl rfl ?_ | ((apply XL.det0F rfl rfl rfl rfl; exact D.move rfl))) <;>
    (first | refine XL.skipF rfl rfl rfl rfl ?_ | ((apply XL.det0F rfl rfl rfl rfl; exact D.move rfl))) <;>
    (first | refine XL.skipF rfl rfl rfl rfl ?_ | ((refine XL.call rfl rfl rfl rfl (fun w hw => refIn_spec w ak ck kn n (hk.conf0 hw)) ?_; rintro v B' ⟨rfl, rfl⟩; refine XL.both ?_); (by_cases h3 : n ∈ kn <;> first | rw [decide_eq_true h3] | rw [decide_eq_false h3]))) <;>
    ((apply XL.det0F rfl rfl rfl rfl; first | exact D.pickT rfl rfl | exact D.pickF rfl rfl | exact D.pick rfl rfl rfl)) <;>
    ((apply XL.det0F rfl rfl rfl rfl; exact D.move rfl)) <;>
    (first | refine XL.skipF rfl rfl rfl rfl ?_ | ((apply XL.det0F rfl rfl rfl rfl; exact D.move rfl))) <;>
    (first | refine XL.skipF rfl rfl rfl rfl ?_ | ((apply XL.det0F rfl rfl rfl rfl; exact D.move rfl))) <;>
    (first | refine XL.skipF rfl rfl rfl rfl ?_ | ((refine XL.call rfl rfl rfl rfl (fun w hw => refIn_spec w ao co o n (hw.rd (a := ao))) ?_; rintro v B' ⟨rfl, rfl⟩; refine XL.both ?_); (by_cases h4 : n ∈ o <;> first | rw [decide_eq_true h4] | rw [decide_eq_false h4]))) <;>
    ((apply XL.det0F rfl rfl rfl rfl; first | exact D.pickT rfl rfl | exact D.pickF rfl rfl | exact D.pick rfl rfl rfl)) <;>
    (refine XL.nil ?_)) <;> (first | refine Ex.then ?_ | (refine N.next ?_ <;> ((
    refine X.cond rfl ?_ ?_; rotate_left; (focus (
    intro hc; first | exact absurd hc (by decide) | (cases hc; done) | (refine X.skip ?_))); rotate_right; (focus (
    intro hc; first | exact absurd hc (by decide) | (cases hc; done) | (refine X.exit ?_)))))))) <;> (first | refine Ex.then ?_ | (refine N.next ?_ <;> (refine X.seq ?_ <;> (refine X.text (L := (.op .fin 0 .nil)) rfl ?_ <;>
    (refine XL.mem (B := [own 3 1 (.slice none (List.length (([] : List Int))) 0) (List.length (([] : List Int))) (encN (([] : List Int))), own 3 1 (.slice ao (List.length o) co) (List.length o) (encN o)]) (fun w h => h.nilOwn 3 1) ?_; (apply XL.det0F rfl rfl rfl rfl; exact D.assign rfl)) <;>
    (refine XL.nil ?_)) <;> (first | refine Ex.then ?_ | (refine N.next ?_ <;> (refine X.seq ?_ <;> (refine X.text (L := (.op .fin 0 .nil)) rfl ?_ <;>
    ((apply XL.det0F rfl rfl rfl rfl; exact D.assign rfl)) <;>
    (refine XL.nil ?_)) <;> (first | refine Ex.then ?_ | (refine N.next ?_ <;> (refine X.seq ?_ <;> (refine X.seq ?_ <;> (refine X.text (L := (.op .fin 0 .nil)) rfl ?_ <;>
    ((apply XL.det0F rfl rfl rfl rfl; exact D.assign rfl)) <;>
    (refine XL.nil ?_)) <;> (first | refine Ex.then ?_ | (refine N.next ?_ <;> (refine X.block ?_ <;> ((refine X.loop (ι := Nat × Bool × List Int × Option Addr × Nat) (fun y => [(0, .slice a st.length c), (1, .slice ak kn.length ck), (2, .int .i64 below), (7, .slice ao o.length co), (8, .int .i64 i), (9, .int .i64 n), (10, .slice y.2.2.2.1 y.2.2.1.length y.2.2.2.2), (11, .bool y.2.1), (12, .int .i64 y.1)]) (fun y => [own 3 1 (.slice y.2.2.2.1 (List.length y.2.2.1) y.2.2.2.2) (List.length y.2.2.1) (encN y.2.2.1), own 3 1 (.slice ao (List.length o) co) (List.length o) (encN o)]) (fun y => InsI o n y.1 y.2.1 y.2.2.1) (fun y => o.length - y.1) ((0, false, [], none, 0)) ?_ ?_ ?_ ?_; (focus (exact InsI.start o n)); (focus (repeat (first | exact Sub.nil | refine Sub.cons rfl ?_))); (focus (exact (fun w h => h.takes))); rintro ⟨k, dn, nx, a2, c2⟩ hI; (dsimp only at *; have hkl := hI.le; have hnl := hI.len; (cases dn))) <;> (refine X.seq ?_ <;> (refine X.seq ?_ <;> (refine X.text (L := (.op .fin 0 (.op .fin 1 (.op .fin 2 (.op .fin 3 .nil))))) rfl ?_ <;>
    ((apply XL.det0F rfl rfl rfl rfl; exact D.move rfl)) <;>
    ((apply XL.det0F rfl rfl rfl rfl; exact D.move rfl)) <;>
    ((apply XL.det0F rfl rfl rfl rfl; first | exact D.len rfl | exact D.lenS rfl)) <;>
    (first | refine XL.splitF rfl rfl rfl rfl (D.int rfl rfl rfl) (fun h5 => ?_) (fun h5 => ?_)) <;>
    (refine XL.nil ?_)) <;> (first | refine Ex.then ?_ | (refine N.next ?_ <;> ((
    refine X.cond rfl ?_ ?_; rotate_left; (focus (
    intro hc; first | exact absurd hc (by decide) | (cases hc; done) | (refine X.exit ?_))); rotate_right; (focus (
    intro hc; first | exact absurd hc (by decide) | (cases hc; done) | (refine X.skip ?_)))))))) <;> (first | refine Ex.then ?_ | (refine N.next ?_ <;> (refine X.seq ?_ <;> (refine X.block ?_ <;> (refine X.seq ?_ <;> (refine X.seq ?_ <;> (refine X.text (L := (.op .fin 0 (.op .fin 1 (.op .fin 2 (.op .fin 3 (.op .fin 4 (.op .fin 5 (.op .fin 6 (.op .fin 7 (.op .fin 8 (.op .fin 9 .nil))))))))))) rfl ?_ <;>
    (have hko : k < o.length := (by omega); obtain ⟨y, hy⟩ := get_lt' hko; simp only [Bool.toNat_false, Bool.toNat_true] at hnl; refine XL.fact (fun w h => (h.rd (a := ao)).sm (by omega)) (fun hsome => ?_); (apply XL.det0F rfl rfl rfl rfl; exact D.move rfl)) <;>
    ((apply XL.det0F rfl rfl rfl rfl; exact D.not rfl)) <;>
    ((apply XL.det0F rfl rfl rfl rfl; exact D.move rfl)) <;>
    (first | refine XL.skipF rfl rfl rfl rfl ?_ | ((apply XL.det0F rfl rfl rfl rfl; exact D.move rfl))) <;>
    (first | refine XL.skipF rfl rfl rfl rfl ?_ | ((apply XL.det0F rfl rfl rfl rfl; exact D.move rfl))) <;>
    (first | refine XL.skipF rfl rfl rfl rfl ?_ | ((apply XL.det0F rfl rfl rfl rfl; exact D.indexAddr k rfl rfl rfl hko hsome))) <;>
    (first | refine XL.skipF rfl rfl rfl rfl ?_ | ((apply XL.detF rfl rfl rfl rfl; exact D.load1 rfl (fun w hw => Rd.intAt (hw.rd (a := ao)) hy)))) <;>
    (first | refine XL.skipF rfl rfl rfl rfl ?_ | ((apply XL.det0F rfl rfl rfl rfl; exact D.move rfl))) <;>
    (first | refine XL.skipF rfl rfl rfl rfl ?_ | (first | refine XL.splitF rfl rfl rfl rfl (D.int rfl rfl rfl) (fun h6 => ?_) (fun h6 => ?_))) <;>
    ((apply XL.det0F rfl rfl rfl rfl; first | exact D.pickT rfl rfl | exact D.pickF rfl rfl | exact D.pick rfl rfl rfl)) <;>
    (refine XL.nil ?_)) <;> (first | refine Ex.then ?_ | (refine N.next ?_ <;> ((
    refine X.cond rfl ?_ ?_; rotate_left; (focus (
    intro hc; first | exact absurd hc (by decide) | (cases hc; done) | (refine X.skip ?_))); rotate_right; (focus (
    intro hc; first | exact absurd hc (by decide) | (cases hc; done) | (refine X.seq ?_ <;> (refine X.text (L := (.op .fin 0 (.op .fin 1 (.op .fin 2 (.op .fin 3 (.op .fin 4 .nil)))))) rfl ?_ <;>
    ((apply XL.det0F rfl rfl rfl rfl; exact D.move rfl)) <;>
    ((apply XL.det0F rfl rfl rfl rfl; exact D.move rfl)) <;>
    (refine XL.slice1 rfl rfl rfl rfl rfl rfl (by intro g; infer_instance) (fun g => ?_)) <;>
    ((refine XL.append rfl rfl rfl rfl rfl rfl ?_ ?_ (fun a' c' => ?_); (focus (skip; unfold maxLen; omega)); (focus (intro _ _; infer_instance))); rw [encN_snoc _ n, show nx.length + 1 = (nx ++ [n]).length from (by simp)]) <;>
    ((apply XL.det0F rfl rfl rfl rfl; exact D.assign rfl)) <;>
    (refine XL.nil ?_)) <;> (first | refine Ex.then ?_ | (refine N.next ?_ <;> (refine X.text (L := (.op .fin 0 .nil)) rfl ?_ <;>
    ((apply XL.det0F rfl rfl rfl rfl; exact D.assign rfl)) <;>
    (refine XL.nil ?_)))))))))))) <;> (first | refine Ex.then ?_ | (refine N.next ?_ <;> (refine X.text (L := (.op .fin 0 (.op .fin 1 (.op .fin 2 (.op .fin 3 (.op .fin 4 (.op .fin 5 (.op .fin 6 (.op .fin 7 .nil))))))))) rfl ?_ <;>
    ((apply XL.det0F rfl rfl rfl rfl; exact D.move rfl)) <;>
    ((apply XL.det0F rfl rfl rfl rfl; exact D.move rfl)) <;>
    ((apply XL.det0F rfl rfl rfl rfl; exact D.move rfl)) <;>
    ((apply XL.det0F rfl rfl rfl rfl; exact D.indexAddr k rfl rfl rfl hko hsome)) <;>
    ((apply XL.detF rfl rfl rfl rfl; exact D.load1 rfl (fun w hw => Rd.intAt (hw.rd (a := ao)) hy))) <;>
    (refine XL.slice1 rfl rfl rfl rfl rfl rfl (by intro g; infer_instance) (fun g => ?_)) <;>
    ((first | (have hq : y > n := h6; obtain ⟨n2, hn2, hn2l⟩ : ∃ n2, nx ++ [n] = n2 ∧ n2.length ≤ k + 1 := (⟨_, rfl, by simp; omega⟩); have hI2 := hI.put ho.1 hy h6; rw [hn2] at hI2 ⊢) | (obtain ⟨n2, hn2, hn2l⟩ : ∃ n2, nx = n2 ∧ n2.length ≤ k + 1 := (⟨_, rfl, by omega⟩); have hI2 := hI.keep ho.1 h4 hy (by first | exact .inl rfl | exact .inr h6); rw [hn2] at hI2 ⊢)); (refine XL.append rfl rfl rfl rfl rfl rfl ?_ ?_ (fun a' c' => ?_); (focus (skip; unfold maxLen; omega)); (focus (intro _ _; infer_instance))); rw [encN_snoc _ y, show n2.length + 1 = (n2 ++ [y]).length from (by simp)]) <;>
    ((apply XL.det0F rfl rfl rfl rfl; exact D.assign rfl)) <;>
    (refine XL.nil ?_))))) <;> (first | refine N.block ?_ | refine Ex.here ?_ | refine Ex.out rfl ?_)) <;> (first | refine Ex.then ?_ | (refine N.next ?_ <;> (refine X.text (L := (.op .fin 0 (.op .fin 1 (.op .fin 2 .nil)))) rfl ?_ <;>
    ((apply XL.det0F rfl rfl rfl rfl; exact D.move rfl)) <;>
    ((apply XL.det0F rfl rfl rfl rfl; first | exact D.add64 rfl rfl (by omega) | exact D.int rfl rfl rfl)) <;>
    ((apply XL.det0F rfl rfl rfl rfl; exact D.assign rfl)) <;>
    (refine XL.nil ?_)))))))) <;> (first | refine Ex.then ?_ | (first | (refine N.again ((k + 1, true, n2 ++ [y], a', c')) ?_ ?_ ?_ ?_; (focus (exact hI2)); (focus (first | omega | (dsimp only; omega))); (focus (repeat (first | exact Sub.nil | refine Sub.cons rfl ?_))); exact (fun w h => h.takes)) | (refine N.again ((k + 1, false, n2 ++ [y], a', c')) ?_ ?_ ?_ ?_; (focus (exact hI2)); (focus (first | omega | (dsimp only; omega))); (focus (repeat (first | exact Sub.nil | refine Sub.cons rfl ?_))); exact (fun w h => h.takes))))) <;> (first | refine N.block ?_ | refine Ex.here ?_ | refine Ex.out rfl ?_))))) <;> (first | refine Ex.then ?_ | (refine N.next ?_ <;> (refine X.seq ?_ <;> (refine X.seq ?_ <;> (refine X.text (L := (.op .fin 0 (.op .fin 1 .nil))) rfl ?_ <;>
    ((apply XL.det0F rfl rfl rfl rfl; exact D.move rfl)) <;>
    ((apply XL.det0F rfl rfl rfl rfl; exact D.not rfl)) <;>
    (refine XL.nil ?_)) <;> (first | refine Ex.then ?_ | (refine N.next ?_ <;> ((
    refine X.cond rfl ?_ ?_; rotate_left; (focus (
    intro hc; first | exact absurd hc (by decide) | (cases hc; done) | (refine X.skip ?_))); rotate_right; (focus (
    intro hc; first | exact absurd hc (by decide) | (cases hc; done) | (refine X.text (L := (.op .fin 0 (.op .fin 1 (.op .fin 2 (.op .fin 3 (.op .fin 4 .nil)))))) rfl ?_ <;>
    ((apply XL.det0F rfl rfl rfl rfl; exact D.move rfl)) <;>
    ((apply XL.det0F rfl rfl rfl rfl; exact D.move rfl)) <;>
    (refine XL.slice1 rfl rfl rfl rfl rfl rfl (by intro g; infer_instance) (fun g => ?_)) <;>
    (simp only [Bool.toNat_false] at hnl; have hok : k = o.length := (by omega); have hD := orph_put ho hn (by omega) h3 (hI.last hok); (refine XL.append rfl rfl rfl rfl rfl rfl ?_ ?_ (fun a' c' => ?_); (focus (skip; unfold maxLen; omega)); (focus (intro _ _; infer_instance))); rw [encN_snoc _ n, show nx.length + 1 = (nx ++ [n]).length from (by simp)]) <;>
    ((apply XL.det0F rfl rfl rfl rfl; exact D.assign rfl)) <;>
    (refine XL.nil ?_))))))))) <;> (first | refine Ex.then ?_ | (refine N.next ?_ <;> (refine X.text (L := (.op .fin 0 (.op .fin 1 .nil))) rfl ?_ <;>
    ((first | (have hq := hD) | (simp only [Bool.toNat_true] at hnl; have hok : k = o.length := (by omega); have hD := orph_put ho hn (by omega) h3 (hI.done hok))); (apply XL.det0F rfl rfl rfl rfl; exact D.move rfl)) <;>
    ((apply XL.det0F rfl rfl rfl rfl; exact D.assign rfl)) <;>
    (refine XL.nil ?_)))))))))))))))))))) <;> (first | refine N.block ?_ | refine Ex.here ?_ | refine Ex.out rfl ?_)) <;> (first | refine Ex.then ?_ | (refine N.next ?_ <;> (refine X.text (L := (.op .fin 0 (.op .fin 1 (.op .fin 2 .nil)))) rfl ?_ <;>
    ((apply XL.det0F rfl rfl rfl rfl; exact D.move rfl)) <;>
    ((apply XL.det0F rfl rfl rfl rfl; first | exact D.add64 rfl rfl (by omega) | exact D.int rfl rfl rfl)) <;>
    ((apply XL.det0F rfl rfl rfl rfl; exact D.assign rfl)) <;>
    (refine XL.nil ?_)))))))) <;> (first | refine Ex.then ?_ | (first | (refine N.again ((i + 1, nx ++ [n], a', c')) ?_ ?_ ?_ ?_; (focus (exact ⟨by dsimp only; omega, hD, by simp only [List.length_append, List.length_cons, List.length_nil]; omega⟩)); (focus (first | omega | (dsimp only; omega))); (focus (repeat (first | exact Sub.nil | refine Sub.cons rfl ?_))); exact (fun w h => h.takes)) | (refine N.again ((i + 1, nx, a2, c2)) ?_ ?_ ?_ ?_; (focus (exact ⟨by dsimp only; omega, hD, by dsimp only; omega⟩)); (focus (first | omega | (dsimp only; omega))); (focus (repeat (first | exact Sub.nil | refine Sub.cons rfl ?_))); exact (fun w h => h.takes)) | (refine N.again ((i + 1, o, ao, co)) ?_ ?_ ?_ ?_; (focus (exact ⟨by dsimp only; omega, orph_skip ho hn (by first | exact .inl (by omega) | exact .inr (.inl h3) | exact .inr (.inr h4)), by dsimp only; omega⟩)); (focus (first | omega | (dsimp only; omega))); (focus (repeat (first | exact Sub.nil | refine Sub.cons rfl ?_))); exact (fun w h => h.takes))))) <;> (first | refine N.block ?_ | refine Ex.here ?_ | refine Ex.out rfl ?_))))) <;> (first | refine Ex.then ?_ | (refine N.next ?_ <;> (refine X.seq ?_ <;> (refine X.text (L := (.op .fin 0 (.op .fin 1 .nil))) rfl ?_ <;>
    (have hje : st.take i = st := (List.take_of_length_le (by omega)); rw [hje] at ho; (apply XL.det0F rfl rfl rfl rfl; exact D.move rfl)) <;>
    ((apply XL.det0F rfl rfl rfl rfl; exact D.assign rfl)) <;>
    (refine XL.nil ?_)) <;> (first | refine Ex.then ?_ | (refine N.next ?_ <;> ((refine X.ret ?_; (repeat (first | refine Rt.then ?_ | refine Rt.block ?_ | refine Rt.scope ?_)); apply Rt.done (Res.r1 Try.results14 (RV.tmp rfl)); (focus (exact ⟨ao, co, o, rfl, ho, rfl⟩)); exact fun w h => h.takes))))))))))))))
end Go.Lx
