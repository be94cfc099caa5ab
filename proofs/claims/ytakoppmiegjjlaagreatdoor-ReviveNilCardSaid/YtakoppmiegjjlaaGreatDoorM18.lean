/- Texts Cc Db Ea, merged: a claim has at most 60 files. -/
import Derived.Test.YtakoppmiegjjlaaGreatDoorM4
import Derived.Test.YtakoppmiegjjlaaGreatDoorM17
import Derived.Test.YtakoppmiegjjlaaGreatDoorM14
import Derived.Test.YtakoppmiegjjlaaGreatDoorM12
import Derived.Test.YtakoppmiegjjlaaGreatDoorM2
import Derived.Test.YtakoppmiegjjlaaGreatDoorM13
/- The document's check sums. -/
namespace Go.Lx
open Go.Proofs
set_option linter.unusedVariables false
set_option linter.unusedSimpArgs false
set_option maxRecDepth 20000
set_option maxHeartbeats 4000000

end Go.Lx

/- Package dobj's walks: what is written. -/
namespace Go.Lx
open Go.Proofs
set_option linter.unusedVariables false
set_option linter.unusedSimpArgs false
set_option maxRecDepth 20000
set_option maxHeartbeats 4000000
theorem Rd.ext {w : World} {a : Option Addr} {n c m : Nat} {xs : List Ext} {x : Ext} (h : Rd w 4 a n c (encE xs)) (hx : xs[m]? = some x) : ∀ j u, [Value.int .i64 x.a, .int .i64 x.n, .int .i64 x.q, .int .i64 x.p][j]? = some u → w.cell? ((el a (m * 4)).add j) = some u := Rd.elem (f := encE1) h (fun _ => rfl) hx
theorem Rd.bd' {w : World} {sz : Nat} {a : Option Addr} {n c : Nat} {cs : List Value} (h : Rd w sz a n c cs) : n ≤ 9223372036854775807 := by
  have h1 := h.le
  have h2 := h.mx
  unfold maxLen at h2
  omega
theorem dEnd_spec (s : Sp) (h : -9223372036854775808 ≤ s.1 + s.2 ∧ s.1 + s.2 ≤ 9223372036854775807) (w : World) : Spec Tryz.prog 140 #[.agg #[.int .i64 s.1, .int .i64 s.2]] w (fun _ => False) (fun v A => v = .int .i64 (s.1 + s.2) ∧ A = []) := by
  refine Spec.enter (args := [.agg #[.int .i64 s.1, .int .i64 s.2]]) (A := []) Tryz.func140 rfl Tryz.ntmps140 rfl (fun _ h => h) ?_
  ((refine X.st (by kernel_rfl) ?_<;>repeat' first|refine Z.p rfl ?_|refine XL.boxN rfl rfl rfl rfl (by intro g; infer_instance) (fun g => ?_)|refine XL.box1 rfl rfl rfl rfl rfl (by intro g; infer_instance) (fun g => ?_)|refine XL.nn ?_)<;>(refine X.st (by kernel_rfl) ?_<;>repeat' first|refine Z.p rfl ?_|refine Z.fa rfl rfl rfl ?_|refine Z.l1 rfl rfl rfl ?_|refine Z.lN rfl rfl rfl ?_|refine Z.lP rfl rfl rfl ?_|refine Z.g rfl (by omega) ?_|refine Z.w rfl ?_|refine XL.nn ?_)<;>(apply X.r1 Tryz.results140 (RV.tmp rfl);(focus (exact ⟨rfl, rfl⟩));exact fun _=>Conf.takes))
end Go.Lx

/- Package extmap's walks, part a: extents. -/
namespace Go.Lx
open Go.Proofs
set_option linter.unusedVariables false
set_option linter.unusedSimpArgs false
set_option maxRecDepth 20000

theorem Rd.extE {w : World} {a : Option Addr} {n c m : Nat} {xs : List Ext} {x : Ext} (h : Rd w 4 a n c (encE xs)) (hx : xs[m]? = some x) : ∀ j u, [Value.int .i64 x.a, .int .i64 x.n, .int .i64 x.q, .int .i64 x.p][j]? = some u → w.cell? ((el a (m * 4)).add j) = some u := Rd.elem (f := encE1) h (fun _ => rfl) hx
theorem Rd.extLen {w : World} {a : Option Addr} {n c : Nat} {xs : List Ext} (h : Rd w 4 a n c (encE xs)) : xs.length = n := by
  have := h.len
  rw [encE, flat_len encE1 4 (fun _ => rfl)] at this
  omega
theorem encE_snoc (o : List Ext) (a n q p : Int) : encE o ++ [.int .i64 a, .int .i64 n, .int .i64 q, .int .i64 p] = encE (o ++ [⟨a, n, q, p⟩]) := by simp [encE, encE1]
theorem encE_len (o : List Ext) : (encE o).length = o.length * 4 := flat_len encE1 4 (fun _ => rfl) o

theorem place_spec (q p : Int) (w : World) : Spec Tryz.prog 207 #[.agg #[.int .i64 q, .int .i64 p]] w (fun _ => False) (fun v A => v = .bool (decide (plS q p)) ∧ A = []) := by
  refine Spec.enter (args := [.agg #[.int .i64 q, .int .i64 p]]) (A := []) Tryz.func207 rfl Tryz.ntmps207 rfl (fun _ h => h) ?_
  ((refine X.st (by kernel_rfl) ?_<;>repeat' first|refine Z.p rfl ?_|refine XL.boxN rfl rfl rfl rfl (by intro g; infer_instance) (fun g => ?_)|refine XL.box1 rfl rfl rfl rfl rfl (by intro g; infer_instance) (fun g => ?_)|refine XL.nn ?_)<;>(refine X.st (by kernel_rfl) ?_<;>repeat' first|refine Z.p rfl ?_|refine Z.fa rfl rfl rfl ?_|refine Z.l1 rfl rfl rfl ?_|refine Z.lN rfl rfl rfl ?_|refine Z.lP rfl rfl rfl ?_|refine Z.ct rfl (by omega) ?_|refine Z.cf rfl (by omega) ?_|refine Z.cs rfl (fun _=>?_) (fun _=>?_)|refine Z.pk rfl rfl rfl rfl ?_|refine XL.nn ?_)<;>(apply X.r1 Tryz.results207 (RV.tmp rfl);(focus (refine ⟨congrArg Value.bool ?_, rfl⟩; first | rw [decide_eq_true (by unfold plS; omega)] | rw [decide_eq_false (by unfold plS; omega)]));exact fun _=>Conf.takes))
theorem mayE_spec (x : Ext) (w : World) : Spec Tryz.prog 135 #[.agg #[.int .i64 x.a, .int .i64 x.n, .int .i64 x.q, .int .i64 x.p]] w (fun _ => False) (fun v A => v = .int .i64 (if mayE x then 0 else 1) ∧ A = []) := by
  refine Spec.enter (args := [.agg #[.int .i64 x.a, .int .i64 x.n, .int .i64 x.q, .int .i64 x.p]]) (A := []) Tryz.func135 rfl Tryz.ntmps135 rfl (fun _ h => h) ?_
  ((refine X.st (by kernel_rfl) ?_<;>repeat' first|refine Z.p rfl ?_|refine XL.boxN rfl rfl rfl rfl (by intro g; infer_instance) (fun g => ?_)|refine XL.box1 rfl rfl rfl rfl rfl (by intro g; infer_instance) (fun g => ?_)|refine XL.nn ?_)<;>refine X.seq ?_<;>((refine X.st (by kernel_rfl) ?_<;>repeat' first|refine Z.p rfl ?_|(refine XL.at 2 ?_;((refine XL.call rfl rfl rfl rfl (fun w hw => May_spec _ _ w) ?_; rintro v B' ⟨rfl, rfl⟩; refine XL.both ?_); (by_cases hm : mayS (x.a, x.n) <;> first | rw [if_pos hm] | rw [if_neg hm])))|(refine XL.at 7 ?_;((refine XL.call rfl rfl rfl rfl (fun w hw => place_spec _ _ w) ?_; rintro v B' ⟨rfl, rfl⟩; refine XL.both ?_); (by_cases hp : plS x.q x.p <;> first | rw [decide_eq_true hp] | rw [decide_eq_false hp])))|refine Z.fa rfl rfl rfl ?_|refine Z.l1 rfl rfl rfl ?_|refine Z.lN rfl rfl rfl ?_|refine Z.lP rfl rfl rfl ?_|refine Z.ct rfl (by omega) ?_|refine Z.cf rfl (by omega) ?_|refine Z.cs rfl (fun _=>?_) (fun _=>?_)|refine Z.pk rfl rfl rfl rfl ?_|refine XL.nn ?_)<;>(refine X.cond rfl ?_ ?_;rotate_left;(focus (intro hc;first|exact no_ hc rfl|(refine X.skip ?_)));rotate_right;(focus (intro hc;first|exact no_ hc rfl|((refine X.st (by kernel_rfl) ?_<;>repeat' first|refine Z.p rfl ?_|refine XL.nn ?_)<;>(apply X.r1 Tryz.results135 (RV.tmp rfl);(focus (refine ⟨congrArg (Value.int IntKind.i64) ?_, rfl⟩; first | simp [mayE, hm, hp] | simp [mayE, hm]));exact fun _=>Conf.takes))))))<;>(first|refine Ex.then ?_|refine N.next ?_<;>((refine X.st (by kernel_rfl) ?_<;>repeat' first|refine Z.p rfl ?_|refine XL.nn ?_)<;>(apply X.r1 Tryz.results135 (RV.tmp rfl);(focus (refine ⟨congrArg (Value.int IntKind.i64) ?_, rfl⟩; first | simp [mayE, hm, hp] | simp [mayE, hm]));exact fun _=>Conf.takes))))
theorem follows_spec (x y : Ext) (hx : inE x) (hy : inE y) (w : World) : Spec Tryz.prog 299 #[.agg #[.int .i64 x.a, .int .i64 x.n, .int .i64 x.q, .int .i64 x.p], .agg #[.int .i64 y.a, .int .i64 y.n, .int .i64 y.q, .int .i64 y.p]] w (fun _ => False) (fun v A => v = .bool (decide (Fol x y)) ∧ A = []) := by
  have hx' := hx
  have hy' := hy
  unfold inE at hx' hy'
  refine Spec.enter (args := [.agg #[.int .i64 x.a, .int .i64 x.n, .int .i64 x.q, .int .i64 x.p], .agg #[.int .i64 y.a, .int .i64 y.n, .int .i64 y.q, .int .i64 y.p]]) (A := []) Tryz.func299 rfl Tryz.ntmps299 rfl (fun _ h => h) ?_
  ((refine X.st (by kernel_rfl) ?_<;>repeat' first|refine Z.p rfl ?_|refine XL.boxN rfl rfl rfl rfl (by intro g; infer_instance) (fun g => ?_)|refine XL.box1 rfl rfl rfl rfl rfl (by intro g; infer_instance) (fun g => ?_)|refine XL.nn ?_)<;>(refine X.sd (.a 0 (.b 1 (.a 3 (.a 4 (.b 5 (.c 2 (.a 6 (.a 7 (.a 8 (.a 9 (.b 10 (.a 11 (.a 12 (.b 13 (.a 14 (.a 15 (.a 16 (.a 17 (.a 18 (.b 19 (.a 20 (.a 21 (.b 22 (.a 23 (.a 24 (.a 25 (.b 26 (.a 27 (.a 28 (.a 29 .n)))))))))))))))))))))))))))))) mixed (by kernel_rfl) ?_<;>repeat' first|refine Z.p rfl ?_|(refine XL.at 2 ?_;((refine XL.call rfl rfl rfl rfl (fun w hw => End_spec _ _ w) ?_; rintro v B' ⟨rfl, rfl⟩; refine XL.both ?_); rw [D.wrap64_fit (by omega)]))|refine Z.fa rfl rfl rfl ?_|refine Z.l1 rfl rfl rfl ?_|refine Z.lN rfl rfl rfl ?_|refine Z.lP rfl rfl rfl ?_|refine Z.ct rfl (by omega) ?_|refine Z.cf rfl (by omega) ?_|refine Z.cs rfl (fun _=>?_) (fun _=>?_)|refine Z.pk rfl rfl rfl rfl ?_|refine Z.g rfl (by omega) ?_|refine Z.w rfl ?_|refine XL.nn ?_)<;>(apply X.r1 Tryz.results299 (RV.tmp rfl);(focus (refine ⟨congrArg Value.bool ?_, rfl⟩; first | rw [decide_eq_true (by unfold Fol; omega)] | rw [decide_eq_false (by unfold Fol; omega)]));exact fun _=>Conf.takes))
end Go.Lx
