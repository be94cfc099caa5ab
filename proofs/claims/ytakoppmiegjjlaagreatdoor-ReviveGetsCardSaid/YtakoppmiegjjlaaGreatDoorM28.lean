import Derived.Test.YtakoppmiegjjlaaGreatDoorM4
import Derived.Test.YtakoppmiegjjlaaGreatDoorM27
import Derived.Test.YtakoppmiegjjlaaGreatDoorM18
import Derived.Test.YtakoppmiegjjlaaGreatDoorM22
import Derived.Test.YtakoppmiegjjlaaGreatDoorM5
import Derived.Test.YtakoppmiegjjlaaGreatDoorM24
set_option linter.unusedVariables false
set_option linter.unusedSimpArgs false
set_option maxRecDepth 20000
set_option maxHeartbeats 2000000
namespace Go.Lx
open Go.Proofs
end Go.Lx
namespace Go.Lx
open Go.Proofs
end Go.Lx
namespace Go.Lx
open Go.Proofs
theorem refPlace_spec (q p : Int) (w : World) : Spec Tryz.prog 190 #[.agg #[.int .i64 q, .int .i64 p]] w (fun _ => False) (fun v A => v = .bool (decide (plS q p)) ∧ A = []) := by
  refine Spec.enter (args := [.agg #[.int .i64 q, .int .i64 p]]) (A := []) Tryz.func190 rfl Tryz.ntmps190 rfl (fun _ h => h) ?_
  ((refine Qg (by kernel_rfl) ?_<;>repeat' first|refine Z.p rfl ?_|refine Qt rfl rfl rfl rfl (by intro g; infer_instance) (fun g => ?_)|refine Qf ?_)<;>(refine Qg (by kernel_rfl) ?_<;>repeat' first|refine Z.p rfl ?_|refine Z.fa rfl rfl rfl ?_|refine Z.l1 rfl rfl rfl ?_|refine Z.cs rfl (fun _=>?_) (fun _=>?_)|refine Qf ?_)<;>(apply X.r1 Tryz.results190 (Qi rfl);(focus (refine ⟨congrArg Value.bool ?_, rfl⟩; first| rw [decide_eq_true (by unfold plS; omega)] | rw [decide_eq_false (by unfold plS; omega)]));exact fun _=>Conf.takes))
theorem refMayE_spec (x : Ext) (w : World) : Spec Tryz.prog 111 #[.agg #[.int .i64 x.a, .int .i64 x.n, .int .i64 x.q, .int .i64 x.p]] w (fun _ => False) (fun v A => v = .bool (decide (mayE x)) ∧ A = []) := by
  refine Spec.enter (args := [.agg #[.int .i64 x.a, .int .i64 x.n, .int .i64 x.q, .int .i64 x.p]]) (A := []) Tryz.func111 rfl Tryz.ntmps111 rfl (fun _ h => h) ?_
  ((refine Qg (by kernel_rfl) ?_<;>repeat' first|refine Z.p rfl ?_|refine Qt rfl rfl rfl rfl (by intro g; infer_instance) (fun g => ?_)|refine Qf ?_)<;>(refine Qg (by kernel_rfl) ?_<;>repeat' first|refine Z.p rfl ?_|(refine XL.at 2 ?_;((refine XL.call rfl rfl rfl rfl (fun w hw => refMay_spec _ _ w) ?_; rintro v B' ⟨rfl, rfl⟩; refine Qh ?_); (by_cases hm : mayS (x.a, x.n) <;> first| rw [decide_eq_true hm] | rw [decide_eq_false hm])))|(refine XL.at 6 ?_;((refine XL.call rfl rfl rfl rfl (fun w hw => refPlace_spec _ _ w) ?_; rintro v B' ⟨rfl, rfl⟩; refine Qh ?_); (by_cases hp : plS x.q x.p <;> first| rw [decide_eq_true hp] | rw [decide_eq_false hp])))|refine Z.fa rfl rfl rfl ?_|refine Z.lP rfl rfl rfl ?_|refine Qf ?_)<;>(apply X.r1 Tryz.results111 (Qi rfl);(focus (refine ⟨congrArg Value.bool ?_, rfl⟩; first| simp [mayE, hm, hp] | simp [mayE, hm]));exact fun _=>Conf.takes))
end Go.Lx
