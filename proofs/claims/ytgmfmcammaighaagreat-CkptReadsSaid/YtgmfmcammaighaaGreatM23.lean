/- Texts Ek Fa Fb, merged: a claim has at most 60 files. -/
import Derived.Test.YtgmfmcammaighaaGreatM22
import Derived.Test.YtgmfmcammaighaaGreatM13
import Derived.Test.YtgmfmcammaighaaGreatM4
import Derived.Test.YtgmfmcammaighaaGreatM17
import Derived.Test.YtgmfmcammaighaaGreatM5
import Derived.Test.YtgmfmcammaighaaGreatM19
/- Package extmap's walks, part k: holes. -/
namespace Go.Lx
open Go.Proofs
set_option linter.unusedVariables false
set_option linter.unusedSimpArgs false
set_option maxRecDepth 20000
set_option maxHeartbeats 2000000

def spnE (x : Ext) : Sp := (x.a, x.n)
theorem inE.may {x : Ext} (h : inE x) : mayS (spnE x) := by unfold inE at h; unfold mayS spnE; dsimp only; omega
/-- What is nowhere. -/
structure IsHole (σ : Sig) (s : Sp) (O : List Sp) : Prop where
  set : SetOK O O.length
  at_ : ∀ t, inS O t ↔ s.1 ≤ t ∧ t < s.1 + s.2 ∧ σ t = none
end Go.Lx

/- The document's map of sectors (lighterref07): its walks. -/
namespace Go.Lx
open Go.Proofs
set_option linter.unusedVariables false
set_option linter.unusedSimpArgs false
set_option maxRecDepth 20000
set_option maxHeartbeats 2000000

theorem refPlace_spec (q p : Int) (w : World) : Spec Tryz.prog 144 #[.agg #[.int .i64 q, .int .i64 p]] w (fun _ => False) (fun v A => v = .bool (decide (plS q p)) ∧ A = []) := by
  refine Spec.enter (args := [.agg #[.int .i64 q, .int .i64 p]]) (A := []) Tryz.func144 rfl Tryz.ntmps144 rfl (fun _ h => h) ?_
  ((refine X.st (by kernel_rfl) ?_<;>repeat' first|refine Z.p rfl ?_|refine XL.boxN rfl rfl rfl rfl (by intro g; infer_instance) (fun g => ?_)|refine XL.box1 rfl rfl rfl rfl rfl (by intro g; infer_instance) (fun g => ?_)|refine XL.nn ?_)<;>(refine X.st (by kernel_rfl) ?_<;>repeat' first|refine Z.p rfl ?_|refine Z.fa rfl rfl rfl ?_|refine Z.l1 rfl rfl rfl ?_|refine Z.lN rfl rfl rfl ?_|refine Z.lP rfl rfl rfl ?_|refine Z.ct rfl (by omega) ?_|refine Z.cf rfl (by omega) ?_|refine Z.cs rfl (fun _=>?_) (fun _=>?_)|refine Z.pk rfl rfl rfl rfl ?_|refine XL.nn ?_)<;>(apply X.r1 Tryz.results144 (RV.tmp rfl);(focus (refine ⟨congrArg Value.bool ?_, rfl⟩; first | rw [decide_eq_true (by unfold plS; omega)] | rw [decide_eq_false (by unfold plS; omega)]));exact fun _=>Conf.takes))
theorem refMayE_spec (x : Ext) (w : World) : Spec Tryz.prog 113 #[.agg #[.int .i64 x.a, .int .i64 x.n, .int .i64 x.q, .int .i64 x.p]] w (fun _ => False) (fun v A => v = .bool (decide (mayE x)) ∧ A = []) := by
  refine Spec.enter (args := [.agg #[.int .i64 x.a, .int .i64 x.n, .int .i64 x.q, .int .i64 x.p]]) (A := []) Tryz.func113 rfl Tryz.ntmps113 rfl (fun _ h => h) ?_
  ((refine X.st (by kernel_rfl) ?_<;>repeat' first|refine Z.p rfl ?_|refine XL.boxN rfl rfl rfl rfl (by intro g; infer_instance) (fun g => ?_)|refine XL.box1 rfl rfl rfl rfl rfl (by intro g; infer_instance) (fun g => ?_)|refine XL.nn ?_)<;>(refine X.st (by kernel_rfl) ?_<;>repeat' first|refine Z.p rfl ?_|(refine XL.at 2 ?_;((refine XL.call rfl rfl rfl rfl (fun w hw => refMay_spec _ _ w) ?_; rintro v B' ⟨rfl, rfl⟩; refine XL.both ?_); (by_cases hm : mayS (x.a, x.n) <;> first | rw [decide_eq_true hm] | rw [decide_eq_false hm])))|(refine XL.at 6 ?_;((refine XL.call rfl rfl rfl rfl (fun w hw => refPlace_spec _ _ w) ?_; rintro v B' ⟨rfl, rfl⟩; refine XL.both ?_); (by_cases hp : plS x.q x.p <;> first | rw [decide_eq_true hp] | rw [decide_eq_false hp])))|refine Z.fa rfl rfl rfl ?_|refine Z.l1 rfl rfl rfl ?_|refine Z.lN rfl rfl rfl ?_|refine Z.lP rfl rfl rfl ?_|refine Z.pk rfl rfl rfl rfl ?_|refine XL.nn ?_)<;>(apply X.r1 Tryz.results113 (RV.tmp rfl);(focus (refine ⟨congrArg Value.bool ?_, rfl⟩; first | simp [mayE, hm, hp] | simp [mayE, hm]));exact fun _=>Conf.takes))
end Go.Lx

/- The document's map of sectors: puts, cuts, moves, what is found. -/
namespace Go.Lx
open Go.Proofs
set_option linter.unusedVariables false
set_option linter.unusedSimpArgs false
set_option maxRecDepth 20000
set_option maxHeartbeats 4000000

end Go.Lx
