/- Texts Ek Fa Fb, merged: a claim has at most 60 files. -/
import Derived.Test.YtgmfmcammaighaaGreatM22
import Derived.Test.YtgmfmcammaighaaGreatM13
import Derived.Test.YtgmfmcammaighaaGreatM4
import Derived.Test.YtgmfmcammaighaaGreatM17
import Derived.Test.YtgmfmcammaighaaGreatM5
import Derived.Test.YtgmfmcammaighaaGreatM19
/- Package extmap's walks, part k: holes. -/
namespace Go.Lx
open Go.Proofs
set_option linter.unusedVariables false
set_option linter.unusedSimpArgs false
set_option maxRecDepth 20000
set_option maxHeartbeats 2000000

def spnE (x : Ext) : Sp := (x.a, x.n)
theorem inE.may {x : Ext} (h : inE x) : mayS (spnE x) := by unfold inE at h; unfold mayS spnE; dsimp only; omega
/-- What is nowhere. -/
structure IsHole (σ : Sig) (s : Sp) (O : List Sp) : Prop where
  set : SetOK O O.length
  at_ : ∀ t, inS O t ↔ s.1 ≤ t ∧ t < s.1 + s.2 ∧ σ t = none
end Go.Lx

/- The document's map of sectors (lighterref07): its walks. -/
namespace Go.Lx
open Go.Proofs
set_option linter.unusedVariables false
set_option linter.unusedSimpArgs false
set_option maxRecDepth 20000
set_option maxHeartbeats 2000000

theorem encS_made (n : Nat) : (madeCells #[Value.int .i64 0, .int .i64 0] (n * 2)).toList = encS (List.replicate n (0, 0)) := by
  apply List.ext_getElem?
  intro t
  have hl : (encS (List.replicate n ((0 : Int), (0 : Int)))).length = n * 2 := by rw [encS, flat_len encS1 2 (fun _ => rfl)]; simp
  by_cases ht : t < n * 2
  · have h1 : t / 2 < n := by omega
    have h3 := flat_get encS1 2 (fun _ => rfl) (List.replicate n ((0 : Int), (0 : Int))) (t / 2) (t % 2) (0, 0) (by rw [List.getElem?_replicate, if_pos h1]) (by omega)
    rw [show t / 2 * 2 + t % 2 = t by omega] at h3
    rw [encS, h3]
    simp only [madeCells, encS1]
    rcases (by omega : t % 2 = 0 ∨ t % 2 = 1) with h | h <;> simp [h, ht]
  · rw [List.getElem?_eq_none (by rw [Array.length_toList, size_madeCells]; omega), List.getElem?_eq_none (by omega)]

theorem behind_spec (q p n : Int) (hn : -9223372036854775808 ≤ p + n ∧ p + n ≤ 9223372036854775807) (w : World) : Spec Tryz.prog 97 #[.agg #[.int .i64 q, .int .i64 p], .int .i64 n] w (fun _ => False) (fun v A => v = .agg #[.int .i64 q, .int .i64 (p + n)] ∧ A = []) := by
  refine Spec.enter (args := [.agg #[.int .i64 q, .int .i64 p], .int .i64 n]) (A := []) Tryz.func97 rfl Tryz.ntmps97 rfl (fun _ h => h) ?_
  ((refine X.st (by kernel_rfl) ?_<;>repeat' first|refine XL.boxN rfl rfl rfl rfl (by intro g; infer_instance) (fun g => ?_)|refine XL.box1 rfl rfl rfl rfl rfl (by intro g; infer_instance) (fun g => ?_)|refine XL.alloc rfl rfl rfl (by intro g; infer_instance) (fun g => ?_)|refine XL.nn ?_)<;>(refine X.st (by kernel_rfl) ?_<;>repeat' first|refine Z.p rfl ?_|refine Z.fa rfl rfl rfl ?_|refine Z.l1 rfl rfl rfl ?_|refine Z.lN rfl rfl rfl ?_|refine Z.lP rfl rfl rfl ?_|refine Z.g rfl (by omega) ?_|refine Z.w rfl ?_|refine Z.bd rfl rfl ?_|refine XL.store1 rfl rfl rfl rfl rfl ?_|refine XL.storeN rfl rfl rfl rfl rfl rfl ?_|refine XL.storeP rfl rfl rfl rfl rfl rfl ?_|refine XL.nn ?_)<;>(apply X.r1 Tryz.results97 (RV.of rfl);(focus (exact ⟨rfl, rfl⟩));exact fun _=>Conf.takes))
theorem refPlace_spec (q p : Int) (w : World) : Spec Tryz.prog 144 #[.agg #[.int .i64 q, .int .i64 p]] w (fun _ => False) (fun v A => v = .bool (decide (plS q p)) ∧ A = []) := by
  refine Spec.enter (args := [.agg #[.int .i64 q, .int .i64 p]]) (A := []) Tryz.func144 rfl Tryz.ntmps144 rfl (fun _ h => h) ?_
  ((refine X.st (by kernel_rfl) ?_<;>repeat' first|refine Z.p rfl ?_|refine XL.boxN rfl rfl rfl rfl (by intro g; infer_instance) (fun g => ?_)|refine XL.box1 rfl rfl rfl rfl rfl (by intro g; infer_instance) (fun g => ?_)|refine XL.nn ?_)<;>(refine X.st (by kernel_rfl) ?_<;>repeat' first|refine Z.p rfl ?_|refine Z.fa rfl rfl rfl ?_|refine Z.l1 rfl rfl rfl ?_|refine Z.lN rfl rfl rfl ?_|refine Z.lP rfl rfl rfl ?_|refine Z.ct rfl (by omega) ?_|refine Z.cf rfl (by omega) ?_|refine Z.cs rfl (fun _=>?_) (fun _=>?_)|refine Z.pk rfl rfl rfl rfl ?_|refine XL.nn ?_)<;>(apply X.r1 Tryz.results144 (RV.tmp rfl);(focus (refine ⟨congrArg Value.bool ?_, rfl⟩; first | rw [decide_eq_true (by unfold plS; omega)] | rw [decide_eq_false (by unfold plS; omega)]));exact fun _=>Conf.takes))
theorem refMayE_spec (x : Ext) (w : World) : Spec Tryz.prog 113 #[.agg #[.int .i64 x.a, .int .i64 x.n, .int .i64 x.q, .int .i64 x.p]] w (fun _ => False) (fun v A => v = .bool (decide (mayE x)) ∧ A = []) := by
  refine Spec.enter (args := [.agg #[.int .i64 x.a, .int .i64 x.n, .int .i64 x.q, .int .i64 x.p]]) (A := []) Tryz.func113 rfl Tryz.ntmps113 rfl (fun _ h => h) ?_
  ((refine X.st (by kernel_rfl) ?_<;>repeat' first|refine Z.p rfl ?_|refine XL.boxN rfl rfl rfl rfl (by intro g; infer_instance) (fun g => ?_)|refine XL.box1 rfl rfl rfl rfl rfl (by intro g; infer_instance) (fun g => ?_)|refine XL.nn ?_)<;>(refine X.st (by kernel_rfl) ?_<;>repeat' first|refine Z.p rfl ?_|(refine XL.at 2 ?_;((refine XL.call rfl rfl rfl rfl (fun w hw => refMay_spec _ _ w) ?_; rintro v B' ⟨rfl, rfl⟩; refine XL.both ?_); (by_cases hm : mayS (x.a, x.n) <;> first | rw [decide_eq_true hm] | rw [decide_eq_false hm])))|(refine XL.at 6 ?_;((refine XL.call rfl rfl rfl rfl (fun w hw => refPlace_spec _ _ w) ?_; rintro v B' ⟨rfl, rfl⟩; refine XL.both ?_); (by_cases hp : plS x.q x.p <;> first | rw [decide_eq_true hp] | rw [decide_eq_false hp])))|refine Z.fa rfl rfl rfl ?_|refine Z.l1 rfl rfl rfl ?_|refine Z.lN rfl rfl rfl ?_|refine Z.lP rfl rfl rfl ?_|refine Z.pk rfl rfl rfl rfl ?_|refine XL.nn ?_)<;>(apply X.r1 Tryz.results113 (RV.tmp rfl);(focus (refine ⟨congrArg Value.bool ?_, rfl⟩; first | simp [mayE, hm, hp] | simp [mayE, hm]));exact fun _=>Conf.takes))
end Go.Lx

/- The document's map of sectors: puts, cuts, moves, what is found. -/
namespace Go.Lx
open Go.Proofs
set_option linter.unusedVariables false
set_option linter.unusedSimpArgs false
set_option maxRecDepth 20000
set_option maxHeartbeats 4000000

theorem cast_succ (i : Nat) : ((i + 1 : Nat) : Int) = (i : Int) + 1 := by omega
end Go.Lx
