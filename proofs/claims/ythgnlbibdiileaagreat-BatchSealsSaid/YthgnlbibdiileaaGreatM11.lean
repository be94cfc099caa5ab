/- Texts Wf Wg Wh, merged: a claim has at most 60 files. -/
import Derived.Test.YthgnlbibdiileaaGreatM4
import Derived.Test.YthgnlbibdiileaaGreatM10
/- Package wire's walks: bounded numbers and texts that are read. -/
namespace Go.Lx
open Go.Proofs
set_option linter.unusedVariables false
set_option linter.unusedSimpArgs false
set_option maxRecDepth 20000
set_option maxHeartbeats 4000000

theorem RdR.zero {α : Type} {f : Bs → Option (α × Nat)} {d : α} {s : Bs} {p : Nat} {e : Int} {x : α} {p' : Nat} {e' : Int} (h : RdR f d s p e x p' e') (he : ¬ e' = 0) : x = d := by
  rcases h.2 with ⟨_, _, _, h, _⟩ | ⟨_, h, _⟩
  · exact absurd h he
  · exact h
end Go.Lx

/- The document's numbers and texts that are read. -/
namespace Go.Lx
open Go.Proofs
set_option linter.unusedVariables false
set_option linter.unusedSimpArgs false
set_option maxRecDepth 20000
set_option maxHeartbeats 4000000

theorem hd_step : ∀ i : Nat, i < 9 → 1 ≤ i → hd i + 128 / 2 ^ (i - 1) = hd (i + 1) ∧ 128 / 2 ^ (i - 1) / 2 = 128 / 2 ^ i ∧ 128 / 2 ^ (i - 1) = 2 ^ (8 - i) := by decide +kernel
theorem refHead_spec (n : Nat) (hn : 1 ≤ n ∧ n ≤ 9) (w : World) : Spec Tryz.prog 138 #[.int .i64 n] w (fun _ => False) (fun v A => v = .int .i64 ((hd n : Nat) : Int) ∧ A = []) := by
  refine Spec.enter (args := [.int .i64 n]) (A := []) Tryz.func138 rfl Tryz.ntmps138 rfl (fun _ h => h) ?_
  ((refine X.st (by kernel_rfl) ?_<;>repeat' first|refine Z.p rfl ?_|refine XL.nn ?_)<;>(refine X.st (by kernel_rfl) ?_<;>repeat' first|refine Z.p rfl ?_|refine XL.nn ?_)<;>(refine X.st (by kernel_rfl) ?_<;>repeat' first|refine Z.p rfl ?_|refine XL.nn ?_)<;>refine X.seq ?_<;>((refine X.st (by kernel_rfl) ?_<;>repeat' first|refine Z.p rfl ?_|refine XL.nn ?_)<;>refine X.block ?_<;>((refine X.loop (ι := Nat) (fun i => [(0, .int .i64 n), (3, .int .i64 ((hd i : Nat) : Int)), (4, .int .i64 ((128 / 2 ^ (i - 1) : Nat) : Int)), (5, .int .i64 i)]) (fun _ => []) (fun i => 1 ≤ i ∧ i ≤ n) (fun i => n - i) (1) ?_ ?_ ?_ ?_; (focus (exact ⟨Nat.le_refl _, hn.1⟩)); (focus (repeat (first | exact Sub.nil | refine Sub.cons rfl ?_))); (focus (exact (fun w h => h.takes))); rintro i ⟨hi1, hi⟩; (dsimp only at *)) <;> (refine X.seq ?_<;>((refine X.st (by kernel_rfl) ?_<;>repeat' first|refine Z.p rfl ?_|(refine XL.at 2 ?_;(first | refine XL.splitF rfl rfl rfl rfl (D.int rfl rfl rfl) (fun h1 => ?_) (fun h1 => ?_)))|refine XL.nn ?_)<;>(refine X.cond rfl ?_ ?_;rotate_left;(focus (intro hc;first|exact no_ hc rfl|(refine X.exit ?_)));rotate_right;(focus (intro hc;first|exact no_ hc rfl|(refine X.skip ?_)))))<;>(first|refine Ex.then ?_|refine N.next ?_<;>(refine X.seq ?_<;>(refine X.block ?_<;>((refine X.st (by kernel_rfl) ?_<;>repeat' first|refine Z.p rfl ?_|(refine XL.at 2 ?_;(have hst := hd_step i (by omega) hi1; have hh := hd_lt9 i; have hq : 128 / 2 ^ (i - 1) ≤ 128 := (Nat.div_le_self _ _); obtain ⟨q, hqe⟩ : ∃ q, 128 / 2 ^ (i - 1) = q := (⟨_, rfl⟩); rw [hqe] at hst hq ⊢; (apply XL.det0F rfl rfl rfl rfl; exact D.add64 rfl rfl (by omega)); rw [show ((hd i : Nat) : Int) + (q : Int) = ((hd (i + 1) : Nat) : Int) from (by omega)]))|refine XL.nn ?_)<;>refine X.tx (by kernel_rfl) ?_<;>repeat' first|refine Z.p rfl ?_|(refine XL.at 1 ?_;((apply XL.det0F rfl rfl rfl rfl; exact D.quo64 (b := 2) rfl rfl ⟨by decide, by omega⟩); rw [show ((q / 2 : Nat) : Int) = ((128 / 2 ^ (i + 1 - 1) : Nat) : Int) from (by rw [hst.2.1]; rfl)]))|refine XL.nil ?_)<;>(first|refine N.block ?_|refine Ex.here ?_|refine Ex.out rfl ?_))<;>(first|refine Ex.then ?_|refine N.next ?_<;>(refine X.tx (by kernel_rfl) ?_<;>repeat' first|refine Z.p rfl ?_|refine Z.g rfl (by omega) ?_|refine Z.w rfl ?_|refine XL.nil ?_))))) <;> (first | refine Ex.then ?_ | ((refine N.again ((i + 1)) ?_ ?_ ?_ ?_; (focus (exact ⟨by omega, by omega⟩)); (focus (first | omega | (dsimp only; omega))); (focus (repeat (first | exact Sub.nil | refine Sub.cons rfl ?_))); exact (fun w h => h.takes)))))<;>(first|refine N.block ?_|refine Ex.here ?_|refine Ex.out rfl ?_))<;>(first|refine Ex.then ?_|refine N.next ?_<;>((refine X.st (by kernel_rfl) ?_<;>repeat' first|refine Z.p rfl ?_|refine XL.nn ?_)<;>(apply X.r1 Tryz.results138 (RV.tmp rfl);(focus (obtain rfl : i = n := (by omega); exact ⟨rfl, rfl⟩));exact fun _=>Conf.takes))))
where hd_lt9 (n : Nat) : hd n < 256 := Nat.lt_of_le_of_lt (Nat.sub_le _ _) (by decide)
theorem refSize_spec (x : Nat) (hx : x < 18446744073709551616) (w : World) : Spec Tryz.prog 137 #[.int .u64 x] w (fun _ => False) (fun v A => v = .int .i64 ((vsz x : Nat) : Int) ∧ A = []) := by
  refine Spec.enter (args := [.int .u64 x]) (A := []) Tryz.func137 rfl Tryz.ntmps137 rfl (fun _ h => h) ?_
  ((refine X.st (by kernel_rfl) ?_<;>repeat' first|refine Z.p rfl ?_|refine XL.nn ?_)<;>(refine X.st (by kernel_rfl) ?_<;>repeat' first|refine Z.p rfl ?_|refine XL.nn ?_)<;>(refine X.st (by kernel_rfl) ?_<;>repeat' first|refine Z.p rfl ?_|refine XL.nn ?_)<;>refine X.seq ?_<;>(refine X.block ?_<;>((refine X.loop (ι := Nat) (fun n => [(0, .int .u64 x), (3, .int .i64 n), (4, .int .u64 ((128 ^ (min n 8) : Nat) : Int))]) (fun _ => []) (fun n => 1 ≤ n ∧ n ≤ 9 ∧ (n = 1 ∨ 128 ^ (n - 1) ≤ x)) (fun n => 9 - n) (1) ?_ ?_ ?_ ?_; (focus (exact ⟨Nat.le_refl _, by decide, .inl rfl⟩)); (focus (repeat (first | exact Sub.nil | refine Sub.cons rfl ?_))); (focus (exact (fun w h => h.takes))); rintro n ⟨hn1, hn9, hlo⟩; (dsimp only at *)) <;> (refine X.seq ?_<;>((refine X.st (by kernel_rfl) ?_<;>repeat' first|refine Z.p rfl ?_|(refine XL.at 1 ?_;(first | refine XL.splitF rfl rfl rfl rfl (D.int rfl rfl rfl) (fun h1 => ?_) (fun h1 => ?_)))|(refine XL.at 5 ?_;(first | refine XL.skipF rfl rfl rfl rfl ?_ | refine XL.splitF rfl rfl rfl rfl (D.int rfl rfl rfl) (fun h2 => ?_) (fun h2 => ?_)))|refine Z.pk rfl rfl rfl rfl ?_|refine XL.nn ?_)<;>(refine X.cond rfl ?_ ?_;rotate_left;(focus (intro hc;first|exact no_ hc rfl|(refine X.exit ?_)));rotate_right;(focus (intro hc;first|exact no_ hc rfl|(refine X.skip ?_)))))<;>(first|refine Ex.then ?_|refine N.next ?_<;>(refine X.block ?_<;>((refine X.st (by kernel_rfl) ?_<;>repeat' first|refine Z.p rfl ?_|refine Z.g rfl (by omega) ?_|refine Z.w rfl ?_|refine XL.nn ?_)<;>(refine X.st (by kernel_rfl) ?_<;>repeat' first|refine Z.p rfl ?_|(refine XL.at 1 ?_;(have hmn : min n 8 = n := (by omega); rw [hmn] at h2; (refine XL.splitF rfl rfl rfl rfl (D.int rfl rfl rfl) (fun h3 => ?_) (fun h3 => ?_)) <;> (first | rw [show 128 ^ (min n 8) = 128 ^ (min (n + 1) 8) from (by rw [show min n 8 = min (n + 1) 8 from (by omega)])] | skip)))|refine XL.nn ?_)<;>(refine X.cond rfl ?_ ?_;rotate_left;(focus (intro hc;first|exact no_ hc rfl|(refine X.skip ?_)));rotate_right;(focus (intro hc;first|exact no_ hc rfl|(refine X.tx (by kernel_rfl) ?_<;>repeat' first|refine Z.p rfl ?_|(refine XL.at 1 ?_;(have hpw : 128 ^ n ≤ 128 ^ 7 := (Nat.pow_le_pow_right (by decide) (by omega)); rw [hmn]; (apply XL.det0F rfl rfl rfl rfl; exact D.mulN (a := 128) rfl rfl rfl (show 128 * 128 ^ n < 18446744073709551616 by omega)); rw [show 128 * 128 ^ n = 128 ^ (min (n + 1) 8) from (by rw [show min (n + 1) 8 = n + 1 from (by omega), Nat.pow_succ, Nat.mul_comm])]))|refine XL.nil ?_)))))<;>(first|refine N.block ?_|refine Ex.here ?_|refine Ex.out rfl ?_)))) <;> (first | refine Ex.then ?_ | ((refine N.again ((n + 1)) ?_ ?_ ?_ ?_; (focus (exact ⟨by omega, by omega, .inr (by rw [Nat.add_sub_cancel]; omega)⟩)); (focus (first | omega | (dsimp only; omega))); (focus (repeat (first | exact Sub.nil | refine Sub.cons rfl ?_))); exact (fun w h => h.takes)))))<;>(first|refine N.block ?_|refine Ex.here ?_|refine Ex.out rfl ?_))<;>(first|refine Ex.then ?_|refine N.next ?_<;>((refine X.st (by kernel_rfl) ?_<;>repeat' first|refine Z.p rfl ?_|refine XL.nn ?_)<;>(apply X.r1 Tryz.results137 (RV.tmp rfl);(focus (have hv : vsz x = n := (vsz_eq ⟨hn1, hn9⟩ hlo (by first | exact .inl (by omega) | exact .inr (by rw [show min n 8 = n from (by omega)] at h2; omega))); exact ⟨by rw [hv], rfl⟩));exact fun _=>Conf.takes))))
end Go.Lx

/- The document's numbers and texts that are read, at the beginning of bytes. -/
namespace Go.Lx
open Go.Proofs
set_option linter.unusedVariables false
set_option linter.unusedSimpArgs false
set_option maxRecDepth 20000
set_option maxHeartbeats 4000000

end Go.Lx
