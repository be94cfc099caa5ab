/- Texts Wf Wg Wh, merged: a claim has at most 60 files. -/
import Derived.Test.YthgnlbibdiileaaGreatM4
import Derived.Test.YthgnlbibdiileaaGreatM10
/- Package wire's walks: bounded numbers and texts that are read. -/
namespace Go.Lx
open Go.Proofs
set_option linter.unusedVariables false
set_option linter.unusedSimpArgs false
set_option maxRecDepth 20000
set_option maxHeartbeats 4000000

theorem intR1 {s : Bs} {p x p' most : Nat} {e e' : Int} (h : RdR fewF 0 s p e x p' e') (hx : e' = 0 → x ≤ most) : RdR (intF most) 0 s p e x p' e' := by
  obtain ⟨h0, h⟩ := h
  refine ⟨h0, ?_⟩
  rcases h with ⟨h1, n, h2, h3, h4⟩ | ⟨h1, h2, h3⟩
  · exact .inl ⟨h1, n, by unfold intF; rw [h2]; simp only; rw [if_pos (hx h3)], h3, h4⟩
  · refine .inr ⟨?_, h2, h3⟩
    rcases h1 with h1 | h1
    · exact .inl h1
    · exact .inr (by unfold intF; rw [h1])
theorem intR2 {s : Bs} {p x p' most : Nat} {e e' : Int} (h : RdR fewF 0 s p e x p' e') (hp : p ≤ s.length) (he : e' = 0) (hx : ¬ x ≤ most) : RdR (intF most) 0 s p e 0 p 12 := by
  obtain ⟨h0, h⟩ := h
  refine ⟨hp, ?_⟩
  rcases h with ⟨h1, n, h2, h3, h4⟩ | ⟨h1, h2, h3⟩
  · exact .inr ⟨.inr (by unfold intF; rw [h2]; simp only; rw [if_neg hx]), rfl, by decide⟩
  · exact absurd he h3
theorem RdR.zero {α : Type} {f : Bs → Option (α × Nat)} {d : α} {s : Bs} {p : Nat} {e : Int} {x : α} {p' : Nat} {e' : Int} (h : RdR f d s p e x p' e') (he : ¬ e' = 0) : x = d := by
  rcases h.2 with ⟨_, _, _, h, _⟩ | ⟨_, h, _⟩
  · exact absurd h he
  · exact h
theorem IInt_spec (w : World) (H : Nat → Prop) (g p most : Nat) (e : Int) (s : Bs) (hown : Sep [cells g [.int .i64 p, .int .i64 e, .string ⟨List.toArray s⟩] 133] w H) (hp : p ≤ s.length) (hs : s.length ≤ 1000000000) (hmo : most < 9223372036854775808) : Spec Tryz.prog 74 #[.pointer (some ⟨g, 0, none⟩), .int .i64 most] w H (fun v A => ∃ x p' e', v = .int .i64 ((x : Nat) : Int) ∧ x ≤ most ∧ RdR (intF most) 0 s p e x p' e' ∧ A = [cells g [.int .i64 p', .int .i64 e', .string ⟨List.toArray s⟩] 133]) := by
  refine Spec.enter (args := [.pointer (some ⟨g, 0, none⟩), .int .i64 most]) (A := [cells g [.int .i64 p, .int .i64 e, .string ⟨List.toArray s⟩] 133]) Tryz.func74 rfl Tryz.ntmps74 rfl hown ?_
  ((refine X.st (by kernel_rfl) ?_<;>repeat' first|refine Z.p rfl ?_|refine XL.nn ?_)<;>(refine X.st (by kernel_rfl) ?_<;>repeat' first|refine Z.p rfl ?_|(refine XL.at 1 ?_;((refine XL.call rfl rfl rfl rfl (fun w hw => At_spec w g p (hw.cellAt (Loc.at_) rfl)) ?_; rintro v B' ⟨rfl, rfl⟩; refine XL.both ?_)))|refine XL.nn ?_)<;>(refine X.st (by kernel_rfl) ?_<;>repeat' first|refine Z.p rfl ?_|(refine XL.at 1 ?_;((refine XL.callF [cells g [.int .i64 p, .int .i64 e, .string ⟨List.toArray s⟩] 133] rfl rfl rfl rfl (fun w F hF hm hw => IVar_spec w F g p e s hF hp hs) ?_; rintro v B' ⟨x, p', e', rfl, hR, rfl⟩; refine XL.both ?_)))|refine XL.nn ?_)<;>refine X.seq ?_<;>((refine X.st (by kernel_rfl) ?_<;>repeat' first|refine Z.p rfl ?_|(refine XL.at 1 ?_;((refine XL.call rfl rfl rfl rfl (fun w hw => ready_spec w g e' (hw.cellAt (Loc.at_) rfl)) ?_; rintro v B' ⟨rfl, rfl⟩; refine XL.both ?_); (by_cases he : e' = 0 <;> first | rw [decide_eq_true he] | rw [decide_eq_false he])))|(refine XL.at 8 ?_;(first | refine XL.skipF rfl rfl rfl rfl ?_ | ((apply XL.det0F rfl rfl rfl rfl; exact D.convN rfl rfl); rw [Nat.mod_eq_of_lt (show most < 2 ^ IntKind.u64.bits from Nat.lt_trans hmo (by decide))])))|(refine XL.at 9 ?_;(first | refine XL.skipF rfl rfl rfl rfl ?_ | refine XL.splitF rfl rfl rfl rfl (D.int rfl rfl rfl) (fun h1 => ?_) (fun h1 => ?_)))|refine Z.ct rfl (by omega) ?_|refine Z.cf rfl (by omega) ?_|refine Z.cs rfl (fun _=>?_) (fun _=>?_)|refine Z.pk rfl rfl rfl rfl ?_|refine XL.nn ?_)<;>(refine X.cond rfl ?_ ?_;rotate_left;(focus (intro hc;first|exact no_ hc rfl|(refine X.skip ?_)));rotate_right;(focus (intro hc;first|exact no_ hc rfl|((refine X.st (by kernel_rfl) ?_<;>repeat' first|refine Z.p rfl ?_|(refine XL.at 4 ?_;((refine XL.callF [cells g [.int .i64 p', .int .i64 e', .string ⟨List.toArray s⟩] 133] rfl rfl rfl rfl (fun w F hF hm hw => stand_spec w F g p' p e' 12 s hF) ?_; rintro v B' ⟨rfl, rfl⟩; refine XL.both ?_)))|refine Z.fa rfl rfl rfl ?_|refine XL.nn ?_)<;>(refine X.st (by kernel_rfl) ?_<;>repeat' first|refine Z.p rfl ?_|refine XL.nn ?_)<;>(apply X.r1 Tryz.results74 (RV.tmp rfl);(focus (first | (exact ⟨x, p', e', rfl, hxm, intR1 hR (fun _ => hxm), rfl⟩) | (exact ⟨0, p, 12, rfl, Nat.zero_le _, intR2 hR hp he (by omega), rfl⟩)));exact fun _=>Conf.takes))))))<;>(first|refine Ex.then ?_|refine N.next ?_<;>((refine X.st (by kernel_rfl) ?_<;>repeat' first|refine Z.p rfl ?_|(refine XL.at 1 ?_;(have hxm : x ≤ most := (by first | omega | (have := hR.zero he; omega)); (apply XL.det0F rfl rfl rfl rfl; exact D.conv64 rfl (by omega))))|refine XL.nn ?_)<;>(apply X.r1 Tryz.results74 (RV.tmp rfl);(focus (first | (exact ⟨x, p', e', rfl, hxm, intR1 hR (fun _ => hxm), rfl⟩) | (exact ⟨0, p, 12, rfl, Nat.zero_le _, intR2 hR hp he (by omega), rfl⟩)));exact fun _=>Conf.takes))))
end Go.Lx

/- The document's numbers and texts that are read. -/
namespace Go.Lx
open Go.Proofs
set_option linter.unusedVariables false
set_option linter.unusedSimpArgs false
set_option maxRecDepth 20000
set_option maxHeartbeats 4000000

end Go.Lx

/- The document's numbers and texts that are read, at the beginning of bytes. -/
namespace Go.Lx
open Go.Proofs
set_option linter.unusedVariables false
set_option linter.unusedSimpArgs false
set_option maxRecDepth 20000
set_option maxHeartbeats 4000000

end Go.Lx
