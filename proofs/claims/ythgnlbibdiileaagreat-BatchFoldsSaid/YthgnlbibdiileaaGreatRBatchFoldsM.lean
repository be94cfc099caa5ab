/- lighterlaw16.BatchFolds returns true whatever it is handed, and what it is handed reads as it did. No condition. -/
import Derived.Test.YthgnlbibdiileaaGreatM24
import Derived.Test.YthgnlbibdiileaaGreatM3
import Derived.Test.YthgnlbibdiileaaGreatRows
namespace Go.Proofs.YthgnlbibdiileaaGreat.batchFolds
open Go.ChangeShapes Go.WideShapes Go.ChangeAt Go.RowKit Go.Lx
set_option linter.unusedVariables false
theorem own : ownKnob Tryz.prog.godebug = none := by kernel_rfl
theorem laidOut : laidOutB Tryz.prog = true := by kernel_rfl
set_option maxRecDepth 100000 in
theorem lifted (os : Os) (started : os.Started) (H : Type) (enc : TypeId × Value → H) :
    ReturnsInHanded {} Tryz.checked os 6 .any (Rows.batchFoldsSpec.pre6 enc Tryz.prog Tryz.f6 Rows.batchFoldsRow.domain false) (Rows.batchFoldsSpec.post enc Tryz.prog Tryz.f6 false true false false) := by
  refine returnsInHanded_of_change_sized (C := Tryz.checked) own started (by kernel_rfl) Tryz.func6
    (ChangeSpec.witness6 (enc := enc) (C := Tryz.checked) false ⟨#[], #[.slice none 0 0], []⟩ 8 (by kernel_rfl) (by kernel_rfl) (by kernel_rfl) (by kernel_rfl)) ?_
  intro W base args ds gs before hval0 hW hcnd hsz0 _
  have hsz : (DataW.weightsEach Tryz.prog (Tryz.f6.params.toList ++ Rows.batchFoldsSpec.plain.varTypes Tryz.prog) (ds ++ gs)).all (· ≤ reachBytes) = true := hsz0
  have hval : ∀ (j : Nat) t v, Tryz.f6.params[j]? = some t → args[j]? = some v → Value.okWide Tryz.prog W .any base t v := hval0
  have hW' := hW
  obtain ⟨p, q, hA0, hV, rfl, hfz, hnd⟩ := hW
  have hA : DataW.TrodAll enc Tryz.prog W 0 (fun _ => true) true Tryz.f6.params.toList args.toList ds p := hA0
  rw [Tryz.params6] at hA hval hsz
  obtain ⟨v0, vs0, d0, ds0, p0, q0, hargs, rfl, rfl, h0, rr0⟩ := trodAll_cons hA
  obtain ⟨rfl, rfl, rfl⟩ := trodAll_nil rr0
  obtain rfl : args = #[v0] := by cases args; simp_all
  obtain ⟨rfl, rfl⟩ := trodVars_none hV
  obtain ⟨a0, n0, c0, rfl⟩ := okWide_slice Tryz.underlying22 (hval 0 22 v0 rfl rfl)
  have k0 := h0
  have lt0 : ∀ x ∈ p0, x.block < W.heap.size := by obtain ⟨m, hm⟩ := k0; exact DataW.trod_lt m _ _ _ hm
  obtain ⟨l0, e0, r0, g0⟩ := openW_slice Tryz.underlying22 (by kernel_rfl) (by decide) (OpensW.map (opensW_struct Tryz.underlying36 (by kernel_rfl) (OpF.cons rfl (opensW_int Tryz.underlying3 (by kernel_rfl)) (OpF.cons rfl (opensW_int Tryz.underlying3 (by kernel_rfl)) (OpF.cons rfl (opensW_int Tryz.underlying3 (by kernel_rfl)) (OpF.cons rfl (opensW_slice Tryz.underlying34 (by kernel_rfl) (by decide) (OpensW.map (opensW_struct Tryz.underlying63 (by kernel_rfl) (OpF.cons rfl (opensW_int Tryz.underlying3 (by kernel_rfl)) (OpF.cons rfl (opensW_int Tryz.underlying3 (by kernel_rfl)) OpF.nil))) (fun x => (x.1, x.2.1)) encS1 (fun _ _ => True) (fun _ => rfl) (fun _ _ _ => rfl) (fun w a h => trivial))) (OpF.cons rfl (opensW_string Tryz.underlying9 (by kernel_rfl)) (OpF.cons rfl (opensW_string Tryz.underlying9 (by kernel_rfl)) OpF.nil))))))) (fun x => ⟨⟨x.1, x.2.1, x.2.2.1, x.2.2.2.1.l, x.2.2.2.2.1.data.toList, x.2.2.2.2.2.1.data.toList⟩, x.2.2.2.1.a, x.2.2.2.1.c⟩) encR1 (RcIn) (fun _ => rfl) (fun w a h => by have e := h.2.2.2.1.1; simp only [encR1, e]; simp) (fun w a h => by have e := h.2.2.2.1.1; have r := h.2.2.2.1.2.1; rw [← e] at r; exact ⟨r, size_i64 h.2.2.2.2.1, size_i64 h.2.2.2.2.2.1⟩)) h0
  have y0 : n0 * 80 ≤ 140737488351232 := sized_len hsz (j := 0) (t := 22) rfl rfl Tryz.underlying22 (by kernel_rfl) h0
  subst e0
  refine ((BatchFolds_spec W a0 c0 l0 r0 g0).says).mono fun e W' ⟨he, bel⟩ => ?_
  subst he
  exact ⟨_, rfl, _, _, _, [], _, [], hW', trodAll_mk1 (shut_bool Tryz.underlying4 _), (trodAll_cons_mk (Below.trod laidOut (by kernel_rfl) (of_decide_eq_true (by kernel_rfl)) k0 bel lt0) trodAll_mk0), rfl, bel.frame _, fun h => by cases h⟩
theorem over : Rows.batchFoldsRow.holds Tryz.pinned (OpenSpec.ofChange Rows.batchFoldsSpec) :=
  OpenClaim.holds_of_wide 6 Tryz.f6 rfl rfl rfl rfl rfl rfl rfl ⟨rfl, rfl, rfl, rfl, rfl⟩ rfl rfl rfl rfl rfl (by kernel_rfl) Tryz.func6 (by kernel_rfl)
    (of_decide_eq_true (by kernel_rfl)) (by unfold Func.isWrapper; first | (rw [if_pos (by decide +kernel)]; kernel_rfl) | (rw [if_neg (by decide +kernel)]; exact ⟨rfl, rfl⟩))
    (fun os started H enc _ => lifted os started H enc)
theorem proved : Rows.BatchFoldsSaid := over
end Go.Proofs.YthgnlbibdiileaaGreat.batchFolds
namespace Go.Proofs.YthgnlbibdiileaaGreat
/-- The row, under a short name, for the claim. -/
theorem batchFolds_holds : Rows.BatchFoldsSaid := batchFolds.proved
#print axioms batchFolds_holds
end Go.Proofs.YthgnlbibdiileaaGreat
