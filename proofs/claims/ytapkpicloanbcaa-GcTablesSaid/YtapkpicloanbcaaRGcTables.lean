/- lighterlaw21.GcTables returns true whatever it is handed, and what it is handed reads as it did. No condition. -/
import Derived.Test.YtapkpicloanbcaaGv
import Derived.Test.YtapkpicloanbcaaXk
import Derived.Test.YtapkpicloanbcaaRows
namespace Go.Proofs.Ytapkpicloanbcaa.gcTables
open Go.ChangeShapes Go.WideShapes Go.ChangeAt Go.RowKit Go.Lx
set_option linter.unusedVariables false
theorem own : ownKnob Try.prog.godebug = none := by kernel_rfl
theorem laidOut : laidOutB Try.prog = true := by kernel_rfl
set_option maxRecDepth 100000 in
theorem lifted (os : Os) (started : os.Started) (H : Type) (enc : TypeId × Value → H) :
    ReturnsInHanded {} Try.checked os 7 .any (Rows.gcTablesSpec.pre6 enc Try.prog Try.f7 Rows.gcTablesRow.domain false) (Rows.gcTablesSpec.post enc Try.prog Try.f7 false true false false) := by
  refine returnsInHanded_of_change_sized (C := Try.checked) own started (by kernel_rfl) Try.func7
    (ChangeSpec.witness6 (enc := enc) (C := Try.checked) false ⟨#[], #[.slice none 0 0, .slice none 0 0], []⟩ 8 (by kernel_rfl) (by kernel_rfl) (by kernel_rfl) (by kernel_rfl)) ?_
  intro W base args ds gs before hval0 hW hcnd hsz0 _
  have hsz : (DataW.weightsEach Try.prog (Try.f7.params.toList ++ Rows.gcTablesSpec.plain.varTypes Try.prog) (ds ++ gs)).all (· ≤ reachBytes) = true := hsz0
  have hval : ∀ (j : Nat) t v, Try.f7.params[j]? = some t → args[j]? = some v → Value.okWide Try.prog W .any base t v := hval0
  have hW' := hW
  obtain ⟨p, q, hA0, hV, rfl, hfz, hnd⟩ := hW
  have hA : DataW.TrodAll enc Try.prog W 0 (fun _ => true) true Try.f7.params.toList args.toList ds p := hA0
  rw [Try.params7] at hA hval hsz
  obtain ⟨v0, vs0, d0, ds0, p0, q0, hargs, rfl, rfl, h0, rr0⟩ := trodAll_cons hA
  obtain ⟨v1, vs1, d1, ds1, p1, q1, rfl, rfl, rfl, h1, rr1⟩ := trodAll_cons rr0
  obtain ⟨rfl, rfl, rfl⟩ := trodAll_nil rr1
  obtain rfl : args = #[v0, v1] := by cases args; simp_all
  obtain ⟨rfl, rfl⟩ := trodVars_none hV
  obtain ⟨a0, n0, c0, rfl⟩ := okWide_slice Try.underlying22 (hval 0 22 v0 rfl rfl)
  have k0 := h0
  have lt0 : ∀ x ∈ p0, x.block < W.heap.size := by obtain ⟨m, hm⟩ := k0; exact DataW.trod_lt m _ _ _ hm
  obtain ⟨l0, e0, r0, g0⟩ := openW_slice Try.underlying22 (by kernel_rfl) (by decide) (OpensW.map (opensW_struct Try.underlying68 (by kernel_rfl) (OpF.cons rfl (opensW_int Try.underlying3 (by kernel_rfl)) (OpF.cons rfl (opensW_int Try.underlying3 (by kernel_rfl)) (OpF.cons rfl (opensW_int Try.underlying3 (by kernel_rfl)) OpF.nil)))) (fun x => ⟨x.1, x.2.1, x.2.2.1⟩) encU1 (fun _ _ => True) (fun _ => rfl) (fun _ _ _ => rfl) (fun w a h => trivial)) h0
  have y0 : n0 * 24 ≤ 140737488351232 := sized_len hsz (j := 0) (t := 22) rfl rfl Try.underlying22 (by kernel_rfl) h0
  subst e0
  obtain ⟨a1, n1, c1, rfl⟩ := okWide_slice Try.underlying41 (hval 1 41 v1 rfl rfl)
  have k1 := h1
  have lt1 : ∀ x ∈ p1, x.block < W.heap.size := by obtain ⟨m, hm⟩ := k1; exact DataW.trod_lt m _ _ _ hm
  obtain ⟨l1, e1, r1, g1⟩ := openW_slice Try.underlying41 (by kernel_rfl) (by decide) (OpensW.map (opensW_struct Try.underlying57 (by kernel_rfl) (OpF.cons rfl (OpensW.map (opensW_struct Try.underlying53 (by kernel_rfl) (OpF.cons rfl (opensW_int Try.underlying3 (by kernel_rfl)) (OpF.cons rfl (opensW_int Try.underlying3 (by kernel_rfl)) OpF.nil))) (fun x => (x.1, x.2.1)) encS1 (fun _ _ => True) (fun _ => rfl) (fun _ _ _ => rfl) (fun w a h => trivial)) (OpF.cons rfl (OpensW.map (opensW_struct Try.underlying55 (by kernel_rfl) (OpF.cons rfl (opensW_int Try.underlying3 (by kernel_rfl)) (OpF.cons rfl (opensW_int Try.underlying3 (by kernel_rfl)) OpF.nil))) (fun x => (x.1, x.2.1)) encS1 (fun _ x => i64 x.1 ∧ i64 x.2) (fun _ => rfl) (fun _ _ _ => rfl) (fun w a h => ⟨wf_i64' h.1, wf_i64' h.2.1⟩)) OpF.nil))) (fun x => ⟨x.1.1, x.1.2, x.2.1.1, x.2.1.2⟩) encE1 (fun _ _ => True) (fun _ => rfl) (fun _ _ _ => rfl) (fun w a h => trivial)) h1
  have y1 : n1 * 32 ≤ 140737488351232 := sized_len hsz (j := 1) (t := 41) rfl rfl Try.underlying41 (by kernel_rfl) h1
  subst e1
  refine ((GcTables_spec W a0 a1 c0 c1 l0 l1 r0 r1).says).mono fun e W' ⟨he, bel⟩ => ?_
  subst he
  exact ⟨_, rfl, _, _, _, [], _, [], hW', trodAll_mk1 (shut_bool Try.underlying4 _), (trodAll_cons_mk (Below.trod laidOut (by kernel_rfl) (of_decide_eq_true (by kernel_rfl)) k0 bel lt0) (trodAll_cons_mk (Below.trod laidOut (by kernel_rfl) (of_decide_eq_true (by kernel_rfl)) k1 bel lt1) trodAll_mk0)), rfl, bel.frame _, fun h => by cases h⟩
theorem over : Rows.gcTablesRow.holds Try.pinned (OpenSpec.ofChange Rows.gcTablesSpec) :=
  OpenClaim.holds_of_wide 7 Try.f7 rfl rfl rfl rfl rfl rfl rfl ⟨rfl, rfl, rfl, rfl, rfl⟩ rfl rfl rfl rfl rfl (by kernel_rfl) Try.func7 (by kernel_rfl)
    (of_decide_eq_true (by kernel_rfl)) (by unfold Func.isWrapper; first | (rw [if_pos (by decide +kernel)]; kernel_rfl) | (rw [if_neg (by decide +kernel)]; exact ⟨rfl, rfl⟩))
    (fun os started H enc _ => lifted os started H enc)
theorem proved : Rows.GcTablesSaid := over
end Go.Proofs.Ytapkpicloanbcaa.gcTables
namespace Go.Proofs.Ytapkpicloanbcaa
/-- The row, under a short name, for the claim. -/
theorem gcTables_holds : Rows.GcTablesSaid := gcTables.proved
#print axioms gcTables_holds
end Go.Proofs.Ytapkpicloanbcaa
