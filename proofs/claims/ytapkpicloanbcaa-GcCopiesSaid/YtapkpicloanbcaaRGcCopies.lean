/- lighterlaw21.GcCopies returns true whatever it is handed, and what it is handed reads as it did. No condition. -/
import Derived.Test.YtapkpicloanbcaaGh
import Derived.Test.YtapkpicloanbcaaXk
import Derived.Test.YtapkpicloanbcaaRows
namespace Go.Proofs.Ytapkpicloanbcaa.gcCopies
open Go.ChangeShapes Go.WideShapes Go.ChangeAt Go.RowKit Go.Lx
set_option linter.unusedVariables false
theorem own : ownKnob Try.prog.godebug = none := by kernel_rfl
theorem laidOut : laidOutB Try.prog = true := by kernel_rfl
set_option maxRecDepth 100000 in
theorem lifted (os : Os) (started : os.Started) (H : Type) (enc : TypeId × Value → H) :
    ReturnsInHanded {} Try.checked os 6 .any (Rows.gcCopiesSpec.pre6 enc Try.prog Try.f6 Rows.gcCopiesRow.domain false) (Rows.gcCopiesSpec.post enc Try.prog Try.f6 false true false false) := by
  refine returnsInHanded_of_change_sized (C := Try.checked) own started (by kernel_rfl) Try.func6
    (ChangeSpec.witness6 (enc := enc) (C := Try.checked) false ⟨#[], #[.slice none 0 0, .slice none 0 0, .agg #[.int .i64 0, .int .i64 0]], []⟩ 8 (by kernel_rfl) (by kernel_rfl) (by kernel_rfl) (by kernel_rfl)) ?_
  intro W base args ds gs before hval0 hW hcnd hsz0 _
  have hsz : (DataW.weightsEach Try.prog (Try.f6.params.toList ++ Rows.gcCopiesSpec.plain.varTypes Try.prog) (ds ++ gs)).all (· ≤ reachBytes) = true := hsz0
  have hval : ∀ (j : Nat) t v, Try.f6.params[j]? = some t → args[j]? = some v → Value.okWide Try.prog W .any base t v := hval0
  have hW' := hW
  obtain ⟨p, q, hA0, hV, rfl, hfz, hnd⟩ := hW
  have hA : DataW.TrodAll enc Try.prog W 0 (fun _ => true) true Try.f6.params.toList args.toList ds p := hA0
  rw [Try.params6] at hA hval hsz
  obtain ⟨v0, vs0, d0, ds0, p0, q0, hargs, rfl, rfl, h0, rr0⟩ := trodAll_cons hA
  obtain ⟨v1, vs1, d1, ds1, p1, q1, rfl, rfl, rfl, h1, rr1⟩ := trodAll_cons rr0
  obtain ⟨v2, vs2, d2, ds2, p2, q2, rfl, rfl, rfl, h2, rr2⟩ := trodAll_cons rr1
  obtain ⟨rfl, rfl, rfl⟩ := trodAll_nil rr2
  obtain rfl : args = #[v0, v1, v2] := by cases args; simp_all
  obtain ⟨rfl, rfl⟩ := trodVars_none hV
  obtain ⟨a0, n0, c0, rfl⟩ := okWide_slice Try.underlying41 (hval 0 41 v0 rfl rfl)
  have k0 := h0
  have lt0 : ∀ x ∈ p0, x.block < W.heap.size := by obtain ⟨m, hm⟩ := k0; exact DataW.trod_lt m _ _ _ hm
  obtain ⟨l0, e0, r0, g0⟩ := openW_slice Try.underlying41 (by kernel_rfl) (by decide) (OpensW.map (opensW_struct Try.underlying57 (by kernel_rfl) (OpF.cons rfl (OpensW.map (opensW_struct Try.underlying53 (by kernel_rfl) (OpF.cons rfl (opensW_int Try.underlying3 (by kernel_rfl)) (OpF.cons rfl (opensW_int Try.underlying3 (by kernel_rfl)) OpF.nil))) (fun x => (x.1, x.2.1)) encS1 (fun _ _ => True) (fun _ => rfl) (fun _ _ _ => rfl) (fun w a h => trivial)) (OpF.cons rfl (OpensW.map (opensW_struct Try.underlying55 (by kernel_rfl) (OpF.cons rfl (opensW_int Try.underlying3 (by kernel_rfl)) (OpF.cons rfl (opensW_int Try.underlying3 (by kernel_rfl)) OpF.nil))) (fun x => (x.1, x.2.1)) encS1 (fun _ x => i64 x.1 ∧ i64 x.2) (fun _ => rfl) (fun _ _ _ => rfl) (fun w a h => ⟨wf_i64' h.1, wf_i64' h.2.1⟩)) OpF.nil))) (fun x => ⟨x.1.1, x.1.2, x.2.1.1, x.2.1.2⟩) encE1 (fun _ _ => True) (fun _ => rfl) (fun _ _ _ => rfl) (fun w a h => trivial)) h0
  have y0 : n0 * 32 ≤ 140737488351232 := sized_len hsz (j := 0) (t := 41) rfl rfl Try.underlying41 (by kernel_rfl) h0
  subst e0
  obtain ⟨a1, n1, c1, rfl⟩ := okWide_slice Try.underlying24 (hval 1 24 v1 rfl rfl)
  have k1 := h1
  have lt1 : ∀ x ∈ p1, x.block < W.heap.size := by obtain ⟨m, hm⟩ := k1; exact DataW.trod_lt m _ _ _ hm
  obtain ⟨l1, e1, r1, g1⟩ := openW_slice Try.underlying24 (by kernel_rfl) (by decide) (opensW_int Try.underlying3 (by kernel_rfl)) h1
  have y1 : n1 * 8 ≤ 140737488351232 := sized_len hsz (j := 1) (t := 24) rfl rfl Try.underlying24 (by kernel_rfl) h1
  subst e1
  have k2 := h2
  have lt2 : ∀ x ∈ p2, x.block < W.heap.size := by obtain ⟨m, hm⟩ := k2; exact DataW.trod_lt m _ _ _ hm
  obtain ⟨x2, rfl, g2⟩ := openW_agg (opensW_arr2 Try.underlying42 (by kernel_rfl) rfl (opensW_int Try.underlying3 (by kernel_rfl))) (okWide_arr Try.underlying42 (hval 2 42 v2 rfl rfl)) h2
  refine ((GcCopies_spec W a0 a1 c0 c1 l0 l1 x2.1 x2.2 r0 r1 (wf_i64' g2.1)).says).mono fun e W' ⟨he, bel⟩ => ?_
  subst he
  exact ⟨_, rfl, _, _, _, [], _, [], hW', trodAll_mk1 (shut_bool Try.underlying4 _), (trodAll_cons_mk (Below.trod laidOut (by kernel_rfl) (of_decide_eq_true (by kernel_rfl)) k0 bel lt0) (trodAll_cons_mk (Below.trod laidOut (by kernel_rfl) (of_decide_eq_true (by kernel_rfl)) k1 bel lt1) (trodAll_cons_mk (Below.trod laidOut (by kernel_rfl) (of_decide_eq_true (by kernel_rfl)) k2 bel lt2) trodAll_mk0))), rfl, bel.frame _, fun h => by cases h⟩
theorem over : Rows.gcCopiesRow.holds Try.pinned (OpenSpec.ofChange Rows.gcCopiesSpec) :=
  OpenClaim.holds_of_wide 6 Try.f6 rfl rfl rfl rfl rfl rfl rfl ⟨rfl, rfl, rfl, rfl, rfl⟩ rfl rfl rfl rfl rfl (by kernel_rfl) Try.func6 (by kernel_rfl)
    (of_decide_eq_true (by kernel_rfl)) (by unfold Func.isWrapper; first | (rw [if_pos (by decide +kernel)]; kernel_rfl) | (rw [if_neg (by decide +kernel)]; exact ⟨rfl, rfl⟩))
    (fun os started H enc _ => lifted os started H enc)
theorem proved : Rows.GcCopiesSaid := over
end Go.Proofs.Ytapkpicloanbcaa.gcCopies
namespace Go.Proofs.Ytapkpicloanbcaa
/-- The row, under a short name, for the claim. -/
theorem gcCopies_holds : Rows.GcCopiesSaid := gcCopies.proved
#print axioms gcCopies_holds
end Go.Proofs.Ytapkpicloanbcaa
