/- lighterlaw14.CkptLast returns true whatever it is handed, and what it is handed reads as it did. No condition. -/
import Derived.Test.YtgmfmcammaighaaGreatM32
import Derived.Test.YtgmfmcammaighaaGreatM3
import Derived.Test.YtgmfmcammaighaaGreatRows
namespace Go.Proofs.YtgmfmcammaighaaGreat.ckptLast
open Go.ChangeShapes Go.WideShapes Go.ChangeAt Go.RowKit Go.Lx
set_option linter.unusedVariables false
theorem own : ownKnob Tryz.prog.godebug = none := by kernel_rfl
theorem laidOut : laidOutB Tryz.prog = true := by kernel_rfl
set_option maxRecDepth 100000 in
theorem lifted (os : Os) (started : os.Started) (H : Type) (enc : TypeId × Value → H) :
    ReturnsInHanded {} Tryz.checked os 4 .any (Rows.ckptLastSpec.pre6 enc Tryz.prog Tryz.f4 Rows.ckptLastRow.domain false) (Rows.ckptLastSpec.post enc Tryz.prog Tryz.f4 false true false false) := by
  refine returnsInHanded_of_change_sized (C := Tryz.checked) own started (by kernel_rfl) Tryz.func4
    (ChangeSpec.witness6 (enc := enc) (C := Tryz.checked) false ⟨#[], #[.slice none 0 0], []⟩ 8 (by kernel_rfl) (by kernel_rfl) (by kernel_rfl) (by kernel_rfl)) ?_
  intro W base args ds gs before hval0 hW hcnd hsz0 _
  have hsz : (DataW.weightsEach Tryz.prog (Tryz.f4.params.toList ++ Rows.ckptLastSpec.plain.varTypes Tryz.prog) (ds ++ gs)).all (· ≤ reachBytes) = true := hsz0
  have hval : ∀ (j : Nat) t v, Tryz.f4.params[j]? = some t → args[j]? = some v → Value.okWide Tryz.prog W .any base t v := hval0
  have hW' := hW
  obtain ⟨p, q, hA0, hV, rfl, hfz, hnd⟩ := hW
  have hA : DataW.TrodAll enc Tryz.prog W 0 (fun _ => true) true Tryz.f4.params.toList args.toList ds p := hA0
  rw [Tryz.params4] at hA hval hsz
  obtain ⟨v0, vs0, d0, ds0, p0, q0, hargs, rfl, rfl, h0, rr0⟩ := trodAll_cons hA
  obtain ⟨rfl, rfl, rfl⟩ := trodAll_nil rr0
  obtain rfl : args = #[v0] := by cases args; simp_all
  obtain ⟨rfl, rfl⟩ := trodVars_none hV
  obtain ⟨a0, n0, c0, rfl⟩ := okWide_slice Tryz.underlying27 (hval 0 27 v0 rfl rfl)
  have k0 := h0
  have lt0 : ∀ x ∈ p0, x.block < W.heap.size := by obtain ⟨m, hm⟩ := k0; exact DataW.trod_lt m _ _ _ hm
  obtain ⟨l0, e0, r0, g0⟩ := openW_slice Tryz.underlying27 (by kernel_rfl) (by decide) (OpensW.map (opensW_struct Tryz.underlying48 (by kernel_rfl) (OpF.cons rfl (opensW_int Tryz.underlying22 (by kernel_rfl)) (OpF.cons rfl (opensW_int Tryz.underlying3 (by kernel_rfl)) (OpF.cons rfl (opensW_int Tryz.underlying3 (by kernel_rfl)) (OpF.cons rfl (opensW_int Tryz.underlying3 (by kernel_rfl)) (OpF.cons rfl (opensW_slice Tryz.underlying45 (by kernel_rfl) (by decide) (OpensW.map (opensW_struct Tryz.underlying78 (by kernel_rfl) (OpF.cons rfl (OpensW.map (opensW_struct Tryz.underlying58 (by kernel_rfl) (OpF.cons rfl (opensW_int Tryz.underlying3 (by kernel_rfl)) (OpF.cons rfl (opensW_int Tryz.underlying3 (by kernel_rfl)) OpF.nil))) (fun x => (x.1, x.2.1)) encS1 (fun _ _ => True) (fun _ => rfl) (fun _ _ _ => rfl) (fun w a h => trivial)) (OpF.cons rfl (OpensW.map (opensW_struct Tryz.underlying61 (by kernel_rfl) (OpF.cons rfl (opensW_int Tryz.underlying3 (by kernel_rfl)) (OpF.cons rfl (opensW_int Tryz.underlying3 (by kernel_rfl)) OpF.nil))) (fun x => (x.1, x.2.1)) encS1 (fun _ x => i64 x.1 ∧ i64 x.2) (fun _ => rfl) (fun _ _ _ => rfl) (fun w a h => ⟨wf_i64' h.1, wf_i64' h.2.1⟩)) OpF.nil))) (fun x => ⟨x.1.1, x.1.2, x.2.1.1, x.2.1.2⟩) encE1 (fun _ _ => True) (fun _ => rfl) (fun _ _ _ => rfl) (fun w a h => trivial))) (OpF.cons rfl (opensW_slice Tryz.underlying46 (by kernel_rfl) (by decide) (OpensW.map (opensW_struct Tryz.underlying58 (by kernel_rfl) (OpF.cons rfl (opensW_int Tryz.underlying3 (by kernel_rfl)) (OpF.cons rfl (opensW_int Tryz.underlying3 (by kernel_rfl)) OpF.nil))) (fun x => (x.1, x.2.1)) encS1 (fun _ _ => True) (fun _ => rfl) (fun _ _ _ => rfl) (fun w a h => trivial))) (OpF.cons rfl (opensW_string Tryz.underlying9 (by kernel_rfl)) OpF.nil)))))))) (fun x => ⟨⟨x.1.toNat, x.2.1, x.2.2.1, x.2.2.2.1, x.2.2.2.2.1.l, x.2.2.2.2.2.1.l, x.2.2.2.2.2.2.1.data.toList⟩, x.2.2.2.2.1.a, x.2.2.2.2.1.c, x.2.2.2.2.2.1.a, x.2.2.2.2.2.1.c⟩) encOb1 (fun w o => Rd w 4 o.a o.o.ps.length o.c (encE o.o.ps) ∧ Rd w 2 o.b o.o.cs.length o.d (encS o.o.cs) ∧ o.o.k < 18446744073709551616) (fun _ => rfl) (fun w a h => by have e := h.2.2.2.2.1.1; have e2 := h.2.2.2.2.2.1.1; have k := wf_u64 h.1; simp only [encOb1, e, e2, Int.toNat_of_nonneg k.1]; simp) (fun w a h => by have e := h.2.2.2.2.1.1; have r := h.2.2.2.2.1.2.1; rw [← e] at r; have e2 := h.2.2.2.2.2.1.1; have r2 := h.2.2.2.2.2.1.2.1; rw [← e2] at r2; exact ⟨r, r2, by have := wf_u64 h.1; dsimp only; omega⟩)) h0
  have y0 : n0 * 96 ≤ 140737488351232 := sized_len hsz (j := 0) (t := 27) rfl rfl Tryz.underlying27 (by kernel_rfl) h0
  subst e0
  refine ((CkptLast_spec W a0 c0 l0 r0 g0).says).mono fun e W' ⟨he, bel⟩ => ?_
  subst he
  exact ⟨_, rfl, _, _, _, [], _, [], hW', trodAll_mk1 (shut_bool Tryz.underlying4 _), (trodAll_cons_mk (Below.trod laidOut (by kernel_rfl) (of_decide_eq_true (by kernel_rfl)) k0 bel lt0) trodAll_mk0), rfl, bel.frame _, fun h => by cases h⟩
theorem over : Rows.ckptLastRow.holds Tryz.pinned (OpenSpec.ofChange Rows.ckptLastSpec) :=
  OpenClaim.holds_of_wide 4 Tryz.f4 rfl rfl rfl rfl rfl rfl rfl ⟨rfl, rfl, rfl, rfl, rfl⟩ rfl rfl rfl rfl rfl (by kernel_rfl) Tryz.func4 (by kernel_rfl)
    (of_decide_eq_true (by kernel_rfl)) (by unfold Func.isWrapper; first | (rw [if_pos (by decide +kernel)]; kernel_rfl) | (rw [if_neg (by decide +kernel)]; exact ⟨rfl, rfl⟩))
    (fun os started H enc _ => lifted os started H enc)
theorem proved : Rows.CkptLastSaid := over
end Go.Proofs.YtgmfmcammaighaaGreat.ckptLast
namespace Go.Proofs.YtgmfmcammaighaaGreat
/-- The row, under a short name, for the claim. -/
theorem ckptLast_holds : Rows.CkptLastSaid := ckptLast.proved
#print axioms ckptLast_holds
end Go.Proofs.YtgmfmcammaighaaGreat
