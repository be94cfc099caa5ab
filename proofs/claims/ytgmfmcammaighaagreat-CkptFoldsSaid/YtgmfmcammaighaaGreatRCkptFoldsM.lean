/- lighterlaw14.CkptFolds returns true whatever it is handed, and what it is handed reads as it did. No condition. -/
import Derived.Test.YtgmfmcammaighaaGreatM34
import Derived.Test.YtgmfmcammaighaaGreatM3
import Derived.Test.YtgmfmcammaighaaGreatRows
namespace Go.Proofs.YtgmfmcammaighaaGreat.ckptFolds
open Go.ChangeShapes Go.WideShapes Go.ChangeAt Go.RowKit Go.Lx
set_option linter.unusedVariables false
theorem own : ownKnob Tryz.prog.godebug = none := by kernel_rfl
theorem laidOut : laidOutB Tryz.prog = true := by kernel_rfl
set_option maxRecDepth 100000 in
theorem lifted (os : Os) (started : os.Started) (H : Type) (enc : TypeId × Value → H) :
    ReturnsInHanded {} Tryz.checked os 3 .any (Rows.ckptFoldsSpec.pre6 enc Tryz.prog Tryz.f3 Rows.ckptFoldsRow.domain false) (Rows.ckptFoldsSpec.post enc Tryz.prog Tryz.f3 false true false false) := by
  refine returnsInHanded_of_change_sized (C := Tryz.checked) own started (by kernel_rfl) Tryz.func3
    (ChangeSpec.witness6 (enc := enc) (C := Tryz.checked) false ⟨#[], #[.agg #[.int .u64 0, .int .i64 0, .int .i64 0, .int .i64 0, .int .i64 0, .slice none 0 0, .slice none 0 0, .string ByteArray.empty], .slice none 0 0], []⟩ 8 (by kernel_rfl) (by kernel_rfl) (by kernel_rfl) (by kernel_rfl)) ?_
  intro W base args ds gs before hval0 hW hcnd hsz0 _
  have hsz : (DataW.weightsEach Tryz.prog (Tryz.f3.params.toList ++ Rows.ckptFoldsSpec.plain.varTypes Tryz.prog) (ds ++ gs)).all (· ≤ reachBytes) = true := hsz0
  have hval : ∀ (j : Nat) t v, Tryz.f3.params[j]? = some t → args[j]? = some v → Value.okWide Tryz.prog W .any base t v := hval0
  have hW' := hW
  obtain ⟨p, q, hA0, hV, rfl, hfz, hnd⟩ := hW
  have hA : DataW.TrodAll enc Tryz.prog W 0 (fun _ => true) true Tryz.f3.params.toList args.toList ds p := hA0
  rw [Tryz.params3] at hA hval hsz
  obtain ⟨v0, vs0, d0, ds0, p0, q0, hargs, rfl, rfl, h0, rr0⟩ := trodAll_cons hA
  obtain ⟨v1, vs1, d1, ds1, p1, q1, rfl, rfl, rfl, h1, rr1⟩ := trodAll_cons rr0
  obtain ⟨rfl, rfl, rfl⟩ := trodAll_nil rr1
  obtain rfl : args = #[v0, v1] := by cases args; simp_all
  obtain ⟨rfl, rfl⟩ := trodVars_none hV
  have k0 := h0
  have lt0 : ∀ x ∈ p0, x.block < W.heap.size := by obtain ⟨m, hm⟩ := k0; exact DataW.trod_lt m _ _ _ hm
  obtain ⟨x0, rfl, g0⟩ := openW_agg (OpensW.map (opensW_struct Tryz.underlying26 (by kernel_rfl) (OpF.cons rfl (opensW_int Tryz.underlying22 (by kernel_rfl)) (OpF.cons rfl (opensW_int Tryz.underlying3 (by kernel_rfl)) (OpF.cons rfl (opensW_int Tryz.underlying3 (by kernel_rfl)) (OpF.cons rfl (opensW_int Tryz.underlying3 (by kernel_rfl)) (OpF.cons rfl (opensW_int Tryz.underlying3 (by kernel_rfl)) (OpF.cons rfl (opensW_slice Tryz.underlying23 (by kernel_rfl) (by decide) (OpensW.map (opensW_struct Tryz.underlying63 (by kernel_rfl) (OpF.cons rfl (OpensW.map (opensW_struct Tryz.underlying58 (by kernel_rfl) (OpF.cons rfl (opensW_int Tryz.underlying3 (by kernel_rfl)) (OpF.cons rfl (opensW_int Tryz.underlying3 (by kernel_rfl)) OpF.nil))) (fun x => (x.1, x.2.1)) encS1 (fun _ _ => True) (fun _ => rfl) (fun _ _ _ => rfl) (fun w a h => trivial)) (OpF.cons rfl (OpensW.map (opensW_struct Tryz.underlying61 (by kernel_rfl) (OpF.cons rfl (opensW_int Tryz.underlying3 (by kernel_rfl)) (OpF.cons rfl (opensW_int Tryz.underlying3 (by kernel_rfl)) OpF.nil))) (fun x => (x.1, x.2.1)) encS1 (fun _ x => i64 x.1 ∧ i64 x.2) (fun _ => rfl) (fun _ _ _ => rfl) (fun w a h => ⟨wf_i64' h.1, wf_i64' h.2.1⟩)) OpF.nil))) (fun x => ⟨x.1.1, x.1.2, x.2.1.1, x.2.1.2⟩) encE1 (fun _ _ => True) (fun _ => rfl) (fun _ _ _ => rfl) (fun w a h => trivial))) (OpF.cons rfl (opensW_slice Tryz.underlying24 (by kernel_rfl) (by decide) (OpensW.map (opensW_struct Tryz.underlying83 (by kernel_rfl) (OpF.cons rfl (opensW_int Tryz.underlying3 (by kernel_rfl)) (OpF.cons rfl (opensW_int Tryz.underlying3 (by kernel_rfl)) (OpF.cons rfl (opensW_int Tryz.underlying3 (by kernel_rfl)) OpF.nil)))) (fun x => (x.1, x.2.1, x.2.2.1)) encK1 (fun _ _ => True) (fun _ => rfl) (fun _ _ _ => rfl) (fun w a h => trivial))) (OpF.cons rfl (opensW_string Tryz.underlying9 (by kernel_rfl)) OpF.nil))))))))) (fun x => ⟨⟨x.1.toNat, x.2.1, x.2.2.1, x.2.2.2.1, x.2.2.2.2.1, x.2.2.2.2.2.1.l, x.2.2.2.2.2.2.1.l, x.2.2.2.2.2.2.2.1.data.toList⟩, x.2.2.2.2.2.1.a, x.2.2.2.2.2.1.c, x.2.2.2.2.2.2.1.a, x.2.2.2.2.2.2.1.c⟩) encCk (fun w o => Rd w 4 o.a o.c.m.length o.n (encE o.c.m) ∧ Rd w 3 o.b o.c.r.length o.d (encK o.c.r) ∧ o.c.k < 18446744073709551616) (fun _ => rfl) (fun w a h => by have e := h.2.2.2.2.2.1.1; have e2 := h.2.2.2.2.2.2.1.1; have k := wf_u64 h.1; simp only [encCk, e, e2, Int.toNat_of_nonneg k.1]; simp) (fun w a h => by have e := h.2.2.2.2.2.1.1; have r := h.2.2.2.2.2.1.2.1; rw [← e] at r; have e2 := h.2.2.2.2.2.2.1.1; have r2 := h.2.2.2.2.2.2.1.2.1; rw [← e2] at r2; exact ⟨r, r2, by have := wf_u64 h.1; dsimp only; omega⟩)) (by obtain ⟨cs, hcs, _⟩ := okWide_struct Tryz.underlying26 (hval 0 26 v0 rfl rfl); exact ⟨cs, hcs⟩) h0
  obtain ⟨a1, n1, c1, rfl⟩ := okWide_slice Tryz.underlying27 (hval 1 27 v1 rfl rfl)
  have k1 := h1
  have lt1 : ∀ x ∈ p1, x.block < W.heap.size := by obtain ⟨m, hm⟩ := k1; exact DataW.trod_lt m _ _ _ hm
  obtain ⟨l1, e1, r1, g1⟩ := openW_slice Tryz.underlying27 (by kernel_rfl) (by decide) (OpensW.map (opensW_struct Tryz.underlying48 (by kernel_rfl) (OpF.cons rfl (opensW_int Tryz.underlying22 (by kernel_rfl)) (OpF.cons rfl (opensW_int Tryz.underlying3 (by kernel_rfl)) (OpF.cons rfl (opensW_int Tryz.underlying3 (by kernel_rfl)) (OpF.cons rfl (opensW_int Tryz.underlying3 (by kernel_rfl)) (OpF.cons rfl (opensW_slice Tryz.underlying45 (by kernel_rfl) (by decide) (OpensW.map (opensW_struct Tryz.underlying78 (by kernel_rfl) (OpF.cons rfl (OpensW.map (opensW_struct Tryz.underlying58 (by kernel_rfl) (OpF.cons rfl (opensW_int Tryz.underlying3 (by kernel_rfl)) (OpF.cons rfl (opensW_int Tryz.underlying3 (by kernel_rfl)) OpF.nil))) (fun x => (x.1, x.2.1)) encS1 (fun _ _ => True) (fun _ => rfl) (fun _ _ _ => rfl) (fun w a h => trivial)) (OpF.cons rfl (OpensW.map (opensW_struct Tryz.underlying61 (by kernel_rfl) (OpF.cons rfl (opensW_int Tryz.underlying3 (by kernel_rfl)) (OpF.cons rfl (opensW_int Tryz.underlying3 (by kernel_rfl)) OpF.nil))) (fun x => (x.1, x.2.1)) encS1 (fun _ x => i64 x.1 ∧ i64 x.2) (fun _ => rfl) (fun _ _ _ => rfl) (fun w a h => ⟨wf_i64' h.1, wf_i64' h.2.1⟩)) OpF.nil))) (fun x => ⟨x.1.1, x.1.2, x.2.1.1, x.2.1.2⟩) encE1 (fun _ _ => True) (fun _ => rfl) (fun _ _ _ => rfl) (fun w a h => trivial))) (OpF.cons rfl (opensW_slice Tryz.underlying46 (by kernel_rfl) (by decide) (OpensW.map (opensW_struct Tryz.underlying58 (by kernel_rfl) (OpF.cons rfl (opensW_int Tryz.underlying3 (by kernel_rfl)) (OpF.cons rfl (opensW_int Tryz.underlying3 (by kernel_rfl)) OpF.nil))) (fun x => (x.1, x.2.1)) encS1 (fun _ _ => True) (fun _ => rfl) (fun _ _ _ => rfl) (fun w a h => trivial))) (OpF.cons rfl (opensW_string Tryz.underlying9 (by kernel_rfl)) OpF.nil)))))))) (fun x => ⟨⟨x.1.toNat, x.2.1, x.2.2.1, x.2.2.2.1, x.2.2.2.2.1.l, x.2.2.2.2.2.1.l, x.2.2.2.2.2.2.1.data.toList⟩, x.2.2.2.2.1.a, x.2.2.2.2.1.c, x.2.2.2.2.2.1.a, x.2.2.2.2.2.1.c⟩) encOb1 (fun w o => Rd w 4 o.a o.o.ps.length o.c (encE o.o.ps) ∧ Rd w 2 o.b o.o.cs.length o.d (encS o.o.cs) ∧ o.o.k < 18446744073709551616) (fun _ => rfl) (fun w a h => by have e := h.2.2.2.2.1.1; have e2 := h.2.2.2.2.2.1.1; have k := wf_u64 h.1; simp only [encOb1, e, e2, Int.toNat_of_nonneg k.1]; simp) (fun w a h => by have e := h.2.2.2.2.1.1; have r := h.2.2.2.2.1.2.1; rw [← e] at r; have e2 := h.2.2.2.2.2.1.1; have r2 := h.2.2.2.2.2.1.2.1; rw [← e2] at r2; exact ⟨r, r2, by have := wf_u64 h.1; dsimp only; omega⟩)) h1
  have y1 : n1 * 96 ≤ 140737488351232 := sized_len hsz (j := 1) (t := 27) rfl rfl Tryz.underlying27 (by kernel_rfl) h1
  subst e1
  refine ((CkptFolds_spec W x0.c x0.a x0.b a1 x0.n x0.d c1 l1 g0.1 g0.2.1 g0.2.2 r1 g1).says).mono fun e W' ⟨he, bel⟩ => ?_
  subst he
  exact ⟨_, rfl, _, _, _, [], _, [], hW', trodAll_mk1 (shut_bool Tryz.underlying4 _), (trodAll_cons_mk (Below.trod laidOut (by kernel_rfl) (of_decide_eq_true (by kernel_rfl)) k0 bel lt0) (trodAll_cons_mk (Below.trod laidOut (by kernel_rfl) (of_decide_eq_true (by kernel_rfl)) k1 bel lt1) trodAll_mk0)), rfl, bel.frame _, fun h => by cases h⟩
theorem over : Rows.ckptFoldsRow.holds Tryz.pinned (OpenSpec.ofChange Rows.ckptFoldsSpec) :=
  OpenClaim.holds_of_wide 3 Tryz.f3 rfl rfl rfl rfl rfl rfl rfl ⟨rfl, rfl, rfl, rfl, rfl⟩ rfl rfl rfl rfl rfl (by kernel_rfl) Tryz.func3 (by kernel_rfl)
    (of_decide_eq_true (by kernel_rfl)) (by unfold Func.isWrapper; first | (rw [if_pos (by decide +kernel)]; kernel_rfl) | (rw [if_neg (by decide +kernel)]; exact ⟨rfl, rfl⟩))
    (fun os started H enc _ => lifted os started H enc)
theorem proved : Rows.CkptFoldsSaid := over
end Go.Proofs.YtgmfmcammaighaaGreat.ckptFolds
namespace Go.Proofs.YtgmfmcammaighaaGreat
/-- The row, under a short name, for the claim. -/
theorem ckptFolds_holds : Rows.CkptFoldsSaid := ckptFolds.proved
#print axioms ckptFolds_holds
end Go.Proofs.YtgmfmcammaighaaGreat
