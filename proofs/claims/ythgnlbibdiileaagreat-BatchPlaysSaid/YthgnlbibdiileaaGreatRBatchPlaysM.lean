/- lighterlaw16.BatchPlays returns true whatever it is handed, and what it is handed reads as it did. No condition. -/
import Derived.Test.YthgnlbibdiileaaGreatM24
import Derived.Test.YthgnlbibdiileaaGreatM3
import Derived.Test.YthgnlbibdiileaaGreatRows
namespace Go.Proofs.YthgnlbibdiileaaGreat.batchPlays
open Go.ChangeShapes Go.WideShapes Go.ChangeAt Go.RowKit Go.Lx
set_option linter.unusedVariables false
theorem own : ownKnob Tryz.prog.godebug = none := by kernel_rfl
theorem laidOut : laidOutB Tryz.prog = true := by kernel_rfl
set_option maxRecDepth 100000 in
theorem lifted (os : Os) (started : os.Started) (H : Type) (enc : TypeId × Value → H) :
    ReturnsInHanded {} Tryz.checked os 4 .any (Rows.batchPlaysSpec.pre6 enc Tryz.prog Tryz.f4 Rows.batchPlaysRow.domain false) (Rows.batchPlaysSpec.post enc Tryz.prog Tryz.f4 false true false false) := by
  refine returnsInHanded_of_change_sized (C := Tryz.checked) own started (by kernel_rfl) Tryz.func4
    (ChangeSpec.witness6 (enc := enc) (C := Tryz.checked) false ⟨#[], #[.int .i64 0, .slice none 0 0, .int .i64 0], []⟩ 8 (by kernel_rfl) (by kernel_rfl) (by kernel_rfl) (by kernel_rfl)) ?_
  intro W base args ds gs before hval0 hW hcnd hsz0 _
  have hsz : (DataW.weightsEach Tryz.prog (Tryz.f4.params.toList ++ Rows.batchPlaysSpec.plain.varTypes Tryz.prog) (ds ++ gs)).all (· ≤ reachBytes) = true := hsz0
  have hval : ∀ (j : Nat) t v, Tryz.f4.params[j]? = some t → args[j]? = some v → Value.okWide Tryz.prog W .any base t v := hval0
  have hW' := hW
  obtain ⟨p, q, hA0, hV, rfl, hfz, hnd⟩ := hW
  have hA : DataW.TrodAll enc Tryz.prog W 0 (fun _ => true) true Tryz.f4.params.toList args.toList ds p := hA0
  rw [Tryz.params4] at hA hval hsz
  obtain ⟨v0, vs0, d0, ds0, p0, q0, hargs, rfl, rfl, h0, rr0⟩ := trodAll_cons hA
  obtain ⟨v1, vs1, d1, ds1, p1, q1, rfl, rfl, rfl, h1, rr1⟩ := trodAll_cons rr0
  obtain ⟨v2, vs2, d2, ds2, p2, q2, rfl, rfl, rfl, h2, rr2⟩ := trodAll_cons rr1
  obtain ⟨rfl, rfl, rfl⟩ := trodAll_nil rr2
  obtain rfl : args = #[v0, v1, v2] := by cases args; simp_all
  obtain ⟨rfl, rfl⟩ := trodVars_none hV
  have k0 := h0
  have lt0 : ∀ x ∈ p0, x.block < W.heap.size := by obtain ⟨m, hm⟩ := k0; exact DataW.trod_lt m _ _ _ hm
  obtain ⟨n0, rfl, rfl, rfl, g0⟩ := open_int Tryz.underlying3 (hval 0 3 v0 rfl rfl) h0
  have w0 : i64 n0 := wf_i64' g0
  obtain ⟨a1, n1, c1, rfl⟩ := okWide_slice Tryz.underlying22 (hval 1 22 v1 rfl rfl)
  have k1 := h1
  have lt1 : ∀ x ∈ p1, x.block < W.heap.size := by obtain ⟨m, hm⟩ := k1; exact DataW.trod_lt m _ _ _ hm
  obtain ⟨l1, e1, r1, g1⟩ := openW_slice Tryz.underlying22 (by kernel_rfl) (by decide) (OpensW.map (opensW_struct Tryz.underlying36 (by kernel_rfl) (OpF.cons rfl (opensW_int Tryz.underlying3 (by kernel_rfl)) (OpF.cons rfl (opensW_int Tryz.underlying3 (by kernel_rfl)) (OpF.cons rfl (opensW_int Tryz.underlying3 (by kernel_rfl)) (OpF.cons rfl (opensW_slice Tryz.underlying34 (by kernel_rfl) (by decide) (OpensW.map (opensW_struct Tryz.underlying63 (by kernel_rfl) (OpF.cons rfl (opensW_int Tryz.underlying3 (by kernel_rfl)) (OpF.cons rfl (opensW_int Tryz.underlying3 (by kernel_rfl)) OpF.nil))) (fun x => (x.1, x.2.1)) encS1 (fun _ _ => True) (fun _ => rfl) (fun _ _ _ => rfl) (fun w a h => trivial))) (OpF.cons rfl (opensW_string Tryz.underlying9 (by kernel_rfl)) (OpF.cons rfl (opensW_string Tryz.underlying9 (by kernel_rfl)) OpF.nil))))))) (fun x => ⟨⟨x.1, x.2.1, x.2.2.1, x.2.2.2.1.l, x.2.2.2.2.1.data.toList, x.2.2.2.2.2.1.data.toList⟩, x.2.2.2.1.a, x.2.2.2.1.c⟩) encR1 (RcIn) (fun _ => rfl) (fun w a h => by have e := h.2.2.2.1.1; simp only [encR1, e]; simp) (fun w a h => by have e := h.2.2.2.1.1; have r := h.2.2.2.1.2.1; rw [← e] at r; exact ⟨r, size_i64 h.2.2.2.2.1, size_i64 h.2.2.2.2.2.1⟩)) h1
  have y1 : n1 * 80 ≤ 140737488351232 := sized_len hsz (j := 1) (t := 22) rfl rfl Tryz.underlying22 (by kernel_rfl) h1
  subst e1
  have k2 := h2
  have lt2 : ∀ x ∈ p2, x.block < W.heap.size := by obtain ⟨m, hm⟩ := k2; exact DataW.trod_lt m _ _ _ hm
  obtain ⟨n2, rfl, rfl, rfl, g2⟩ := open_int Tryz.underlying3 (hval 2 3 v2 rfl rfl) h2
  have w2 : i64 n2 := wf_i64' g2
  refine ((BatchPlays_spec W n0 n2 a1 c1 l1 r1 g1).says).mono fun e W' ⟨he, bel⟩ => ?_
  subst he
  exact ⟨_, rfl, _, _, _, [], _, [], hW', trodAll_mk1 (shut_bool Tryz.underlying4 _), (trodAll_cons_mk (Below.trod laidOut (by kernel_rfl) (of_decide_eq_true (by kernel_rfl)) k0 bel lt0) (trodAll_cons_mk (Below.trod laidOut (by kernel_rfl) (of_decide_eq_true (by kernel_rfl)) k1 bel lt1) (trodAll_cons_mk (Below.trod laidOut (by kernel_rfl) (of_decide_eq_true (by kernel_rfl)) k2 bel lt2) trodAll_mk0))), rfl, bel.frame _, fun h => by cases h⟩
theorem over : Rows.batchPlaysRow.holds Tryz.pinned (OpenSpec.ofChange Rows.batchPlaysSpec) :=
  OpenClaim.holds_of_wide 4 Tryz.f4 rfl rfl rfl rfl rfl rfl rfl ⟨rfl, rfl, rfl, rfl, rfl⟩ rfl rfl rfl rfl rfl (by kernel_rfl) Tryz.func4 (by kernel_rfl)
    (of_decide_eq_true (by kernel_rfl)) (by unfold Func.isWrapper; first | (rw [if_pos (by decide +kernel)]; kernel_rfl) | (rw [if_neg (by decide +kernel)]; exact ⟨rfl, rfl⟩))
    (fun os started H enc _ => lifted os started H enc)
theorem proved : Rows.BatchPlaysSaid := over
end Go.Proofs.YthgnlbibdiileaaGreat.batchPlays
namespace Go.Proofs.YthgnlbibdiileaaGreat
/-- The row, under a short name, for the claim. -/
theorem batchPlays_holds : Rows.BatchPlaysSaid := batchPlays.proved
#print axioms batchPlays_holds
end Go.Proofs.YthgnlbibdiileaaGreat
