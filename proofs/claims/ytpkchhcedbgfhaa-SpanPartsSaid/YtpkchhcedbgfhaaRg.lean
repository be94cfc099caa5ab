/- lighterlaw01.SpanParts returns true whatever it is handed, and what it is handed reads as it did. No condition. -/
import Derived.Test.YtpkchhcedbgfhaaJf
import Derived.Test.YtpkchhcedbgfhaaRows
namespace Go.Proofs.Ytpkchhcedbgfhaa.spanParts
open Go.ChangeShapes Go.WideShapes Go.ChangeAt Go.RowKit Go.Lx
set_option linter.unusedVariables false
theorem own : ownKnob Try.prog.godebug = none := by kernel_rfl
theorem laidOut : laidOutB Try.prog = true := by kernel_rfl
set_option maxRecDepth 100000 in
theorem lifted (os : Os) (started : os.Started) (H : Type) (enc : TypeId × Value → H) :
    ReturnsInHanded {} Try.checked os 9 .any (Rows.spanPartsSpec.pre6 enc Try.prog Try.f9 Rows.spanPartsRow.domain false) (Rows.spanPartsSpec.post enc Try.prog Try.f9 false true false false) := by
  refine returnsInHanded_of_change_sized (C := Try.checked) own started (by kernel_rfl) Try.func9
    (ChangeSpec.witness6 (enc := enc) (C := Try.checked) false ⟨#[], #[.slice none 0 0, .slice none 0 0, .agg #[.int .i64 0, .int .i64 0]], []⟩ 8 (by kernel_rfl) (by kernel_rfl) (by kernel_rfl) (by kernel_rfl)) ?_
  intro W base args ds gs before hval0 hW hcnd hsz0 _
  have hsz : (DataW.weightsEach Try.prog (Try.f9.params.toList ++ Rows.spanPartsSpec.plain.varTypes Try.prog) (ds ++ gs)).all (· ≤ reachBytes) = true := hsz0
  have hval : ∀ (j : Nat) t v, Try.f9.params[j]? = some t → args[j]? = some v → Value.okWide Try.prog W .any base t v := hval0
  have hW' := hW
  obtain ⟨p, q, hA0, hV, rfl, hfz, hnd⟩ := hW
  have hA : DataW.TrodAll enc Try.prog W 0 (fun _ => true) true Try.f9.params.toList args.toList ds p := hA0
  rw [Try.params9] at hA hval hsz
  obtain ⟨v0, vs0, d0, ds0, p0, q0, hargs, rfl, rfl, h0, r0⟩ := trodAll_cons hA
  obtain ⟨v1, vs1, d1, ds1, p1, q1, rfl, rfl, rfl, h1, r1⟩ := trodAll_cons r0
  obtain ⟨v2, vs2, d2, ds2, p2, q2, rfl, rfl, rfl, h2, r2⟩ := trodAll_cons r1
  obtain ⟨rfl, rfl, rfl⟩ := trodAll_nil r2
  obtain rfl : args = #[v0, v1, v2] := by cases args; simp_all
  obtain ⟨rfl, rfl⟩ := trodVars_none hV
  obtain ⟨a0, n0, c0, rfl⟩ := okWide_slice Try.underlying22 (hval 0 22 v0 rfl rfl)
  have k0 := h0
  have lt0 : ∀ x ∈ p0, x.block < W.heap.size := by obtain ⟨m, hm⟩ := k0; exact DataW.trod_lt m _ _ _ hm
  obtain ⟨l0, e0, rd0, g0⟩ := open_list (α := Sp) (f := encS1) (sz := 2) Try.underlying22 (by kernel_rfl) (by decide) (fun _ => rfl) (opens_struct2 Try.underlying33 (by kernel_rfl) ⟨rfl, by kernel_rfl, rfl, by kernel_rfl⟩ (opens_i64 Try.underlying3) (opens_i64 Try.underlying3)) h0
  have y0 : n0 * 16 ≤ 140737488351232 := sized_len hsz (j := 0) (t := 22) rfl rfl Try.underlying22 (by kernel_rfl) h0
  subst e0
  obtain ⟨a1, n1, c1, rfl⟩ := okWide_slice Try.underlying22 (hval 1 22 v1 rfl rfl)
  have k1 := h1
  have lt1 : ∀ x ∈ p1, x.block < W.heap.size := by obtain ⟨m, hm⟩ := k1; exact DataW.trod_lt m _ _ _ hm
  obtain ⟨l1, e1, rd1, g1⟩ := open_list (α := Sp) (f := encS1) (sz := 2) Try.underlying22 (by kernel_rfl) (by decide) (fun _ => rfl) (opens_struct2 Try.underlying33 (by kernel_rfl) ⟨rfl, by kernel_rfl, rfl, by kernel_rfl⟩ (opens_i64 Try.underlying3) (opens_i64 Try.underlying3)) h1
  have y1 : n1 * 16 ≤ 140737488351232 := sized_len hsz (j := 1) (t := 22) rfl rfl Try.underlying22 (by kernel_rfl) h1
  subst e1
  have k2 := h2
  have lt2 : ∀ x ∈ p2, x.block < W.heap.size := by obtain ⟨m, hm⟩ := k2; exact DataW.trod_lt m _ _ _ hm
  obtain ⟨x2, rfl, g2⟩ := open_val (α := Sp) (f := encS1) (opens_struct2 Try.underlying33 (by kernel_rfl) ⟨rfl, by kernel_rfl, rfl, by kernel_rfl⟩ (opens_i64 Try.underlying3) (opens_i64 Try.underlying3)) (by obtain ⟨cs, hcs, _⟩ := okWide_struct Try.underlying33 (hval 2 33 v2 rfl rfl); exact ⟨cs, hcs⟩) h2
  refine ((SpanParts_spec W a0 a1 c0 c1 l0 l1 x2 rd0 rd1 (by omega)).says).mono fun e W' ⟨he, bel⟩ => ?_
  subst he
  exact ⟨_, rfl, _, _, _, [], _, [], hW', trodAll_mk1 (shut_bool Try.underlying4 _), (trodAll_cons_mk (Below.trod laidOut (by kernel_rfl) (of_decide_eq_true (by kernel_rfl)) k0 bel lt0) (trodAll_cons_mk (Below.trod laidOut (by kernel_rfl) (of_decide_eq_true (by kernel_rfl)) k1 bel lt1) (trodAll_cons_mk (Below.trod laidOut (by kernel_rfl) (of_decide_eq_true (by kernel_rfl)) k2 bel lt2) trodAll_mk0))), rfl, bel.frame _, fun h => by cases h⟩
theorem over : Rows.spanPartsRow.holds Try.pinned (OpenSpec.ofChange Rows.spanPartsSpec) :=
  OpenClaim.holds_of_wide 9 Try.f9 rfl rfl rfl rfl rfl rfl rfl ⟨rfl, rfl, rfl, rfl, rfl⟩ rfl rfl rfl rfl rfl (by kernel_rfl) Try.func9 (by kernel_rfl)
    (of_decide_eq_true (by kernel_rfl)) (by unfold Func.isWrapper; first | (rw [if_pos (by decide +kernel)]; kernel_rfl) | (rw [if_neg (by decide +kernel)]; exact ⟨rfl, rfl⟩))
    (fun os started H enc _ => lifted os started H enc)
theorem proved : Rows.SpanPartsSaid := over
end Go.Proofs.Ytpkchhcedbgfhaa.spanParts
namespace Go.Proofs.Ytpkchhcedbgfhaa
/-- The row, under a short name, for the claim. -/
theorem spanParts_holds : Rows.SpanPartsSaid := spanParts.proved
#print axioms spanParts_holds
end Go.Proofs.Ytpkchhcedbgfhaa
