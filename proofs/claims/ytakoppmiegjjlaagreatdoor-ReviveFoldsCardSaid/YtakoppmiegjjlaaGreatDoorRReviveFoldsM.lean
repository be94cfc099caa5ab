/- lighterlaw19.ReviveFolds returns true whatever it is handed, and what it is handed reads as it did. No condition. -/
import Derived.Test.YtakoppmiegjjlaaGreatDoorF51
import Derived.Test.YtakoppmiegjjlaaGreatDoorF3
import Derived.Test.YtakoppmiegjjlaaGreatDoorRows
import Derived.Test.YtakoppmiegjjlaaGreatDoorCards
import Derived.Test.YtakoppmiegjjlaaGreatDoorTie
import Derived.Lay
import Derived.LaidOnce
import Derived.Lib.LaidTab
import Derived.Lib.LaidU8
import Derived.SevenTiedAt
namespace Go.Proofs.YtakoppmiegjjlaaGreatDoor.reviveFolds
open Go.ChangeShapes Go.WideShapes Go.ChangeAt Go.RowKit Go.Lx
set_option linter.unusedVariables false
set_option maxRecDepth 100000
theorem own : ownKnob Tryz.prog.godebug = none := by kernel_rfl
theorem laidOut : laidOutB Tryz.prog = true := by kernel_rfl
theorem tabOf {W : World} (h : laidMetH Tryz.prog Rows.reviveFoldsRow.laid W) : Tab W (fun _ => False) := by
  rw [MakeChecks.laidMetH_plain _ _ _ (by kernel_rfl)] at h
  obtain ⟨g', t', cs, fuel, p, hg', ht', hvar, hd⟩ := Lib.laidMet.reads h (.tail _ (.head _))
  have hg : Tryz.prog.globalNamed "math/bits.deBruijn64tab" = some 3 := by kernel_rfl
  have hty : (Tryz.prog.globals[3]?).map (·.type) = some 399 := by kernel_rfl
  obtain rfl := Option.some.inj (hg.symm.trans hg')
  obtain rfl := Option.some.inj (hty.symm.trans ht')
  have hT : Lib.TabIs Tryz.prog W "math/bits.deBruijn64tab" .u8 [0, 1, 56, 2, 57, 49, 28, 3, 61, 58, 42, 50, 38, 29, 17, 4, 62, 47, 59, 36, 45, 43, 51, 22, 53, 39, 33, 30, 24, 18, 12, 5, 63, 55, 48, 27, 60, 41, 37, 16, 46, 35, 44, 21, 52, 32, 23, 11, 54, 26, 40, 15, 34, 20, 31, 10, 25, 14, 19, 9, 13, 8, 7, 6] := by
    unfold Lib.TabIs
    rw [hvar, ← Lib.cells_of_tab (zs := [0, 1, 56, 2, 57, 49, 28, 3, 61, 58, 42, 50, 38, 29, 17, 4, 62, 47, 59, 36, 45, 43, 51, 22, 53, 39, 33, 30, 24, 18, 12, 5, 63, 55, 48, 27, 60, 41, 37, 16, 46, 35, 44, 21, 52, 32, 23, 11, 54, 26, 40, 15, 34, 20, 31, 10, 25, 14, 19, 9, 13, 8, 7, 6]) Tryz.underlying399 Tryz.underlying5 (by kernel_rfl) (by kernel_rfl) hd]
  exact ⟨hT.cell (by kernel_rfl) 15 (by decide), fun h => h⟩
set_option maxRecDepth 100000 in
theorem lifted (os : Os) (started : os.Started) (H : Type) (enc : TypeId × Value → H) :
    ReturnsInHanded {} Tryz.checked os 6 .any (fun w args => (Rows.reviveFoldsSpec.pre enc Tryz.prog Tryz.f6 [] false w args ∧ laidMetH Tryz.prog Rows.reviveFoldsRow.laid w) ∧ sizedMet enc Tryz.prog Tryz.f6 (OpenSpec.ofChange Rows.reviveFoldsSpec) false w args) (Rows.reviveFoldsSpec.post enc Tryz.prog Tryz.f6 false true false false) := by
  refine returnsInHanded_of_change_and (C := Tryz.checked) (X := fun w _ => laidMetH Tryz.prog Rows.reviveFoldsRow.laid w) (fun _ _ _ hh h => h.of_heap hh) own started (by kernel_rfl) Tryz.func6
    (ChangeSpec.witness_shaped (enc := enc) (C := Tryz.checked) (os := os) (X := fun w _ => laidMetH Tryz.prog Rows.reviveFoldsRow.laid w) false (World.laidAll Tryz.prog os Rows.reviveFoldsRow.laid) #[.slice none 0 0, .slice none 0 0, .agg #[.int .i64 0, .int .i64 0]] 8 (World.laidAll_os _ _ _)
      (World.shaped_of_ZipB (by kernel_rfl) (by kernel_rfl)) (by kernel_rfl) (by kernel_rfl) (by kernel_rfl)
      (by rw [MakeChecks.laidMetH_plain _ _ _ (by kernel_rfl)]; exact laidMet_laidAll _ (by kernel_rfl) (by kernel_rfl))) ?_
  intro W base args ds gs before hval0 hW hcnd hsz0 hL _
  have hsz : (DataW.weightsEach Tryz.prog (Tryz.f6.params.toList ++ Rows.reviveFoldsSpec.plain.varTypes Tryz.prog) (ds ++ gs)).all (· ≤ reachBytes) = true := hsz0
  have hval : ∀ (j : Nat) t v, Tryz.f6.params[j]? = some t → args[j]? = some v → Value.okWide Tryz.prog W .any base t v := hval0
  have hW' := hW
  obtain ⟨p, q, hA0, hV, rfl, hfz, hnd⟩ := hW
  have hA : DataW.TrodAll enc Tryz.prog W 0 (fun _ => true) true Tryz.f6.params.toList args.toList ds p := hA0
  rw [Tryz.params6] at hA hval hsz
  obtain ⟨v0, vs0, d0, ds0, p0, q0, hargs, rfl, rfl, h0, rr0⟩ := trodAll_cons hA
  obtain ⟨v1, vs1, d1, ds1, p1, q1, rfl, rfl, rfl, h1, rr1⟩ := trodAll_cons rr0
  obtain ⟨v2, vs2, d2, ds2, p2, q2, rfl, rfl, rfl, h2, rr2⟩ := trodAll_cons rr1
  obtain ⟨rfl, rfl, rfl⟩ := trodAll_nil rr2
  obtain rfl : args = #[v0, v1, v2] := by cases args; simp_all
  obtain ⟨rfl, rfl⟩ := trodVars_none hV
  obtain ⟨a0, n0, c0, rfl⟩ := okWide_slice Tryz.underlying92 (hval 0 92 v0 rfl rfl)
  have k0 := h0
  have lt0 : ∀ x ∈ p0, x.block < W.heap.size := by obtain ⟨m, hm⟩ := k0; exact DataW.trod_lt m _ _ _ hm
  obtain ⟨l0, e0, r0, g0⟩ := openW_slice Tryz.underlying92 (by kernel_rfl) (by decide) (OpensW.map (opensW_struct Tryz.underlying41 (by kernel_rfl) (OpF.cons rfl (opensW_int Tryz.underlying27 (by kernel_rfl)) (OpF.cons rfl (opensW_int Tryz.underlying3 (by kernel_rfl)) (OpF.cons rfl (opensW_int Tryz.underlying3 (by kernel_rfl)) (OpF.cons rfl (opensW_int Tryz.underlying3 (by kernel_rfl)) (OpF.cons rfl (opensW_slice Tryz.underlying38 (by kernel_rfl) (by decide) (OpensW.map (opensW_struct Tryz.underlying154 (by kernel_rfl) (OpF.cons rfl (OpensW.map (opensW_struct Tryz.underlying103 (by kernel_rfl) (OpF.cons rfl (opensW_int Tryz.underlying3 (by kernel_rfl)) (OpF.cons rfl (opensW_int Tryz.underlying3 (by kernel_rfl)) OpF.nil))) (fun x => (x.1, x.2.1)) encS1 (fun _ _ => True) (fun _ => rfl) (fun _ _ _ => rfl) (fun w a h => trivial)) (OpF.cons rfl (OpensW.map (opensW_struct Tryz.underlying49 (by kernel_rfl) (OpF.cons rfl (opensW_int Tryz.underlying3 (by kernel_rfl)) (OpF.cons rfl (opensW_int Tryz.underlying3 (by kernel_rfl)) OpF.nil))) (fun x => (x.1, x.2.1)) encS1 (fun _ x => i64 x.1 ∧ i64 x.2) (fun _ => rfl) (fun _ _ _ => rfl) (fun w a h => ⟨wf_i64' h.1, wf_i64' h.2.1⟩)) OpF.nil))) (fun x => ⟨x.1.1, x.1.2, x.2.1.1, x.2.1.2⟩) encE1 (fun _ _ => True) (fun _ => rfl) (fun _ _ _ => rfl) (fun w a h => trivial))) (OpF.cons rfl (opensW_slice Tryz.underlying39 (by kernel_rfl) (by decide) (OpensW.map (opensW_struct Tryz.underlying103 (by kernel_rfl) (OpF.cons rfl (opensW_int Tryz.underlying3 (by kernel_rfl)) (OpF.cons rfl (opensW_int Tryz.underlying3 (by kernel_rfl)) OpF.nil))) (fun x => (x.1, x.2.1)) encS1 (fun _ _ => True) (fun _ => rfl) (fun _ _ _ => rfl) (fun w a h => trivial))) (OpF.cons rfl (opensW_string Tryz.underlying9 (by kernel_rfl)) OpF.nil)))))))) (fun x => ⟨⟨x.1.toNat, x.2.1, x.2.2.1, x.2.2.2.1, x.2.2.2.2.1.l, x.2.2.2.2.2.1.l, x.2.2.2.2.2.2.1.data.toList⟩, x.2.2.2.2.1.a, x.2.2.2.2.1.c, x.2.2.2.2.2.1.a, x.2.2.2.2.2.1.c⟩) encOb1 (fun w o => Rd w 4 o.a o.o.ps.length o.c (encE o.o.ps) ∧ Rd w 2 o.b o.o.cs.length o.d (Go.Lx.encS o.o.cs) ∧ o.o.k < 18446744073709551616) (fun _ => rfl) (fun w a h => by have e := h.2.2.2.2.1.1; have e2 := h.2.2.2.2.2.1.1; have k := wf_u64 h.1; simp only [encOb1, e, e2, Int.toNat_of_nonneg k.1]; simp) (fun w a h => by have e := h.2.2.2.2.1.1; have r := h.2.2.2.2.1.2.1; rw [← e] at r; have e2 := h.2.2.2.2.2.1.1; have r2 := h.2.2.2.2.2.1.2.1; rw [← e2] at r2; exact ⟨r, r2, by have := wf_u64 h.1; dsimp only; omega⟩)) h0
  have y0 : n0 * 96 ≤ 140737488351232 := sized_len hsz (j := 0) (t := 92) rfl rfl Tryz.underlying92 (by kernel_rfl) h0
  subst e0
  obtain ⟨a1, n1, c1, rfl⟩ := okWide_slice Tryz.underlying93 (hval 1 93 v1 rfl rfl)
  have k1 := h1
  have lt1 : ∀ x ∈ p1, x.block < W.heap.size := by obtain ⟨m, hm⟩ := k1; exact DataW.trod_lt m _ _ _ hm
  obtain ⟨l1, e1, r1, g1⟩ := openW_slice Tryz.underlying93 (by kernel_rfl) (by decide) (opensW_bool Tryz.underlying4 (by kernel_rfl)) h1
  have y1 : n1 * 1 ≤ 140737488351232 := sized_len hsz (j := 1) (t := 93) rfl rfl Tryz.underlying93 (by kernel_rfl) h1
  subst e1
  have k2 := h2
  have lt2 : ∀ x ∈ p2, x.block < W.heap.size := by obtain ⟨m, hm⟩ := k2; exact DataW.trod_lt m _ _ _ hm
  obtain ⟨x2, rfl, g2⟩ := openW_agg (opensW_arr2 Tryz.underlying94 (by kernel_rfl) rfl (opensW_int Tryz.underlying3 (by kernel_rfl))) (okWide_arr Tryz.underlying94 (hval 2 94 v2 rfl rfl)) h2
  have hTab := tabOf hL
  refine ((ReviveFolds_spec W a0 a1 c0 c1 l0 l1 x2.1 x2.2 r0 g0 r1 (wf_i64' g2.1) hTab).says).mono fun e W' ⟨he, bel⟩ => ?_
  subst he
  exact ⟨_, rfl, _, _, _, [], _, [], hW', trodAll_mk1 (shut_bool Tryz.underlying4 _), (trodAll_cons_mk (Below.trod laidOut (by kernel_rfl) (of_decide_eq_true (by kernel_rfl)) k0 bel lt0) (trodAll_cons_mk (Below.trod laidOut (by kernel_rfl) (of_decide_eq_true (by kernel_rfl)) k1 bel lt1) (trodAll_cons_mk (Below.trod laidOut (by kernel_rfl) (of_decide_eq_true (by kernel_rfl)) k2 bel lt2) trodAll_mk0))), rfl, bel.frame _, fun h => by cases h⟩
theorem bt {a b : Bool} (h : a = true) (k : b = true) : (a && b) = true := by rw [h, k]; rfl
theorem j0 : (Rows.reviveFoldsRow.wf (OpenSpec.ofChange Rows.reviveFoldsSpec)) = true := by kernel_rfl
theorem j1 : (laidOutB Tryz.pinned.checked.prog) = true := by kernel_rfl
theorem j2 : (mapsRowed Tryz.pinned.checked.prog) = true := by kernel_rfl
theorem j3 : (Tryz.f6.params.all (Tryz.pinned.checked.prog.readableRec ·)) = true := by kernel_rfl
theorem j4 : (namedTie Tryz.pinned.checked.prog Rows.reviveFoldsRow.named Rows.reviveFoldsSpec.vars) = true := by kernel_rfl
theorem j5 : ((Rows.reviveFoldsRow.stops == [])) = true := by kernel_rfl
theorem j6 : ((Tryz.pinned.checked.prog.stops == [])) = true := by kernel_rfl
theorem j7 : ((Rows.reviveFoldsRow.knobs == [])) = true := by kernel_rfl
theorem j8 : ((Tryz.pinned.checked.prog.stopKnobs == [])) = true := by kernel_rfl
theorem j9 : ((Rows.reviveFoldsRow.inPlace == Tryz.pinned.checked.prog.inPlace 6)) = true := by kernel_rfl
theorem j10 : ((Rows.reviveFoldsRow.unfollowed == Tryz.pinned.checked.prog.unfollowed 6)) = true := by kernel_rfl
theorem j11 : ((Rows.reviveFoldsRow.recurses == Tryz.pinned.checked.prog.recurses 6)) = true := by kernel_rfl
theorem j12 : ((Rows.reviveFoldsRow.named == Tryz.pinned.checked.prog.varsNamed 6)) = true := by kernel_rfl
theorem j13 : ((Rows.reviveFoldsRow.maps == (Tryz.f6.params.toList ++ Rows.reviveFoldsSpec.plain.varTypes Tryz.pinned.checked.prog).any (Tryz.pinned.checked.prog.mapsRec ·))) = true := by kernel_rfl
theorem j14 : ((Rows.reviveFoldsRow.ifaces == (Tryz.f6.params.toList ++ Rows.reviveFoldsSpec.plain.varTypes Tryz.pinned.checked.prog).any (Tryz.pinned.checked.prog.ifacesRec ·))) = true := by kernel_rfl
theorem j15 : ((Rows.reviveFoldsRow.mapsOut == Tryz.pinned.checked.prog.mapsAmong Tryz.f6.resultTypes.toList)) = true := by kernel_rfl
theorem j16 : ((Rows.reviveFoldsRow.loops == (Tryz.f6.params.toList ++ Rows.reviveFoldsSpec.plain.varTypes Tryz.pinned.checked.prog).any (Tryz.pinned.checked.prog.loopsFrom ·))) = true := by kernel_rfl
theorem j17 : ((Rows.reviveFoldsRow.wideKeys == (Tryz.f6.params.toList ++ Rows.reviveFoldsSpec.plain.varTypes Tryz.pinned.checked.prog ++ Tryz.f6.resultTypes.toList).any (Tryz.pinned.checked.prog.wideKeysFrom ·))) = true := by kernel_rfl
theorem j18 : (Rows.reviveFoldsSpec.vars.all (Tryz.pinned.checked.prog.varReadable ·)) = true := by kernel_rfl
theorem j19 : (Tryz.f6.resultTypes.all (fun t => Tryz.pinned.checked.prog.readableRec t && decide (t < Tryz.pinned.checked.prog.types.size))) = true := by kernel_rfl
theorem j20 : ((Rows.reviveFoldsRow.ifacesOut == Tryz.f6.resultTypes.toList.any (Tryz.pinned.checked.prog.ifacesRec ·))) = true := by kernel_rfl
theorem j21 : ((Rows.reviveFoldsRow.loopsOut == Tryz.f6.resultTypes.toList.any (Tryz.pinned.checked.prog.loopsFrom ·))) = true := by kernel_rfl
theorem j22 : ((Rows.reviveFoldsRow.plainKeys == Tryz.pinned.checked.prog.plainKeys)) = true := by kernel_rfl
theorem j23 : (Rows.reviveFoldsRow.shortTexts.isNone) = true := by kernel_rfl
theorem j24 : (Tryz.pinned.checked.prog.stopsHeard) = true := by kernel_rfl
theorem j25 : (Tryz.pinned.checked.prog.mayEnter) = true := by kernel_rfl
theorem j26 : ((Rows.reviveFoldsRow.lifted == Tryz.pinned.checked.prog.liftsFinal)) = true := by kernel_rfl
theorem j27 : ((Tryz.pinned.checked.prog.make == some Rows.reviveFoldsRow.make)) = true := by kernel_rfl
theorem j28 : ((Rows.reviveFoldsRow.kinds == (if Rows.reviveFoldsRow.domain.isEmpty then [] else Tryz.f6.params.toList.map fun t => match Tryz.pinned.checked.prog.underlying t with | some (.int k) => some k | _ => none))) = true := by kernel_rfl
theorem j29 : ((Rows.reviveFoldsRow.pinned == Rows.reviveFoldsRow.pinnedBy)) = true := by kernel_rfl
theorem j30 : ((Rows.reviveFoldsRow.veiled == (Tryz.f6.params.toList ++ Rows.reviveFoldsSpec.plain.varTypes Tryz.pinned.checked.prog ++ Tryz.f6.resultTypes.toList).any (Tryz.pinned.checked.prog.veiledRec ·))) = true := by kernel_rfl
theorem j31 : (Rows.reviveFoldsRow.veiledFits Tryz.pinned.checked.prog Tryz.f6.params.toList (Tryz.f6.params.toList ++ Rows.reviveFoldsSpec.plain.varTypes Tryz.pinned.checked.prog ++ Tryz.f6.resultTypes.toList)) = true := by kernel_rfl
theorem closed : joinedFacts Tryz.pinned.checked.prog 6 Tryz.f6 Rows.reviveFoldsSpec Rows.reviveFoldsRow = true := by
  unfold joinedFacts
  exact (bt (bt (bt (bt (bt (bt (bt (bt (bt (bt (bt (bt (bt (bt (bt (bt (bt (bt (bt (bt (bt (bt (bt (bt (bt (bt (bt (bt (bt (bt (bt j0 j1) j2) j3) j4) j5) j6) j7) j8) j9) j10) j11) j12) j13) j14) j15) j16) j17) j18) j19) j20) j21) j22) j23) j24) j25) j26) j27) j28) j29) j30) j31)
theorem hfnN : Tryz.pinned.checked.prog.funcNamed Rows.reviveFoldsRow.func = some 6 := by kernel_rfl
theorem hin : Tryz.f6.isInstance Tryz.pinned.checked.prog Rows.reviveFoldsRow.origin Rows.reviveFoldsRow.targs := of_decide_eq_true (by kernel_rfl)
theorem hwr : Tryz.f6.isWrapper Tryz.pinned.checked.prog Rows.reviveFoldsRow.wrapper Rows.reviveFoldsRow.mainSum := by unfold Func.isWrapper; first | (rw [if_pos (by decide +kernel)]; kernel_rfl) | (rw [if_neg (by decide +kernel)]; exact ⟨rfl, rfl⟩)
theorem hwt : Rows.reviveFoldsRow.wfByText (OpenSpec.ofChange Rows.reviveFoldsSpec) = true := by kernel_rfl
theorem hmi : Tryz.pinned.checked.prog.mainIs = some ((true, "2e26604ac8b6134b237fb3d09b29ef628a5094828f5ea280fa30a646749a2e97").1, (true, "2e26604ac8b6134b237fb3d09b29ef628a5094828f5ea280fa30a646749a2e97").2.toList) := by kernel_rfl
theorem hlk : false = Tryz.pinned.checked.prog.looks [] := by kernel_rfl
theorem hgo : false = Rows.reviveFoldsRow.goesBy Tryz.pinned.checked.prog := by kernel_rfl
theorem hst : ([92, 93, 94].all fun u => !Tryz.prog.wantsStandIn u) = true := by kernel_rfl
theorem over : Rows.reviveFoldsRow.holds Tryz.pinned (OpenSpec.ofChange Rows.reviveFoldsSpec) :=
  OpenClaim.holds_of_wide 6 Tryz.f6 rfl rfl rfl rfl rfl rfl rfl ⟨rfl, rfl, rfl, rfl, rfl⟩ rfl rfl rfl rfl rfl hfnN Tryz.func6 closed
    hin hwr
    (fun os started H enc _ => lifted os started H enc)
theorem proved : Rows.ReviveFoldsCardSaid :=
  Claim7.holds_tied_plain_at .later [] [.data, .data, .data, .data, .pinned] true (true, "2e26604ac8b6134b237fb3d09b29ef628a5094828f5ea280fa30a646749a2e97") false over (fun _ h => by cases h) hwt (fun _ h => by cases h) reviveFolds_row_tie rfl ⟨rfl, rfl⟩ hmi rfl
    (fun f fn hf hfn => by
      obtain rfl : f = 6 := Option.some.inj (hfnN.symm.trans hf) |>.symm
      obtain rfl : fn = Tryz.f6 := (Option.some.inj (Tryz.func6.symm.trans hfn)).symm
      exact ⟨hlk, fun j t ht => by
        rw [Tryz.params6] at ht
        have hm : t ∈ [92, 93, 94] := by have := Array.mem_of_getElem? ht; simpa using this
        exact (show Tryz.prog.wantsStandIn t = false by simpa using List.all_eq_true.1 hst t hm)⟩)
    hgo
end Go.Proofs.YtakoppmiegjjlaaGreatDoor.reviveFolds
namespace Go.Proofs.YtakoppmiegjjlaaGreatDoor
/-- The row, under a short name, for the claim. -/
theorem reviveFolds_holds : Rows.ReviveFoldsCardSaid := reviveFolds.proved
#print axioms reviveFolds_holds
end Go.Proofs.YtakoppmiegjjlaaGreatDoor
