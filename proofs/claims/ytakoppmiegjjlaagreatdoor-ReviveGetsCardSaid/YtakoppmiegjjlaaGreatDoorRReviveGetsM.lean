/- lighterlaw19.ReviveGets returns true whatever it is handed, and what it is handed reads as it did. No condition. -/
import Derived.Test.YtakoppmiegjjlaaGreatDoorM41
import Derived.Test.YtakoppmiegjjlaaGreatDoorM3
import Derived.Test.YtakoppmiegjjlaaGreatDoorRows
import Derived.Test.YtakoppmiegjjlaaGreatDoorCards
import Derived.Test.YtakoppmiegjjlaaGreatDoorTie
import Derived.Lay
import Derived.LaidOnce
import Derived.Lib.LaidTab
import Derived.Lib.LaidU8
import Derived.SevenTiedAt
namespace Go.Proofs.YtakoppmiegjjlaaGreatDoor.reviveGets
open Go.ChangeShapes Go.WideShapes Go.ChangeAt Go.RowKit Go.Lx
set_option linter.unusedVariables false
set_option maxRecDepth 100000
theorem own : ownKnob Tryz.prog.godebug = none := by kernel_rfl
theorem laidOut : laidOutB Tryz.prog = true := by kernel_rfl
theorem tabOf {W : World} (h : laidMetH Tryz.prog Rows.reviveGetsRow.laid W) : Tab W (fun _ => False) := by
  rw [MakeChecks.laidMetH_plain _ _ _ (by kernel_rfl)] at h
  obtain ⟨g', t', cs, fuel, p, hg', ht', hvar, hd⟩ := Lib.laidMet.reads h (.tail _ (.head _))
  have hg : Tryz.prog.globalNamed "math/bits.deBruijn64tab" = some 3 := by kernel_rfl
  have hty : (Tryz.prog.globals[3]?).map (·.type) = some 399 := by kernel_rfl
  obtain rfl := Option.some.inj (hg.symm.trans hg')
  obtain rfl := Option.some.inj (hty.symm.trans ht')
  have hT : Lib.TabIs Tryz.prog W "math/bits.deBruijn64tab" .u8 [0, 1, 56, 2, 57, 49, 28, 3, 61, 58, 42, 50, 38, 29, 17, 4, 62, 47, 59, 36, 45, 43, 51, 22, 53, 39, 33, 30, 24, 18, 12, 5, 63, 55, 48, 27, 60, 41, 37, 16, 46, 35, 44, 21, 52, 32, 23, 11, 54, 26, 40, 15, 34, 20, 31, 10, 25, 14, 19, 9, 13, 8, 7, 6] := by
    unfold Lib.TabIs
    rw [hvar, ← Lib.cells_of_tab (zs := [0, 1, 56, 2, 57, 49, 28, 3, 61, 58, 42, 50, 38, 29, 17, 4, 62, 47, 59, 36, 45, 43, 51, 22, 53, 39, 33, 30, 24, 18, 12, 5, 63, 55, 48, 27, 60, 41, 37, 16, 46, 35, 44, 21, 52, 32, 23, 11, 54, 26, 40, 15, 34, 20, 31, 10, 25, 14, 19, 9, 13, 8, 7, 6]) Tryz.underlying399 Tryz.underlying5 (by kernel_rfl) (by kernel_rfl) hd]
  exact ⟨hT.cell (by kernel_rfl) 15 (by decide), fun h => h⟩
set_option maxRecDepth 100000 in
theorem lifted (os : Os) (started : os.Started) (H : Type) (enc : TypeId × Value → H) :
    ReturnsInHanded {} Tryz.checked os 5 .any (fun w args => (Rows.reviveGetsSpec.pre enc Tryz.prog Tryz.f5 [] false w args ∧ laidMetH Tryz.prog Rows.reviveGetsRow.laid w) ∧ sizedMet enc Tryz.prog Tryz.f5 (OpenSpec.ofChange Rows.reviveGetsSpec) false w args) (Rows.reviveGetsSpec.post enc Tryz.prog Tryz.f5 false true false false) := by
  refine returnsInHanded_of_change_and (C := Tryz.checked) (X := fun w _ => laidMetH Tryz.prog Rows.reviveGetsRow.laid w) (fun _ _ _ hh h => h.of_heap hh) own started (by kernel_rfl) Tryz.func5
    (ChangeSpec.witness_shaped (enc := enc) (C := Tryz.checked) (os := os) (X := fun w _ => laidMetH Tryz.prog Rows.reviveGetsRow.laid w) false (World.laidAll Tryz.prog os Rows.reviveGetsRow.laid) #[.slice none 0 0, .int .i64 0, .agg #[.int .i64 0, .int .i64 0, .int .i64 0, .slice none 0 0]] 8 (World.laidAll_os _ _ _)
      (World.shaped_of_ZipB (by kernel_rfl) (by kernel_rfl)) (by kernel_rfl) (by kernel_rfl) (by kernel_rfl)
      (by rw [MakeChecks.laidMetH_plain _ _ _ (by kernel_rfl)]; exact laidMet_laidAll _ (by kernel_rfl) (by kernel_rfl))) ?_
  intro W base args ds gs before hval0 hW hcnd hsz0 hL _
  have hsz : (DataW.weightsEach Tryz.prog (Tryz.f5.params.toList ++ Rows.reviveGetsSpec.plain.varTypes Tryz.prog) (ds ++ gs)).all (· ≤ reachBytes) = true := hsz0
  have hval : ∀ (j : Nat) t v, Tryz.f5.params[j]? = some t → args[j]? = some v → Value.okWide Tryz.prog W .any base t v := hval0
  have hW' := hW
  obtain ⟨p, q, hA0, hV, rfl, hfz, hnd⟩ := hW
  have hA : DataW.TrodAll enc Tryz.prog W 0 (fun _ => true) true Tryz.f5.params.toList args.toList ds p := hA0
  rw [Tryz.params5] at hA hval hsz
  obtain ⟨v0, vs0, d0, ds0, p0, q0, hargs, rfl, rfl, h0, rr0⟩ := trodAll_cons hA
  obtain ⟨v1, vs1, d1, ds1, p1, q1, rfl, rfl, rfl, h1, rr1⟩ := trodAll_cons rr0
  obtain ⟨v2, vs2, d2, ds2, p2, q2, rfl, rfl, rfl, h2, rr2⟩ := trodAll_cons rr1
  obtain ⟨rfl, rfl, rfl⟩ := trodAll_nil rr2
  obtain rfl : args = #[v0, v1, v2] := by cases args; simp_all
  obtain ⟨rfl, rfl⟩ := trodVars_none hV
  obtain ⟨a0, n0, c0, rfl⟩ := okWide_slice Tryz.underlying51 (hval 0 51 v0 rfl rfl)
  have k0 := h0
  have lt0 : ∀ x ∈ p0, x.block < W.heap.size := by obtain ⟨m, hm⟩ := k0; exact DataW.trod_lt m _ _ _ hm
  obtain ⟨l0, e0, r0, g0⟩ := openW_slice Tryz.underlying51 (by kernel_rfl) (by decide) (OpensW.map (opensW_struct Tryz.underlying128 (by kernel_rfl) (OpF.cons rfl (opensW_int Tryz.underlying3 (by kernel_rfl)) (OpF.cons rfl (opensW_int Tryz.underlying3 (by kernel_rfl)) (OpF.cons rfl (opensW_string Tryz.underlying9 (by kernel_rfl)) OpF.nil)))) (fun x => ⟨x.1, x.2.1, x.2.2.1.data.toList⟩) encPu1 (fun _ _ => True) (fun _ => rfl) (fun w a h => by simp [encPu1]) (fun w a h => trivial)) h0
  have y0 : n0 * 32 ≤ 140737488351232 := sized_len hsz (j := 0) (t := 51) rfl rfl Tryz.underlying51 (by kernel_rfl) h0
  subst e0
  have k1 := h1
  have lt1 : ∀ x ∈ p1, x.block < W.heap.size := by obtain ⟨m, hm⟩ := k1; exact DataW.trod_lt m _ _ _ hm
  obtain ⟨n1, rfl, rfl, rfl, g1⟩ := open_int Tryz.underlying3 (hval 1 3 v1 rfl rfl) h1
  have w1 : i64 n1 := wf_i64' g1
  have k2 := h2
  have lt2 : ∀ x ∈ p2, x.block < W.heap.size := by obtain ⟨m, hm⟩ := k2; exact DataW.trod_lt m _ _ _ hm
  obtain ⟨x2, rfl, g2⟩ := openW_agg (OpensW.map (opensW_struct Tryz.underlying80 (by kernel_rfl) (OpF.cons rfl (OpensW.map (opensW_struct Tryz.underlying49 (by kernel_rfl) (OpF.cons rfl (opensW_int Tryz.underlying3 (by kernel_rfl)) (OpF.cons rfl (opensW_int Tryz.underlying3 (by kernel_rfl)) OpF.nil))) (fun x => (x.1, x.2.1)) encS1 (fun _ x => i64 x.1 ∧ i64 x.2) (fun _ => rfl) (fun _ _ _ => rfl) (fun w a h => ⟨wf_i64' h.1, wf_i64' h.2.1⟩)) (OpF.cons rfl (opensW_int Tryz.underlying3 (by kernel_rfl)) (OpF.cons rfl (opensW_slice Tryz.underlying32 (by kernel_rfl) (by decide) (opensW_int Tryz.underlying3 (by kernel_rfl))) OpF.nil)))) (fun x => ⟨x.1.1, x.1.2, x.2.1, x.2.2.1.a, x.2.2.1.c, x.2.2.1.l⟩) encWa (fun w o => Rd w 1 o.a o.l.length o.c (encN o.l)) (fun _ => rfl) (fun w a h => by have e := h.2.2.1.1; simp only [encWa, e]; rfl) (fun w a h => by have e := h.2.2.1.1; have r := h.2.2.1.2.1; rw [← e] at r; exact r)) (by obtain ⟨cs, hcs, _⟩ := okWide_struct Tryz.underlying80 (hval 2 80 v2 rfl rfl); exact ⟨cs, hcs⟩) h2
  have hTab := tabOf hL
  refine ((ReviveGets_spec W a0 x2.a c0 x2.c l0 x2.l n1 x2.s x2.p x2.n r0 g2 hTab).says).mono fun e W' ⟨he, bel⟩ => ?_
  subst he
  exact ⟨_, rfl, _, _, _, [], _, [], hW', trodAll_mk1 (shut_bool Tryz.underlying4 _), (trodAll_cons_mk (Below.trod laidOut (by kernel_rfl) (of_decide_eq_true (by kernel_rfl)) k0 bel lt0) (trodAll_cons_mk (Below.trod laidOut (by kernel_rfl) (of_decide_eq_true (by kernel_rfl)) k1 bel lt1) (trodAll_cons_mk (Below.trod laidOut (by kernel_rfl) (of_decide_eq_true (by kernel_rfl)) k2 bel lt2) trodAll_mk0))), rfl, bel.frame _, fun h => by cases h⟩
theorem bt {a b : Bool} (h : a = true) (k : b = true) : (a && b) = true := by rw [h, k]; rfl
theorem j0 : (Rows.reviveGetsRow.wf (OpenSpec.ofChange Rows.reviveGetsSpec)) = true := by kernel_rfl
theorem j1 : (laidOutB Tryz.pinned.checked.prog) = true := by kernel_rfl
theorem j2 : (mapsRowed Tryz.pinned.checked.prog) = true := by kernel_rfl
theorem j3 : (Tryz.f5.params.all (Tryz.pinned.checked.prog.readableRec ·)) = true := by kernel_rfl
theorem j4 : (namedTie Tryz.pinned.checked.prog Rows.reviveGetsRow.named Rows.reviveGetsSpec.vars) = true := by kernel_rfl
theorem j5 : ((Rows.reviveGetsRow.stops == [])) = true := by kernel_rfl
theorem j6 : ((Tryz.pinned.checked.prog.stops == [])) = true := by kernel_rfl
theorem j7 : ((Rows.reviveGetsRow.knobs == [])) = true := by kernel_rfl
theorem j8 : ((Tryz.pinned.checked.prog.stopKnobs == [])) = true := by kernel_rfl
theorem j9 : ((Rows.reviveGetsRow.inPlace == Tryz.pinned.checked.prog.inPlace 5)) = true := by kernel_rfl
theorem j10 : ((Rows.reviveGetsRow.unfollowed == Tryz.pinned.checked.prog.unfollowed 5)) = true := by kernel_rfl
theorem j11 : ((Rows.reviveGetsRow.recurses == Tryz.pinned.checked.prog.recurses 5)) = true := by kernel_rfl
theorem j12 : ((Rows.reviveGetsRow.named == Tryz.pinned.checked.prog.varsNamed 5)) = true := by kernel_rfl
theorem j13 : ((Rows.reviveGetsRow.maps == (Tryz.f5.params.toList ++ Rows.reviveGetsSpec.plain.varTypes Tryz.pinned.checked.prog).any (Tryz.pinned.checked.prog.mapsRec ·))) = true := by kernel_rfl
theorem j14 : ((Rows.reviveGetsRow.ifaces == (Tryz.f5.params.toList ++ Rows.reviveGetsSpec.plain.varTypes Tryz.pinned.checked.prog).any (Tryz.pinned.checked.prog.ifacesRec ·))) = true := by kernel_rfl
theorem j15 : ((Rows.reviveGetsRow.mapsOut == Tryz.pinned.checked.prog.mapsAmong Tryz.f5.resultTypes.toList)) = true := by kernel_rfl
theorem j16 : ((Rows.reviveGetsRow.loops == (Tryz.f5.params.toList ++ Rows.reviveGetsSpec.plain.varTypes Tryz.pinned.checked.prog).any (Tryz.pinned.checked.prog.loopsFrom ·))) = true := by kernel_rfl
theorem j17 : ((Rows.reviveGetsRow.wideKeys == (Tryz.f5.params.toList ++ Rows.reviveGetsSpec.plain.varTypes Tryz.pinned.checked.prog ++ Tryz.f5.resultTypes.toList).any (Tryz.pinned.checked.prog.wideKeysFrom ·))) = true := by kernel_rfl
theorem j18 : (Rows.reviveGetsSpec.vars.all (Tryz.pinned.checked.prog.varReadable ·)) = true := by kernel_rfl
theorem j19 : (Tryz.f5.resultTypes.all (fun t => Tryz.pinned.checked.prog.readableRec t && decide (t < Tryz.pinned.checked.prog.types.size))) = true := by kernel_rfl
theorem j20 : ((Rows.reviveGetsRow.ifacesOut == Tryz.f5.resultTypes.toList.any (Tryz.pinned.checked.prog.ifacesRec ·))) = true := by kernel_rfl
theorem j21 : ((Rows.reviveGetsRow.loopsOut == Tryz.f5.resultTypes.toList.any (Tryz.pinned.checked.prog.loopsFrom ·))) = true := by kernel_rfl
theorem j22 : ((Rows.reviveGetsRow.plainKeys == Tryz.pinned.checked.prog.plainKeys)) = true := by kernel_rfl
theorem j23 : (Rows.reviveGetsRow.shortTexts.isNone) = true := by kernel_rfl
theorem j24 : (Tryz.pinned.checked.prog.stopsHeard) = true := by kernel_rfl
theorem j25 : (Tryz.pinned.checked.prog.mayEnter) = true := by kernel_rfl
theorem j26 : ((Rows.reviveGetsRow.lifted == Tryz.pinned.checked.prog.liftsFinal)) = true := by kernel_rfl
theorem j27 : ((Tryz.pinned.checked.prog.make == some Rows.reviveGetsRow.make)) = true := by kernel_rfl
theorem j28 : ((Rows.reviveGetsRow.kinds == (if Rows.reviveGetsRow.domain.isEmpty then [] else Tryz.f5.params.toList.map fun t => match Tryz.pinned.checked.prog.underlying t with | some (.int k) => some k | _ => none))) = true := by kernel_rfl
theorem j29 : ((Rows.reviveGetsRow.pinned == Rows.reviveGetsRow.pinnedBy)) = true := by kernel_rfl
theorem j30 : ((Rows.reviveGetsRow.veiled == (Tryz.f5.params.toList ++ Rows.reviveGetsSpec.plain.varTypes Tryz.pinned.checked.prog ++ Tryz.f5.resultTypes.toList).any (Tryz.pinned.checked.prog.veiledRec ·))) = true := by kernel_rfl
theorem j31 : (Rows.reviveGetsRow.veiledFits Tryz.pinned.checked.prog Tryz.f5.params.toList (Tryz.f5.params.toList ++ Rows.reviveGetsSpec.plain.varTypes Tryz.pinned.checked.prog ++ Tryz.f5.resultTypes.toList)) = true := by kernel_rfl
theorem closed : joinedFacts Tryz.pinned.checked.prog 5 Tryz.f5 Rows.reviveGetsSpec Rows.reviveGetsRow = true := by
  unfold joinedFacts
  exact (bt (bt (bt (bt (bt (bt (bt (bt (bt (bt (bt (bt (bt (bt (bt (bt (bt (bt (bt (bt (bt (bt (bt (bt (bt (bt (bt (bt (bt (bt (bt j0 j1) j2) j3) j4) j5) j6) j7) j8) j9) j10) j11) j12) j13) j14) j15) j16) j17) j18) j19) j20) j21) j22) j23) j24) j25) j26) j27) j28) j29) j30) j31)
theorem hfnN : Tryz.pinned.checked.prog.funcNamed Rows.reviveGetsRow.func = some 5 := by kernel_rfl
theorem hin : Tryz.f5.isInstance Tryz.pinned.checked.prog Rows.reviveGetsRow.origin Rows.reviveGetsRow.targs := of_decide_eq_true (by kernel_rfl)
theorem hwr : Tryz.f5.isWrapper Tryz.pinned.checked.prog Rows.reviveGetsRow.wrapper Rows.reviveGetsRow.mainSum := by unfold Func.isWrapper; first | (rw [if_pos (by decide +kernel)]; kernel_rfl) | (rw [if_neg (by decide +kernel)]; exact ⟨rfl, rfl⟩)
theorem hwt : Rows.reviveGetsRow.wfByText (OpenSpec.ofChange Rows.reviveGetsSpec) = true := by kernel_rfl
theorem hmi : Tryz.pinned.checked.prog.mainIs = some ((true, "2e26604ac8b6134b237fb3d09b29ef628a5094828f5ea280fa30a646749a2e97").1, (true, "2e26604ac8b6134b237fb3d09b29ef628a5094828f5ea280fa30a646749a2e97").2.toList) := by kernel_rfl
theorem hlk : false = Tryz.pinned.checked.prog.looks [] := by kernel_rfl
theorem hgo : false = Rows.reviveGetsRow.goesBy Tryz.pinned.checked.prog := by kernel_rfl
theorem hst : ([51, 3, 80].all fun u => !Tryz.prog.wantsStandIn u) = true := by kernel_rfl
theorem over : Rows.reviveGetsRow.holds Tryz.pinned (OpenSpec.ofChange Rows.reviveGetsSpec) :=
  OpenClaim.holds_of_wide 5 Tryz.f5 rfl rfl rfl rfl rfl rfl rfl ⟨rfl, rfl, rfl, rfl, rfl⟩ rfl rfl rfl rfl rfl hfnN Tryz.func5 closed
    hin hwr
    (fun os started H enc _ => lifted os started H enc)
theorem proved : Rows.ReviveGetsCardSaid :=
  Claim7.holds_tied_plain_at .later [] [.data, .data, .data, .data, .pinned] true (true, "2e26604ac8b6134b237fb3d09b29ef628a5094828f5ea280fa30a646749a2e97") false over (fun _ h => by cases h) hwt (fun _ h => by cases h) reviveGets_row_tie rfl ⟨rfl, rfl⟩ hmi rfl
    (fun f fn hf hfn => by
      obtain rfl : f = 5 := Option.some.inj (hfnN.symm.trans hf) |>.symm
      obtain rfl : fn = Tryz.f5 := (Option.some.inj (Tryz.func5.symm.trans hfn)).symm
      exact ⟨hlk, fun j t ht => by
        rw [Tryz.params5] at ht
        have hm : t ∈ [51, 3, 80] := by have := Array.mem_of_getElem? ht; simpa using this
        exact (show Tryz.prog.wantsStandIn t = false by simpa using List.all_eq_true.1 hst t hm)⟩)
    hgo
end Go.Proofs.YtakoppmiegjjlaaGreatDoor.reviveGets
namespace Go.Proofs.YtakoppmiegjjlaaGreatDoor
/-- The row, under a short name, for the claim. -/
theorem reviveGets_holds : Rows.ReviveGetsCardSaid := reviveGets.proved
#print axioms reviveGets_holds
end Go.Proofs.YtakoppmiegjjlaaGreatDoor
