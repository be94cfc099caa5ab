/- The document's map of sectors: puts, cuts, moves, what is found. -/
import Derived.Test.YtnljlpmeeeajmaaFa
namespace Go.Lx
open Go.Proofs
set_option linter.unusedVariables false
set_option linter.unusedSimpArgs false
set_option maxRecDepth 20000
set_option maxHeartbeats 4000000

theorem toK {a : Int} {i : Nat} (h0 : 0 ≤ a) (h : a + i < 300) : ∃ k : Nat, a + i = k ∧ k < 300 := ⟨(a + i).toNat, by omega, by omega⟩
theorem cast_succ (i : Nat) : ((i + 1 : Nat) : Int) = (i : Int) + 1 := by omega
theorem refPut_spec (w : World) (H : Nat → Prop) (g : Nat) (pa ps : Option Addr) (ca cs : Nat) (is : List Bool) (sp : List Sp) (σ : Sig) (x : Ext) (hown : Sep [cells g [.slice pa 300 ca, .slice ps 300 cs] 67, own 4 1 (.slice pa 300 ca) 300 (encB is), own 28 2 (.slice ps 300 cs) 300 (encS sp)] w H) (hR : IsRef is sp σ) (hm : mayE x) (h3 : x.a + x.n ≤ 300) :
    Spec Try.prog 16 #[.pointer (some ⟨g, 0, none⟩), .agg #[.int .i64 x.a, .int .i64 x.n, .int .i64 x.q, .int .i64 x.p]] w H (fun v B => ∃ is' sp', v = .tuple #[] ∧ IsRef is' sp' (updE σ x) ∧ B = [cells g [.slice pa 300 ca, .slice ps 300 cs] 67, own 4 1 (.slice pa 300 ca) 300 (encB is'), own 28 2 (.slice ps 300 cs) 300 (encS sp')]) := by
  have hm' := hm
  unfold mayE mayS plS at hm'
  dsimp only at hm'
  refine Spec.enter (args := [.pointer (some ⟨g, 0, none⟩), .agg #[.int .i64 x.a, .int .i64 x.n, .int .i64 x.q, .int .i64 x.p]]) (A := [cells g [.slice pa 300 ca, .slice ps 300 cs] 67, own 4 1 (.slice pa 300 ca) 300 (encB is), own 28 2 (.slice ps 300 cs) 300 (encS sp)]) Try.func16 rfl Try.ntmps16 rfl hown ?_
  (refine X.seq ?_ <;> (refine X.text (L := (.op .fin 0 .nil)) rfl ?_ <;>
    (refine XL.boxN rfl rfl rfl rfl (by intro g; infer_instance) (fun gx => ?_)) <;>
    (refine XL.nil ?_)) <;> (first | refine Ex.then ?_ | (refine N.next ?_ <;> (refine X.seq ?_ <;> (refine X.text (L := (.op .fin 0 .nil)) rfl ?_ <;>
    ((apply XL.det0F rfl rfl rfl rfl; exact D.assign rfl)) <;>
    (refine XL.nil ?_)) <;> (first | refine Ex.then ?_ | (refine N.next ?_ <;> (refine X.block ?_ <;> ((refine X.loop (ι := Nat × List Bool × List Sp) (fun y => [(0, .pointer (some ⟨g, 0, none⟩)), (3, .pointer (some ⟨gx, 0, none⟩)), (4, .int .i64 y.1)]) (fun y => [cells gx [.int .i64 x.a, .int .i64 x.n, .int .i64 x.q, .int .i64 x.p] 30, cells g [.slice pa 300 ca, .slice ps 300 cs] 67, own 4 1 (.slice pa 300 ca) 300 (encB y.2.1), own 28 2 (.slice ps 300 cs) 300 (encS y.2.2)]) (fun y => (y.1 : Int) ≤ x.n ∧ IsRef y.2.1 y.2.2 (updE σ ⟨x.a, y.1, x.q, x.p⟩)) (fun y => (x.n - y.1).toNat) ((0, is, sp)) ?_ ?_ ?_ ?_; (focus (exact ⟨by dsimp only; omega, by dsimp only; rw [show ((0 : Nat) : Int) = 0 from rfl, updE_zero]; exact hR⟩)); (focus (repeat (first | exact Sub.nil | refine Sub.cons rfl ?_))); (focus (exact (fun w h => h.takes))); rintro ⟨i, is1, sp1⟩ ⟨hi, hR1⟩; (dsimp only at *; have hl1 := hR1.l1; have hl2 := hR1.l2)) <;> (refine X.seq ?_ <;> (refine X.seq ?_ <;> (refine X.text (L := (.op .fin 0 (.op .fin 1 (.op .fin 2 (.op .fin 3 (.op .fin 4 .nil)))))) rfl ?_ <;>
    ((apply XL.det0F rfl rfl rfl rfl; exact D.move rfl)) <;>
    ((apply XL.det0F rfl rfl rfl rfl; first | exact D.fieldAddrB0 rfl rfl | exact D.fieldAddrB rfl rfl | exact D.fieldAddrE0 rfl rfl | exact D.fieldAddrE rfl rfl)) <;>
    ((apply XL.det0F rfl rfl rfl rfl; first | exact D.fieldAddrB0 rfl rfl | exact D.fieldAddrB rfl rfl | exact D.fieldAddrE0 rfl rfl | exact D.fieldAddrE rfl rfl)) <;>
    ((apply XL.detF rfl rfl rfl rfl; first | exact D.load1 rfl (fun w h => h.cellAt (Loc.at_) rfl) | exact D.loadN rfl rfl (fun w h j u hu => by rw [at_add, Nat.zero_add]; exact h.cellAt (Loc.at_) hu) | exact D.loadP rfl rfl)) <;>
    (first | refine XL.splitF rfl rfl rfl rfl (D.int rfl rfl rfl) (fun h0 => ?_) (fun h0 => ?_)) <;>
    (refine XL.nil ?_)) <;> (first | refine Ex.then ?_ | (refine N.next ?_ <;> ((
    refine X.cond rfl ?_ ?_; rotate_left; (focus (
    intro hc; first | exact absurd hc (by decide) | (cases hc; done) | (refine X.exit ?_))); rotate_right; (focus (
    intro hc; first | exact absurd hc (by decide) | (cases hc; done) | (refine X.skip ?_)))))))) <;> (first | refine Ex.then ?_ | (refine N.next ?_ <;> (refine X.seq ?_ <;> (refine X.block ?_ <;> (refine X.seq ?_ <;> (refine X.draw (.op .v0 0 (.op .v0 1 (.op .v0 2 (.op .v1 3 (.op .v0 4 (.op .v0 5 (.op .v1 6 (.op .v0 7 (.op .v0 8 (.op .v0 9 (.op .fin 10 .nil))))))))))) mixed (by kernel_rfl) ?_ <;>
    ((apply XL.det0 rfl rfl rfl rfl; exact D.move rfl)) <;>
    ((apply XL.det0 rfl rfl rfl rfl; exact D.nilCheck rfl)) <;>
    ((apply XL.det0 rfl rfl rfl rfl; first | exact D.fieldAddrB0 rfl rfl | exact D.fieldAddrB rfl rfl | exact D.fieldAddrE0 rfl rfl | exact D.fieldAddrE rfl rfl)) <;>
    (obtain ⟨k, hk, hk3⟩ := toK (a := x.a) (i := i) (by omega) (by omega); refine XL.fact (fun w h => (h.rd (a := pa)).sm (by omega)) (fun hs1 => ?_); refine XL.fact (fun w h => (h.rd (a := ps)).sm (by omega)) (fun hs2 => ?_); (apply XL.det1 rfl rfl rfl rfl; exact D.load1 rfl (fun w h => h.cellAt (Loc.at_) rfl))) <;>
    ((apply XL.det0 rfl rfl rfl rfl; first | exact D.fieldAddrB0 rfl rfl | exact D.fieldAddrB rfl rfl | exact D.fieldAddrE0 rfl rfl | exact D.fieldAddrE rfl rfl)) <;>
    ((apply XL.det0 rfl rfl rfl rfl; first | exact D.fieldAddrB0 rfl rfl | exact D.fieldAddrB rfl rfl | exact D.fieldAddrE0 rfl rfl | exact D.fieldAddrE rfl rfl)) <;>
    ((apply XL.det1 rfl rfl rfl rfl; first | exact D.load1 rfl (fun w h => h.cellAt (Loc.at_) rfl) | exact D.loadN rfl rfl (fun w h j u hu => by rw [at_add, Nat.zero_add]; exact h.cellAt (Loc.at_) hu) | exact D.loadP rfl rfl)) <;>
    ((apply XL.det0 rfl rfl rfl rfl; exact D.move rfl)) <;>
    ((apply XL.det0 rfl rfl rfl rfl; first | exact D.add64 rfl rfl (by omega) | exact D.int rfl rfl rfl)) <;>
    ((apply XL.det0 rfl rfl rfl rfl; exact D.indexAddr k rfl rfl hk hk3 hs1)) <;>
    ((refine XL.storeE (encB (is1.set k true)) rfl rfl rfl rfl rfl (by omega) (encB_set is1 k true (by omega)) ?_)) <;>
    (refine XL.nil ?_)) <;> (first | refine Ex.then ?_ | (refine N.next ?_ <;> (refine X.draw (.op .v0 0 (.op .v0 1 (.op .v0 2 (.op .v1 3 (.op .v0 4 (.op .v0 5 (.op .v1 6 (.op .v0 7 (.op .v0 8 (.op .v0 9 (.op .v1 10 (.op .v0 11 (.op .ch 12 (.op .v0 13 (.op .fin 14 .nil))))))))))))))) mixed (by kernel_rfl) ?_ <;>
    ((apply XL.det0 rfl rfl rfl rfl; exact D.move rfl)) <;>
    ((apply XL.det0 rfl rfl rfl rfl; exact D.nilCheck rfl)) <;>
    ((apply XL.det0 rfl rfl rfl rfl; first | exact D.fieldAddrB0 rfl rfl | exact D.fieldAddrB rfl rfl | exact D.fieldAddrE0 rfl rfl | exact D.fieldAddrE rfl rfl)) <;>
    ((apply XL.det1 rfl rfl rfl rfl; first | exact D.load1 rfl (fun w h => h.cellAt (Loc.at_) rfl) | exact D.loadN rfl rfl (fun w h j u hu => by rw [at_add, Nat.zero_add]; exact h.cellAt (Loc.at_) hu) | exact D.loadP rfl rfl)) <;>
    ((apply XL.det0 rfl rfl rfl rfl; first | exact D.fieldAddrB0 rfl rfl | exact D.fieldAddrB rfl rfl | exact D.fieldAddrE0 rfl rfl | exact D.fieldAddrE rfl rfl)) <;>
    ((apply XL.det0 rfl rfl rfl rfl; first | exact D.fieldAddrB0 rfl rfl | exact D.fieldAddrB rfl rfl | exact D.fieldAddrE0 rfl rfl | exact D.fieldAddrE rfl rfl)) <;>
    ((apply XL.det1 rfl rfl rfl rfl; first | exact D.load1 rfl (fun w h => h.cellAt (Loc.at_) rfl) | exact D.loadN rfl rfl (fun w h j u hu => by rw [at_add, Nat.zero_add]; exact h.cellAt (Loc.at_) hu) | exact D.loadP rfl rfl)) <;>
    ((apply XL.det0 rfl rfl rfl rfl; exact D.move rfl)) <;>
    ((apply XL.det0 rfl rfl rfl rfl; first | exact D.add64 rfl rfl (by omega) | exact D.int rfl rfl rfl)) <;>
    ((apply XL.det0 rfl rfl rfl rfl; first | exact D.fieldAddrB0 rfl rfl | exact D.fieldAddrB rfl rfl | exact D.fieldAddrE0 rfl rfl | exact D.fieldAddrE rfl rfl)) <;>
    ((apply XL.det1 rfl rfl rfl rfl; first | exact D.load1 rfl (fun w h => h.cellAt (Loc.at_) rfl) | exact D.loadN rfl rfl (fun w h j u hu => by rw [at_add, Nat.zero_add]; exact h.cellAt (Loc.at_) hu) | exact D.loadP rfl rfl)) <;>
    ((apply XL.det0 rfl rfl rfl rfl; exact D.move rfl)) <;>
    ((refine XL.call rfl rfl rfl rfl (fun w hw => behind_spec x.q x.p i (by omega) w) ?_; rintro v B' ⟨rfl, rfl⟩; refine XL.both ?_)) <;>
    ((apply XL.det0 rfl rfl rfl rfl; exact D.indexAddr k rfl rfl hk hk3 hs2)) <;>
    ((refine XL.storeE (encS (sp1.set k (x.q, x.p + i))) rfl rfl rfl rfl rfl (by omega) (encS_set sp1 k (x.q, x.p + i) (by omega)) ?_)) <;>
    (refine XL.nil ?_))))) <;> (first | refine N.block ?_ | refine Ex.here ?_ | refine Ex.out rfl ?_)) <;> (first | refine Ex.then ?_ | (refine N.next ?_ <;> (refine X.text (L := (.op .fin 0 (.op .fin 1 (.op .fin 2 .nil)))) rfl ?_ <;>
    ((apply XL.det0F rfl rfl rfl rfl; exact D.move rfl)) <;>
    ((apply XL.det0F rfl rfl rfl rfl; first | exact D.add64 rfl rfl (by omega) | exact D.int rfl rfl rfl)) <;>
    ((apply XL.det0F rfl rfl rfl rfl; exact D.assign rfl)) <;>
    (refine XL.nil ?_)))))))) <;> (first | refine Ex.then ?_ | ((refine N.again ((i + 1, is1.set k true, sp1.set k (x.q, x.p + i))) ?_ ?_ ?_ ?_; (focus (exact ⟨by dsimp only; omega, by dsimp only; rw [cast_succ]; exact hR1.put hk hk3⟩)); (focus (first | omega | (dsimp only; omega))); (focus (repeat (first | exact Sub.nil | refine Sub.cons rfl ?_))); exact (fun w h => h.takes))))) <;> (first | refine N.block ?_ | refine Ex.here ?_ | refine Ex.out rfl ?_)))))))) <;> ((repeat (first | refine Rt.then ?_ | refine Rt.block ?_ | refine Rt.scope ?_)); apply N.done (Res.r0 Try.results16 ); (focus (have hxe : (⟨x.a, (i : Int), x.q, x.p⟩ : Ext) = x := (by have : (i : Int) = x.n := (by omega); rw [this]); rw [hxe] at hR1; exact ⟨is1, sp1, rfl, hR1, rfl⟩)); exact fun w h => h.takes)
theorem refCut_spec (w : World) (H : Nat → Prop) (g : Nat) (pa ps : Option Addr) (ca cs : Nat) (is : List Bool) (sp : List Sp) (σ : Sig) (s : Sp) (hown : Sep [cells g [.slice pa 300 ca, .slice ps 300 cs] 67, own 4 1 (.slice pa 300 ca) 300 (encB is), own 28 2 (.slice ps 300 cs) 300 (encS sp)] w H) (hR : IsRef is sp σ) (hm : mayS s) (h3 : s.1 + s.2 ≤ 300) :
    Spec Try.prog 40 #[.pointer (some ⟨g, 0, none⟩), .agg #[.int .i64 s.1, .int .i64 s.2]] w H (fun v B => ∃ is', v = .tuple #[] ∧ IsRef is' sp (cutE σ s) ∧ B = [cells g [.slice pa 300 ca, .slice ps 300 cs] 67, own 4 1 (.slice pa 300 ca) 300 (encB is'), own 28 2 (.slice ps 300 cs) 300 (encS sp)]) := by
  have hm' := hm
  unfold mayS at hm'
  refine Spec.enter (args := [.pointer (some ⟨g, 0, none⟩), .agg #[.int .i64 s.1, .int .i64 s.2]]) (A := [cells g [.slice pa 300 ca, .slice ps 300 cs] 67, own 4 1 (.slice pa 300 ca) 300 (encB is), own 28 2 (.slice ps 300 cs) 300 (encS sp)]) Try.func40 rfl Try.ntmps40 rfl hown ?_
  (refine X.seq ?_ <;> (refine X.text (L := (.op .fin 0 .nil)) rfl ?_ <;>
    (refine XL.boxN rfl rfl rfl rfl (by intro g; infer_instance) (fun gx => ?_)) <;>
    (refine XL.nil ?_)) <;> (first | refine Ex.then ?_ | (refine N.next ?_ <;> (refine X.seq ?_ <;> (refine X.text (L := (.op .fin 0 .nil)) rfl ?_ <;>
    ((apply XL.det0F rfl rfl rfl rfl; exact D.assign rfl)) <;>
    (refine XL.nil ?_)) <;> (first | refine Ex.then ?_ | (refine N.next ?_ <;> (refine X.block ?_ <;> ((refine X.loop (ι := Nat × List Bool) (fun y => [(0, .pointer (some ⟨g, 0, none⟩)), (3, .pointer (some ⟨gx, 0, none⟩)), (4, .int .i64 y.1)]) (fun y => [cells gx [.int .i64 s.1, .int .i64 s.2] 26, cells g [.slice pa 300 ca, .slice ps 300 cs] 67, own 4 1 (.slice pa 300 ca) 300 (encB y.2), own 28 2 (.slice ps 300 cs) 300 (encS sp)]) (fun y => (y.1 : Int) ≤ s.2 ∧ IsRef y.2 sp (cutE σ (s.1, y.1))) (fun y => (s.2 - y.1).toNat) ((0, is)) ?_ ?_ ?_ ?_; (focus (exact ⟨by dsimp only; omega, by dsimp only; rw [show ((0 : Nat) : Int) = 0 from rfl, cutE_zero]; exact hR⟩)); (focus (repeat (first | exact Sub.nil | refine Sub.cons rfl ?_))); (focus (exact (fun w h => h.takes))); rintro ⟨i, is1⟩ ⟨hi, hR1⟩; (dsimp only at *; have hl1 := hR1.l1)) <;> (refine X.seq ?_ <;> (refine X.seq ?_ <;> (refine X.text (L := (.op .fin 0 (.op .fin 1 (.op .fin 2 (.op .fin 3 .nil))))) rfl ?_ <;>
    ((apply XL.det0F rfl rfl rfl rfl; exact D.move rfl)) <;>
    ((apply XL.det0F rfl rfl rfl rfl; first | exact D.fieldAddrB0 rfl rfl | exact D.fieldAddrB rfl rfl | exact D.fieldAddrE0 rfl rfl | exact D.fieldAddrE rfl rfl)) <;>
    ((apply XL.detF rfl rfl rfl rfl; first | exact D.load1 rfl (fun w h => h.cellAt (Loc.at_) rfl) | exact D.loadN rfl rfl (fun w h j u hu => by rw [at_add, Nat.zero_add]; exact h.cellAt (Loc.at_) hu) | exact D.loadP rfl rfl)) <;>
    (first | refine XL.splitF rfl rfl rfl rfl (D.int rfl rfl rfl) (fun h0 => ?_) (fun h0 => ?_)) <;>
    (refine XL.nil ?_)) <;> (first | refine Ex.then ?_ | (refine N.next ?_ <;> ((
    refine X.cond rfl ?_ ?_; rotate_left; (focus (
    intro hc; first | exact absurd hc (by decide) | (cases hc; done) | (refine X.exit ?_))); rotate_right; (focus (
    intro hc; first | exact absurd hc (by decide) | (cases hc; done) | (refine X.skip ?_)))))))) <;> (first | refine Ex.then ?_ | (refine N.next ?_ <;> (refine X.seq ?_ <;> (refine X.block ?_ <;> (refine X.draw (.op .v0 0 (.op .v0 1 (.op .v0 2 (.op .v1 3 (.op .v0 4 (.op .v1 5 (.op .v0 6 (.op .v0 7 (.op .v0 8 (.op .fin 9 .nil)))))))))) mixed (by kernel_rfl) ?_ <;>
    ((apply XL.det0 rfl rfl rfl rfl; exact D.move rfl)) <;>
    ((apply XL.det0 rfl rfl rfl rfl; exact D.nilCheck rfl)) <;>
    ((apply XL.det0 rfl rfl rfl rfl; first | exact D.fieldAddrB0 rfl rfl | exact D.fieldAddrB rfl rfl | exact D.fieldAddrE0 rfl rfl | exact D.fieldAddrE rfl rfl)) <;>
    (obtain ⟨k, hk, hk3⟩ := toK (a := s.1) (i := i) (by omega) (by omega); refine XL.fact (fun w h => (h.rd (a := pa)).sm (by omega)) (fun hs1 => ?_); (apply XL.det1 rfl rfl rfl rfl; exact D.load1 rfl (fun w h => h.cellAt (Loc.at_) rfl))) <;>
    ((apply XL.det0 rfl rfl rfl rfl; first | exact D.fieldAddrB0 rfl rfl | exact D.fieldAddrB rfl rfl | exact D.fieldAddrE0 rfl rfl | exact D.fieldAddrE rfl rfl)) <;>
    ((apply XL.det1 rfl rfl rfl rfl; first | exact D.load1 rfl (fun w h => h.cellAt (Loc.at_) rfl) | exact D.loadN rfl rfl (fun w h j u hu => by rw [at_add, Nat.zero_add]; exact h.cellAt (Loc.at_) hu) | exact D.loadP rfl rfl)) <;>
    ((apply XL.det0 rfl rfl rfl rfl; exact D.move rfl)) <;>
    ((apply XL.det0 rfl rfl rfl rfl; first | exact D.add64 rfl rfl (by omega) | exact D.int rfl rfl rfl)) <;>
    ((apply XL.det0 rfl rfl rfl rfl; exact D.indexAddr k rfl rfl hk hk3 hs1)) <;>
    ((refine XL.storeE (encB (is1.set k false)) rfl rfl rfl rfl rfl (by omega) (encB_set is1 k false (by omega)) ?_)) <;>
    (refine XL.nil ?_)) <;> (first | refine N.block ?_ | refine Ex.here ?_ | refine Ex.out rfl ?_)) <;> (first | refine Ex.then ?_ | (refine N.next ?_ <;> (refine X.text (L := (.op .fin 0 (.op .fin 1 (.op .fin 2 .nil)))) rfl ?_ <;>
    ((apply XL.det0F rfl rfl rfl rfl; exact D.move rfl)) <;>
    ((apply XL.det0F rfl rfl rfl rfl; first | exact D.add64 rfl rfl (by omega) | exact D.int rfl rfl rfl)) <;>
    ((apply XL.det0F rfl rfl rfl rfl; exact D.assign rfl)) <;>
    (refine XL.nil ?_)))))))) <;> (first | refine Ex.then ?_ | ((refine N.again ((i + 1, is1.set k false)) ?_ ?_ ?_ ?_; (focus (exact ⟨by dsimp only; omega, by dsimp only; rw [cast_succ]; exact hR1.cut hk hk3⟩)); (focus (first | omega | (dsimp only; omega))); (focus (repeat (first | exact Sub.nil | refine Sub.cons rfl ?_))); exact (fun w h => h.takes))))) <;> (first | refine N.block ?_ | refine Ex.here ?_ | refine Ex.out rfl ?_)))))))) <;> ((repeat (first | refine Rt.then ?_ | refine Rt.block ?_ | refine Rt.scope ?_)); apply N.done (Res.r0 Try.results40 ); (focus (have hxe : (s.1, (i : Int)) = s := (by have : (i : Int) = s.2 := (by omega); rw [this]); rw [hxe] at hR1; exact ⟨is1, rfl, hR1, rfl⟩)); exact fun w h => h.takes)
theorem refMove_spec (w : World) (H : Nat → Prop) (g : Nat) (pa ps : Option Addr) (ca cs : Nat) (is : List Bool) (sp : List Sp) (σ : Sig) (x : Ext) (q p : Int) (hown : Sep [cells g [.slice pa 300 ca, .slice ps 300 cs] 67, own 4 1 (.slice pa 300 ca) 300 (encB is), own 28 2 (.slice ps 300 cs) 300 (encS sp)] w H) (hR : IsRef is sp σ) (hm : mayE x) (hp : plS q p) (h3 : x.a + x.n ≤ 300) :
    Spec Try.prog 41 #[.pointer (some ⟨g, 0, none⟩), .agg #[.int .i64 x.a, .int .i64 x.n, .int .i64 x.q, .int .i64 x.p], .agg #[.int .i64 q, .int .i64 p]] w H (fun v B => ∃ sp' n, v = .int .i64 (cntI (isMov σ x) x.a n) ∧ x.n = (n : Nat) ∧ IsRef is sp' (movS σ x q p) ∧ B = [cells g [.slice pa 300 ca, .slice ps 300 cs] 67, own 4 1 (.slice pa 300 ca) 300 (encB is), own 28 2 (.slice ps 300 cs) 300 (encS sp')]) := by
  have hm' := hm
  unfold mayE mayS plS at hm'
  dsimp only at hm'
  have hp' := hp
  unfold plS at hp'
  refine Spec.enter (args := [.pointer (some ⟨g, 0, none⟩), .agg #[.int .i64 x.a, .int .i64 x.n, .int .i64 x.q, .int .i64 x.p], .agg #[.int .i64 q, .int .i64 p]]) (A := [cells g [.slice pa 300 ca, .slice ps 300 cs] 67, own 4 1 (.slice pa 300 ca) 300 (encB is), own 28 2 (.slice ps 300 cs) 300 (encS sp)]) Try.func41 rfl Try.ntmps41 rfl hown ?_
  (refine X.seq ?_ <;> (refine X.text (L := (.op .fin 0 (.op .fin 1 (.op .fin 2 .nil)))) rfl ?_ <;>
    (refine XL.boxN rfl rfl rfl rfl (by intro g; infer_instance) (fun gx => ?_)) <;>
    (refine XL.boxN rfl rfl rfl rfl (by intro g; infer_instance) (fun gt => ?_)) <;>
    ((apply XL.det0F rfl rfl rfl rfl; exact D.assign rfl)) <;>
    (refine XL.nil ?_)) <;> (first | refine Ex.then ?_ | (refine N.next ?_ <;> (refine X.seq ?_ <;> (refine X.text (L := (.op .fin 0 .nil)) rfl ?_ <;>
    ((apply XL.det0F rfl rfl rfl rfl; exact D.assign rfl)) <;>
    (refine XL.nil ?_)) <;> (first | refine Ex.then ?_ | (refine N.next ?_ <;> (refine X.seq ?_ <;> (refine X.seq ?_ <;> (refine X.text (L := (.op .fin 0 .nil)) rfl ?_ <;>
    ((apply XL.det0F rfl rfl rfl rfl; exact D.assign rfl)) <;>
    (refine XL.nil ?_)) <;> (first | refine Ex.then ?_ | (refine N.next ?_ <;> (refine X.block ?_ <;> ((refine X.loop (ι := Nat × List Sp) (fun y => [(0, .pointer (some ⟨g, 0, none⟩)), (4, .pointer (some ⟨gx, 0, none⟩)), (5, .pointer (some ⟨gt, 0, none⟩)), (7, .int .i64 (cntI (isMov σ x) x.a y.1)), (8, .int .i64 y.1)]) (fun y => [cells gt [.int .i64 q, .int .i64 p] 28, cells gx [.int .i64 x.a, .int .i64 x.n, .int .i64 x.q, .int .i64 x.p] 30, cells g [.slice pa 300 ca, .slice ps 300 cs] 67, own 4 1 (.slice pa 300 ca) 300 (encB is), own 28 2 (.slice ps 300 cs) 300 (encS y.2)]) (fun y => (y.1 : Int) ≤ x.n ∧ IsRef is y.2 (movS σ ⟨x.a, y.1, x.q, x.p⟩ q p)) (fun y => (x.n - y.1).toNat) ((0, sp)) ?_ ?_ ?_ ?_; (focus (exact ⟨by dsimp only; omega, by dsimp only; rw [show ((0 : Nat) : Int) = 0 from rfl, movS_zero]; exact hR⟩)); (focus (repeat (first | exact Sub.nil | refine Sub.cons rfl ?_))); (focus (exact (fun w h => h.takes))); rintro ⟨i, sp1⟩ ⟨hi, hR1⟩; (dsimp only at *; have hl1 := hR1.l1; have hl2 := hR1.l2; have hcb := cntI_bd (isMov σ x) x.a i)) <;> (refine X.seq ?_ <;> (refine X.seq ?_ <;> (refine X.text (L := (.op .fin 0 (.op .fin 1 (.op .fin 2 (.op .fin 3 (.op .fin 4 .nil)))))) rfl ?_ <;>
    ((apply XL.det0F rfl rfl rfl rfl; exact D.move rfl)) <;>
    ((apply XL.det0F rfl rfl rfl rfl; first | exact D.fieldAddrB0 rfl rfl | exact D.fieldAddrB rfl rfl | exact D.fieldAddrE0 rfl rfl | exact D.fieldAddrE rfl rfl)) <;>
    ((apply XL.det0F rfl rfl rfl rfl; first | exact D.fieldAddrB0 rfl rfl | exact D.fieldAddrB rfl rfl | exact D.fieldAddrE0 rfl rfl | exact D.fieldAddrE rfl rfl)) <;>
    ((apply XL.detF rfl rfl rfl rfl; first | exact D.load1 rfl (fun w h => h.cellAt (Loc.at_) rfl) | exact D.loadN rfl rfl (fun w h j u hu => by rw [at_add, Nat.zero_add]; exact h.cellAt (Loc.at_) hu) | exact D.loadP rfl rfl)) <;>
    (first | refine XL.splitF rfl rfl rfl rfl (D.int rfl rfl rfl) (fun h0 => ?_) (fun h0 => ?_)) <;>
    (refine XL.nil ?_)) <;> (first | refine Ex.then ?_ | (refine N.next ?_ <;> ((
    refine X.cond rfl ?_ ?_; rotate_left; (focus (
    intro hc; first | exact absurd hc (by decide) | (cases hc; done) | (refine X.exit ?_))); rotate_right; (focus (
    intro hc; first | exact absurd hc (by decide) | (cases hc; done) | (refine X.skip ?_)))))))) <;> (first | refine Ex.then ?_ | (refine N.next ?_ <;> (refine X.seq ?_ <;> (refine X.block ?_ <;> (refine X.seq ?_ <;> (refine X.draw (.op .v0 0 (.op .v0 1 (.op .v0 2 (.op .v1 3 (.op .v0 4 (.op .v0 5 (.op .v1 6 (.op .v0 7 (.op .v0 8 (.op .v0 9 (.op .v1 10 (.op .v0 11 (.op .v0 12 (.op .v0 13 (.op .v0 14 (.op .v1 15 (.op .v0 16 (.op .v0 17 (.op .v1 18 (.op .v0 19 (.op .v0 20 (.op .v0 21 (.op .v1 22 (.op .v0 23 (.op .v1 24 (.op .v0 25 (.op .ch 26 (.op .v0 27 (.op .v0 28 .nil))))))))))))))))))))))))))))) mixed (by kernel_rfl) ?_ <;>
    ((apply XL.det0 rfl rfl rfl rfl; exact D.move rfl)) <;>
    ((apply XL.det0 rfl rfl rfl rfl; exact D.nilCheck rfl)) <;>
    ((apply XL.det0 rfl rfl rfl rfl; first | exact D.fieldAddrB0 rfl rfl | exact D.fieldAddrB rfl rfl | exact D.fieldAddrE0 rfl rfl | exact D.fieldAddrE rfl rfl)) <;>
    (obtain ⟨k, hk, hk3⟩ := toK (a := x.a) (i := i) (by omega) (by omega); obtain ⟨b, s, hb, hs, hσ⟩ := hR1.here hk3; rw [← hk, movS_at] at hσ; refine XL.fact (fun w h => (h.rd (a := pa)).sm (by omega)) (fun hs1 => ?_); refine XL.fact (fun w h => (h.rd (a := ps)).sm (by omega)) (fun hs2 => ?_); (apply XL.det1 rfl rfl rfl rfl; exact D.load1 rfl (fun w h => h.cellAt (Loc.at_) rfl))) <;>
    ((apply XL.det0 rfl rfl rfl rfl; first | exact D.fieldAddrB0 rfl rfl | exact D.fieldAddrB rfl rfl | exact D.fieldAddrE0 rfl rfl | exact D.fieldAddrE rfl rfl)) <;>
    ((apply XL.det0 rfl rfl rfl rfl; first | exact D.fieldAddrB0 rfl rfl | exact D.fieldAddrB rfl rfl | exact D.fieldAddrE0 rfl rfl | exact D.fieldAddrE rfl rfl)) <;>
    ((apply XL.det1 rfl rfl rfl rfl; first | exact D.load1 rfl (fun w h => h.cellAt (Loc.at_) rfl) | exact D.loadN rfl rfl (fun w h j u hu => by rw [at_add, Nat.zero_add]; exact h.cellAt (Loc.at_) hu) | exact D.loadP rfl rfl)) <;>
    ((apply XL.det0 rfl rfl rfl rfl; exact D.move rfl)) <;>
    ((apply XL.det0 rfl rfl rfl rfl; first | exact D.add64 rfl rfl (by omega) | exact D.int rfl rfl rfl)) <;>
    ((apply XL.det0 rfl rfl rfl rfl; exact D.indexAddr k rfl rfl hk hk3 hs1)) <;>
    ((apply XL.det1 rfl rfl rfl rfl; exact D.load1 rfl (fun w hw => Rd.bAt (hw.rd (a := pa)) hb)); cases b) <;>
    ((apply XL.det0 rfl rfl rfl rfl; exact D.move rfl)) <;>
    (first | refine XL.skip0 rfl rfl rfl rfl ?_ | ((apply XL.det0 rfl rfl rfl rfl; exact D.move rfl))) <;>
    (first | refine XL.skip0 rfl rfl rfl rfl ?_ | ((apply XL.det0 rfl rfl rfl rfl; exact D.nilCheck rfl))) <;>
    (first | refine XL.skip0 rfl rfl rfl rfl ?_ | ((apply XL.det0 rfl rfl rfl rfl; first | exact D.fieldAddrB0 rfl rfl | exact D.fieldAddrB rfl rfl | exact D.fieldAddrE0 rfl rfl | exact D.fieldAddrE rfl rfl))) <;>
    (first | refine XL.skip1 rfl rfl rfl rfl ?_ | ((apply XL.det1 rfl rfl rfl rfl; first | exact D.load1 rfl (fun w h => h.cellAt (Loc.at_) rfl) | exact D.loadN rfl rfl (fun w h j u hu => by rw [at_add, Nat.zero_add]; exact h.cellAt (Loc.at_) hu) | exact D.loadP rfl rfl))) <;>
    (first | refine XL.skip0 rfl rfl rfl rfl ?_ | ((apply XL.det0 rfl rfl rfl rfl; first | exact D.fieldAddrB0 rfl rfl | exact D.fieldAddrB rfl rfl | exact D.fieldAddrE0 rfl rfl | exact D.fieldAddrE rfl rfl))) <;>
    (first | refine XL.skip0 rfl rfl rfl rfl ?_ | ((apply XL.det0 rfl rfl rfl rfl; first | exact D.fieldAddrB0 rfl rfl | exact D.fieldAddrB rfl rfl | exact D.fieldAddrE0 rfl rfl | exact D.fieldAddrE rfl rfl))) <;>
    (first | refine XL.skip1 rfl rfl rfl rfl ?_ | ((apply XL.det1 rfl rfl rfl rfl; first | exact D.load1 rfl (fun w h => h.cellAt (Loc.at_) rfl) | exact D.loadN rfl rfl (fun w h j u hu => by rw [at_add, Nat.zero_add]; exact h.cellAt (Loc.at_) hu) | exact D.loadP rfl rfl))) <;>
    (first | refine XL.skip0 rfl rfl rfl rfl ?_ | ((apply XL.det0 rfl rfl rfl rfl; exact D.move rfl))) <;>
    (first | refine XL.skip0 rfl rfl rfl rfl ?_ | ((apply XL.det0 rfl rfl rfl rfl; first | exact D.add64 rfl rfl (by omega) | exact D.int rfl rfl rfl))) <;>
    (first | refine XL.skip0 rfl rfl rfl rfl ?_ | ((apply XL.det0 rfl rfl rfl rfl; exact D.indexAddr k rfl rfl hk hk3 hs2))) <;>
    (first | refine XL.skip1 rfl rfl rfl rfl ?_ | ((apply XL.det1 rfl rfl rfl rfl; exact D.loadN rfl rfl (fun w hw j u hu => Rd.sp (hw.rd (a := ps)) hs j u hu)))) <;>
    (first | refine XL.skip0 rfl rfl rfl rfl ?_ | ((apply XL.det0 rfl rfl rfl rfl; first | exact D.fieldAddrB0 rfl rfl | exact D.fieldAddrB rfl rfl | exact D.fieldAddrE0 rfl rfl | exact D.fieldAddrE rfl rfl))) <;>
    (first | refine XL.skip1 rfl rfl rfl rfl ?_ | ((apply XL.det1 rfl rfl rfl rfl; first | exact D.load1 rfl (fun w h => h.cellAt (Loc.at_) rfl) | exact D.loadN rfl rfl (fun w h j u hu => by rw [at_add, Nat.zero_add]; exact h.cellAt (Loc.at_) hu) | exact D.loadP rfl rfl))) <;>
    (first | refine XL.skip0 rfl rfl rfl rfl ?_ | ((apply XL.det0 rfl rfl rfl rfl; exact D.move rfl))) <;>
    (first | refine XL.skipC rfl rfl rfl rfl ?_ | ((refine XL.call rfl rfl rfl rfl (fun w hw => behind_spec x.q x.p i (by omega) w) ?_; rintro v B' ⟨rfl, rfl⟩; refine XL.both ?_))) <;>
    (first | refine XL.skip0 rfl rfl rfl rfl ?_ | (first | refine XL.split0 rfl rfl rfl rfl (D.eqS2 rfl rfl) (fun h2 => ?_) (fun h2 => ?_))) <;>
    ((apply XL.det0 rfl rfl rfl rfl; first | exact D.pickT rfl rfl | exact D.pickF rfl rfl | exact D.pick rfl rfl rfl)) <;>
    (refine XL.nil ?_)) <;> (first | refine Ex.then ?_ | (refine N.next ?_ <;> ((
    refine X.cond rfl ?_ ?_; rotate_left; (focus (
    intro hc; first | exact absurd hc (by decide) | (cases hc; done) | (refine X.skip ?_))); rotate_right; (focus (
    intro hc; first | exact absurd hc (by decide) | (cases hc; done) | (refine X.seq ?_ <;> (refine X.draw (.op .v0 0 (.op .v0 1 (.op .v0 2 (.op .v1 3 (.op .v0 4 (.op .v0 5 (.op .v1 6 (.op .v0 7 (.op .v0 8 (.op .v1 9 (.op .v0 10 (.op .ch 11 (.op .v0 12 (.op .fin 13 .nil)))))))))))))) mixed (by kernel_rfl) ?_ <;>
    ((apply XL.det0 rfl rfl rfl rfl; exact D.move rfl)) <;>
    ((apply XL.det0 rfl rfl rfl rfl; exact D.nilCheck rfl)) <;>
    ((apply XL.det0 rfl rfl rfl rfl; first | exact D.fieldAddrB0 rfl rfl | exact D.fieldAddrB rfl rfl | exact D.fieldAddrE0 rfl rfl | exact D.fieldAddrE rfl rfl)) <;>
    ((apply XL.det1 rfl rfl rfl rfl; first | exact D.load1 rfl (fun w h => h.cellAt (Loc.at_) rfl) | exact D.loadN rfl rfl (fun w h j u hu => by rw [at_add, Nat.zero_add]; exact h.cellAt (Loc.at_) hu) | exact D.loadP rfl rfl)) <;>
    ((apply XL.det0 rfl rfl rfl rfl; first | exact D.fieldAddrB0 rfl rfl | exact D.fieldAddrB rfl rfl | exact D.fieldAddrE0 rfl rfl | exact D.fieldAddrE rfl rfl)) <;>
    ((apply XL.det0 rfl rfl rfl rfl; first | exact D.fieldAddrB0 rfl rfl | exact D.fieldAddrB rfl rfl | exact D.fieldAddrE0 rfl rfl | exact D.fieldAddrE rfl rfl)) <;>
    ((apply XL.det1 rfl rfl rfl rfl; first | exact D.load1 rfl (fun w h => h.cellAt (Loc.at_) rfl) | exact D.loadN rfl rfl (fun w h j u hu => by rw [at_add, Nat.zero_add]; exact h.cellAt (Loc.at_) hu) | exact D.loadP rfl rfl)) <;>
    ((apply XL.det0 rfl rfl rfl rfl; exact D.move rfl)) <;>
    ((apply XL.det0 rfl rfl rfl rfl; first | exact D.add64 rfl rfl (by omega) | exact D.int rfl rfl rfl)) <;>
    ((apply XL.det1 rfl rfl rfl rfl; first | exact D.load1 rfl (fun w h => h.cellAt (Loc.at_) rfl) | exact D.loadN rfl rfl (fun w h j u hu => by rw [at_add, Nat.zero_add]; exact h.cellAt (Loc.at_) hu) | exact D.loadP rfl rfl)) <;>
    ((apply XL.det0 rfl rfl rfl rfl; exact D.move rfl)) <;>
    ((refine XL.call rfl rfl rfl rfl (fun w hw => behind_spec q p i (by omega) w) ?_; rintro v B' ⟨rfl, rfl⟩; refine XL.both ?_)) <;>
    ((apply XL.det0 rfl rfl rfl rfl; exact D.indexAddr k rfl rfl hk hk3 hs2)) <;>
    ((refine XL.storeE (encS (sp1.set k (q, p + i))) rfl rfl rfl rfl rfl (by omega) (encS_set sp1 k (q, p + i) (by omega)) ?_)) <;>
    (refine XL.nil ?_)) <;> (first | refine Ex.then ?_ | (refine N.next ?_ <;> (refine X.text (L := (.op .fin 0 (.op .fin 1 (.op .fin 2 .nil)))) rfl ?_ <;>
    (have hσ2 : σ (x.a + i) = some (x.q, x.p + i) := (by rw [hσ, if_pos rfl]; congr 1; exact Prod.ext h2.1 h2.2); have hcs : cntI (isMov σ x) x.a (i + 1) = cntI (isMov σ x) x.a i + 1 := (by simp only [cntI]; rw [if_pos (by unfold isMov; rw [hσ2, decide_eq_true_iff]; congr 2; omega)]); (apply XL.det0F rfl rfl rfl rfl; exact D.move rfl)) <;>
    ((apply XL.det0F rfl rfl rfl rfl; exact D.add64 rfl rfl (by omega)); rw [← hcs]) <;>
    ((apply XL.det0F rfl rfl rfl rfl; exact D.assign rfl)) <;>
    (refine XL.nil ?_)))))))))))) <;> (first | refine N.block ?_ | refine Ex.here ?_ | refine Ex.out rfl ?_)) <;> (first | refine Ex.then ?_ | (refine N.next ?_ <;> (refine X.text (L := (.op .fin 0 (.op .fin 1 (.op .fin 2 .nil)))) rfl ?_ <;>
    ((first | (have hok : σ (x.a + i) = some (x.q, x.p + i) := hσ2) | (have hno : σ (x.a + i) ≠ some (x.q, x.p + i) := (by rw [hσ]; first | (rw [if_pos rfl]; intro hc; cases hc; exact h2 ⟨rfl, rfl⟩) | (simp; done)); have hcs : cntI (isMov σ x) x.a (i + 1) = cntI (isMov σ x) x.a i := (by simp only [cntI]; rw [if_neg (by unfold isMov; rw [decide_eq_true_iff]; intro hc; apply hno; rw [hc]; congr 2; omega), Int.add_zero]); rw [← hcs])); (apply XL.det0F rfl rfl rfl rfl; exact D.move rfl)) <;>
    ((apply XL.det0F rfl rfl rfl rfl; first | exact D.add64 rfl rfl (by omega) | exact D.int rfl rfl rfl)) <;>
    ((apply XL.det0F rfl rfl rfl rfl; exact D.assign rfl)) <;>
    (refine XL.nil ?_)))))))) <;> (first | refine Ex.then ?_ | (first | (refine N.again ((i + 1, sp1.set k (q, p + i))) ?_ ?_ ?_ ?_; (focus (exact ⟨by dsimp only; omega, by dsimp only; rw [cast_succ]; exact hR1.mov hk hk3 (by rw [← hk]; exact hok)⟩)); (focus (first | omega | (dsimp only; omega))); (focus (repeat (first | exact Sub.nil | refine Sub.cons rfl ?_))); exact (fun w h => h.takes)) | (refine N.again ((i + 1, sp1)) ?_ ?_ ?_ ?_; (focus (exact ⟨by dsimp only; omega, by dsimp only; rw [cast_succ, movS_same hno]; exact hR1⟩)); (focus (first | omega | (dsimp only; omega))); (focus (repeat (first | exact Sub.nil | refine Sub.cons rfl ?_))); exact (fun w h => h.takes))))) <;> (first | refine N.block ?_ | refine Ex.here ?_ | refine Ex.out rfl ?_))))) <;> (first | refine Ex.then ?_ | (refine N.next ?_ <;> (refine X.seq ?_ <;> (refine X.text (L := (.op .fin 0 (.op .fin 1 .nil))) rfl ?_ <;>
    ((apply XL.det0F rfl rfl rfl rfl; exact D.move rfl)) <;>
    ((apply XL.det0F rfl rfl rfl rfl; exact D.assign rfl)) <;>
    (refine XL.nil ?_)) <;> (first | refine Ex.then ?_ | (refine N.next ?_ <;> ((refine X.ret ?_; (repeat (first | refine Rt.then ?_ | refine Rt.block ?_ | refine Rt.scope ?_)); apply Rt.done (Res.r1 Try.results41 (RV.tmp rfl)); (focus (have hxe : (⟨x.a, (i : Int), x.q, x.p⟩ : Ext) = x := (by have : (i : Int) = x.n := (by omega); rw [this]); rw [hxe] at hR1; exact ⟨sp1, i, rfl, by omega, hR1, rfl⟩)); exact fun w h => h.takes))))))))))))))
end Go.Lx
