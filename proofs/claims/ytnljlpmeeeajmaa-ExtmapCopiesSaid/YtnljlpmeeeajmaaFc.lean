/- The document's map of sectors: what is found, holes, how many. -/
import Derived.Test.YtnljlpmeeeajmaaFb
namespace Go.Lx
open Go.Proofs
set_option linter.unusedVariables false
set_option linter.unusedSimpArgs false
set_option maxRecDepth 20000
set_option maxHeartbeats 4000000

theorem Rd.extSpot {w : World} {a : Option Addr} {n c m : Nat} {xs : List Ext} {x : Ext} (h : Rd w 4 a n c (encE xs)) (hx : xs[m]? = some x) : ∀ j u, [Value.int .i64 x.q, .int .i64 x.p][j]? = some u → w.cell? ((el a (m * 4 + 2)).add j) = some u := fun j u hu => by
  have := Rd.ext h hx (2 + j) u (by rw [show 2 + j = j + 1 + 1 by omega]; simpa using hu)
  rw [el_add] at this ⊢
  rw [show m * 4 + 2 + j = m * 4 + (2 + j) by omega]
  exact this
theorem Rd.extN {w : World} {a : Option Addr} {n c m : Nat} {xs : List Ext} {x : Ext} (h : Rd w 4 a n c (encE xs)) (hx : xs[m]? = some x) : w.cell? (el a (m * 4 + 1)) = some (.int .i64 x.n) := by
  have := Rd.ext h hx 1 _ rfl
  rw [el_add] at this
  exact this
theorem Rd.extA {w : World} {a : Option Addr} {n c m : Nat} {xs : List Ext} {x : Ext} (h : Rd w 4 a n c (encE xs)) (hx : xs[m]? = some x) : w.cell? (el a (m * 4)) = some (.int .i64 x.a) := by
  have := Rd.ext h hx 0 _ rfl
  rw [el_add] at this
  exact this
theorem inE_pos {a n : Int} {σ : Sig} {o : List Ext} {y : Ext} (h : IsFind σ (a, n) o) (hy : y ∈ o) : inE y := (h.rise.mem hy).1

theorem refFind_spec (w : World) (g : Nat) (pa ps : Option Addr) (ca cs : Nat) (is : List Bool) (sp : List Sp) (σ : Sig) (s : Sp) (hc1 : w.cell? ⟨g, 0, none⟩ = some (.slice pa 300 ca)) (hc2 : w.cell? ⟨g, 1, none⟩ = some (.slice ps 300 cs)) (hr1 : Rd w 1 pa 300 ca (encB is)) (hr2 : Rd w 2 ps 300 cs (encS sp)) (hR : IsRef is sp σ) (hσ : OkS σ) (hs0 : 0 ≤ s.1 ∧ 0 ≤ s.2) (h3 : s.1 + s.2 ≤ 300) :
    Spec Try.prog 18 #[.pointer (some ⟨g, 0, none⟩), .agg #[.int .i64 s.1, .int .i64 s.2]] w (fun _ => False) (fun v B => ∃ a c o, v = .slice a (List.length o) c ∧ IsFind σ s o ∧ o.length ≤ 300 ∧ B = [own 30 4 (.slice a (List.length o) c) (List.length o) (encE o)]) := by
  have hl1 := hR.l1
  have hl2 := hR.l2
  refine Spec.enter (args := [.pointer (some ⟨g, 0, none⟩), .agg #[.int .i64 s.1, .int .i64 s.2]]) (A := []) Try.func18 rfl Try.ntmps18 rfl (fun _ h => h) ?_
  refine X.mem (B := [own 30 4 (.slice none (List.length (([] : List Ext))) 0) (List.length (([] : List Ext))) (encE (([] : List Ext)))]) (fun w h => h.nilOwn 30 4) ?_
  (refine X.seq ?_ <;> (refine X.text (L := (.op .fin 0 (.op .fin 1 .nil))) rfl ?_ <;>
    (refine XL.boxN rfl rfl rfl rfl (by intro g; infer_instance) (fun gs => ?_)) <;>
    ((apply XL.det0F rfl rfl rfl rfl; exact D.assign rfl)) <;>
    (refine XL.nil ?_)) <;> (first | refine Ex.then ?_ | (refine N.next ?_ <;> (refine X.seq ?_ <;> (refine X.text (L := (.op .fin 0 .nil)) rfl ?_ <;>
    ((apply XL.det0F rfl rfl rfl rfl; exact D.assign rfl)) <;>
    (refine XL.nil ?_)) <;> (first | refine Ex.then ?_ | (refine N.next ?_ <;> (refine X.seq ?_ <;> (refine X.seq ?_ <;> (refine X.text (L := (.op .fin 0 (.op .fin 1 (.op .fin 2 .nil)))) rfl ?_ <;>
    ((apply XL.det0F rfl rfl rfl rfl; first | exact D.fieldAddrB0 rfl rfl | exact D.fieldAddrB rfl rfl | exact D.fieldAddrE0 rfl rfl | exact D.fieldAddrE rfl rfl)) <;>
    ((apply XL.detF rfl rfl rfl rfl; first | exact D.load1 rfl (fun w h => h.cellAt (Loc.at_) rfl) | exact D.loadN rfl rfl (fun w h j u hu => by rw [at_add, Nat.zero_add]; exact h.cellAt (Loc.at_) hu) | exact D.loadP rfl rfl)) <;>
    ((apply XL.det0F rfl rfl rfl rfl; exact D.assign rfl); rw [show (Value.int IntKind.i64 s.1) = .int .i64 (s.1 + ((0 : Nat) : Int)) from (by rw [show ((0 : Nat) : Int) = 0 from rfl, Int.add_zero])]; rw [show [Value.int IntKind.i64 (s.1 + ((0 : Nat) : Int)), .int .i64 s.2] = [Value.int IntKind.i64 s.1, .int .i64 s.2] from (by rw [show ((0 : Nat) : Int) = 0 from rfl, Int.add_zero])]) <;>
    (refine XL.nil ?_)) <;> (first | refine Ex.then ?_ | (refine N.next ?_ <;> (refine X.block ?_ <;> ((refine X.loop (ι := Nat × List Ext × Option Addr × Nat) (fun y => [(0, .pointer (some ⟨g, 0, none⟩)), (3, .pointer (some ⟨gs, 0, none⟩)), (5, .slice y.2.2.1 y.2.1.length y.2.2.2), (6, .int .i64 (s.1 + (y.1 : Nat)))]) (fun y => [own 30 4 (.slice y.2.2.1 (List.length y.2.1) y.2.2.2) (List.length y.2.1) (encE y.2.1), cells gs [.int .i64 s.1, .int .i64 s.2] 26]) (fun y => (y.1 : Int) ≤ s.2 ∧ IsFind σ (s.1, y.1) y.2.1 ∧ y.2.1.length ≤ y.1) (fun y => (s.2 - y.1).toNat) ((0, [], none, 0)) ?_ ?_ ?_ ?_; (focus (exact ⟨by dsimp only; omega, IsFind.zero σ s.1, Nat.le_refl _⟩)); (focus (repeat (first | exact Sub.nil | refine Sub.cons rfl ?_))); (focus (exact (fun w h => h.takes))); rintro ⟨j, o, a', c'⟩ ⟨hj, hF, hol⟩; (dsimp only at *)) <;> (refine X.seq ?_ <;> (refine X.seq ?_ <;> (refine X.text (L := (.op .fin 0 (.op .fin 1 (.op .fin 2 (.op .fin 3 (.op .fin 4 (.op .fin 5 (.op .fin 6 .nil)))))))) rfl ?_ <;>
    ((apply XL.det0F rfl rfl rfl rfl; exact D.move rfl)) <;>
    ((apply XL.det0F rfl rfl rfl rfl; first | exact D.fieldAddrB0 rfl rfl | exact D.fieldAddrB rfl rfl | exact D.fieldAddrE0 rfl rfl | exact D.fieldAddrE rfl rfl)) <;>
    ((apply XL.detF rfl rfl rfl rfl; first | exact D.load1 rfl (fun w h => h.cellAt (Loc.at_) rfl) | exact D.loadN rfl rfl (fun w h j u hu => by rw [at_add, Nat.zero_add]; exact h.cellAt (Loc.at_) hu) | exact D.loadP rfl rfl)) <;>
    ((apply XL.det0F rfl rfl rfl rfl; first | exact D.fieldAddrB0 rfl rfl | exact D.fieldAddrB rfl rfl | exact D.fieldAddrE0 rfl rfl | exact D.fieldAddrE rfl rfl)) <;>
    ((apply XL.detF rfl rfl rfl rfl; first | exact D.load1 rfl (fun w h => h.cellAt (Loc.at_) rfl) | exact D.loadN rfl rfl (fun w h j u hu => by rw [at_add, Nat.zero_add]; exact h.cellAt (Loc.at_) hu) | exact D.loadP rfl rfl)) <;>
    ((apply XL.det0F rfl rfl rfl rfl; first | exact D.add64 rfl rfl (by omega) | exact D.int rfl rfl rfl)) <;>
    (first | refine XL.splitF rfl rfl rfl rfl (D.int rfl rfl rfl) (fun h0 => ?_) (fun h0 => ?_)) <;>
    (refine XL.nil ?_)) <;> (first | refine Ex.then ?_ | (refine N.next ?_ <;> ((
    refine X.cond rfl ?_ ?_; rotate_left; (focus (
    intro hc; first | exact absurd hc (by decide) | (cases hc; done) | (refine X.exit ?_))); rotate_right; (focus (
    intro hc; first | exact absurd hc (by decide) | (cases hc; done) | (refine X.skip ?_)))))))) <;> (first | refine Ex.then ?_ | (refine N.next ?_ <;> (refine X.seq ?_ <;> (refine X.block ?_ <;> (refine X.seq ?_ <;> (refine X.seq ?_ <;> (refine X.text (L := (.op .fin 0 (.op .fin 1 (.op .fin 2 (.op .fin 3 (.op .fin 4 (.op .fin 5 (.op .fin 6 (.op .fin 7 .nil))))))))) rfl ?_ <;>
    ((apply XL.det0F rfl rfl rfl rfl; exact D.move rfl)) <;>
    ((apply XL.det0F rfl rfl rfl rfl; exact D.nilCheck rfl)) <;>
    ((apply XL.det0F rfl rfl rfl rfl; first | exact D.fieldAddrB0 rfl rfl | exact D.fieldAddrB rfl rfl | exact D.fieldAddrE0 rfl rfl | exact D.fieldAddrE rfl rfl)) <;>
    (obtain ⟨k, hk, hk3⟩ := toK (a := s.1) (i := j) (by omega) (by omega); obtain ⟨b, p, hb, hp, hσk⟩ := hR.here hk3; rw [← hk] at hσk; have hs1 := hr1.sm (by omega); have hs2 := hr2.sm (by omega); (apply XL.detF rfl rfl rfl rfl; exact D.load1 rfl (fun w hw => hw.cell0 hc1 (fun h => h)))) <;>
    ((apply XL.det0F rfl rfl rfl rfl; exact D.move rfl)) <;>
    ((apply XL.det0F rfl rfl rfl rfl; exact D.indexAddr k rfl rfl hk hk3 hs1)) <;>
    ((apply XL.detF rfl rfl rfl rfl; exact D.load1 rfl (fun w hw => Rd.bAt (hr1.conf0 hw) hb)); cases b) <;>
    ((apply XL.det0F rfl rfl rfl rfl; exact D.not rfl)) <;>
    (refine XL.nil ?_)) <;> (first | refine Ex.then ?_ | (refine N.next ?_ <;> ((
    refine X.cond rfl ?_ ?_; rotate_left; (focus (
    intro hc; first | exact absurd hc (by decide) | (cases hc; done) | (refine X.skip ?_))); rotate_right; (focus (
    intro hc; first | exact absurd hc (by decide) | (cases hc; done) | (refine X.exit ?_)))))))) <;> (first | refine Ex.then ?_ | (refine N.next ?_ <;> (refine X.seq ?_ <;> (refine X.text (L := (.op .fin 0 (.op .fin 1 (.op .fin 2 (.op .fin 3 .nil))))) rfl ?_ <;>
    ((apply XL.det0F rfl rfl rfl rfl; exact D.move rfl)) <;>
    ((apply XL.det0F rfl rfl rfl rfl; first | exact D.len rfl | exact D.lenS rfl)) <;>
    ((apply XL.det0F rfl rfl rfl rfl; first | exact D.sub64 rfl rfl (by omega) | exact D.int rfl rfl rfl)) <;>
    ((apply XL.det0F rfl rfl rfl rfl; exact D.assign rfl)) <;>
    (refine XL.nil ?_)) <;> (first | refine Ex.then ?_ | (refine N.next ?_ <;> (refine X.seq ?_ <;> (refine X.draw (.op .v0 0 (.op .v0 1 (.op .v0 2 (.op .v0 3 (.op .v0 4 (.op .v0 5 (.op .v0 6 (.op .v0 7 (.op .v1 8 (.op .v0 9 (.op .v0 10 (.op .v0 11 (.op .v0 12 (.op .v0 13 (.op .v1 14 (.op .v0 15 (.op .v0 16 (.op .v0 17 (.op .v0 18 (.op .v0 19 (.op .v0 20 (.op .v0 21 (.op .v0 22 (.op .v0 23 (.op .v1 24 (.op .v0 25 (.op .v0 26 (.op .v0 27 (.op .v0 28 (.op .v0 29 (.op .v1 30 (.op .v0 32 (.op .v0 33 (.op .v0 34 (.op .v1 35 (.op .v0 36 (.op .v0 37 (.op .v1 38 (.op .ch 31 (.op .v0 39 (.op .v0 40 .nil))))))))))))))))))))))))))))))))))))))))) mixed (by kernel_rfl) ?_ <;>
    ((apply XL.det0 rfl rfl rfl rfl; exact D.move rfl)) <;>
    (first | refine XL.split0 rfl rfl rfl rfl (D.int rfl rfl rfl) (fun h1 => ?_) (fun h1 => ?_)) <;>
    ((apply XL.det0 rfl rfl rfl rfl; exact D.move rfl)) <;>
    (first | refine XL.skip0 rfl rfl rfl rfl ?_ | ((apply XL.det0 rfl rfl rfl rfl; exact D.move rfl))) <;>
    (first | refine XL.skip0 rfl rfl rfl rfl ?_ | ((apply XL.det0 rfl rfl rfl rfl; exact D.move rfl))) <;>
    (first | refine XL.skip0 rfl rfl rfl rfl ?_ | (have hol2 : o.length - 1 < o.length := (by omega); obtain ⟨y, hy⟩ := get_lt hol2; have hyi := inE_pos hF (List.mem_of_getElem? hy); have hyi' := hyi; unfold inE at hyi'; refine XL.fact (fun w h => (h.rd (a := a')).sm (by omega)) (fun hs3 => ?_); (apply XL.det0 rfl rfl rfl rfl; exact D.indexAddr (o.length - 1) rfl rfl (by omega) hol2 hs3))) <;>
    (first | refine XL.skip0 rfl rfl rfl rfl ?_ | ((apply XL.det0 rfl rfl rfl rfl; first | exact D.fieldAddrB0 rfl rfl | exact D.fieldAddrB rfl rfl | exact D.fieldAddrE0 rfl rfl | exact D.fieldAddrE rfl rfl))) <;>
    (first | refine XL.skip0 rfl rfl rfl rfl ?_ | ((apply XL.det0 rfl rfl rfl rfl; first | exact D.fieldAddrB0 rfl rfl | exact D.fieldAddrB rfl rfl | exact D.fieldAddrE0 rfl rfl | exact D.fieldAddrE rfl rfl))) <;>
    (first | refine XL.skip1 rfl rfl rfl rfl ?_ | ((apply XL.det1 rfl rfl rfl rfl; exact D.load1 rfl (fun w hw => Rd.extA (hw.rd (a := a')) hy)))) <;>
    (first | refine XL.skip0 rfl rfl rfl rfl ?_ | ((apply XL.det0 rfl rfl rfl rfl; exact D.move rfl))) <;>
    (first | refine XL.skip0 rfl rfl rfl rfl ?_ | ((apply XL.det0 rfl rfl rfl rfl; exact D.move rfl))) <;>
    (first | refine XL.skip0 rfl rfl rfl rfl ?_ | ((apply XL.det0 rfl rfl rfl rfl; exact D.indexAddr (o.length - 1) rfl rfl (by omega) hol2 hs3))) <;>
    (first | refine XL.skip0 rfl rfl rfl rfl ?_ | ((apply XL.det0 rfl rfl rfl rfl; first | exact D.fieldAddrB0 rfl rfl | exact D.fieldAddrB rfl rfl | exact D.fieldAddrE0 rfl rfl | exact D.fieldAddrE rfl rfl))) <;>
    (first | refine XL.skip0 rfl rfl rfl rfl ?_ | ((apply XL.det0 rfl rfl rfl rfl; first | exact D.fieldAddrB0 rfl rfl | exact D.fieldAddrB rfl rfl | exact D.fieldAddrE0 rfl rfl | exact D.fieldAddrE rfl rfl))) <;>
    (first | refine XL.skip1 rfl rfl rfl rfl ?_ | ((apply XL.det1 rfl rfl rfl rfl; exact D.load1 rfl (fun w hw => Rd.extN (hw.rd (a := a')) hy)))) <;>
    (first | refine XL.skip0 rfl rfl rfl rfl ?_ | ((apply XL.det0 rfl rfl rfl rfl; first | exact D.add64 rfl rfl (by omega) | exact D.int rfl rfl rfl))) <;>
    (first | refine XL.skip0 rfl rfl rfl rfl ?_ | ((apply XL.det0 rfl rfl rfl rfl; exact D.move rfl))) <;>
    (first | refine XL.skip0 rfl rfl rfl rfl ?_ | (first | refine XL.split0 rfl rfl rfl rfl (D.int rfl rfl rfl) (fun h2 => ?_) (fun h2 => ?_))) <;>
    ((apply XL.det0 rfl rfl rfl rfl; first | exact D.pickT rfl rfl | exact D.pickF rfl rfl | exact D.pick rfl rfl rfl)) <;>
    ((apply XL.det0 rfl rfl rfl rfl; exact D.move rfl)) <;>
    (first | refine XL.skip0 rfl rfl rfl rfl ?_ | ((apply XL.det0 rfl rfl rfl rfl; exact D.move rfl))) <;>
    (first | refine XL.skip0 rfl rfl rfl rfl ?_ | ((apply XL.det0 rfl rfl rfl rfl; exact D.move rfl))) <;>
    (first | refine XL.skip0 rfl rfl rfl rfl ?_ | ((apply XL.det0 rfl rfl rfl rfl; exact D.indexAddr (o.length - 1) rfl rfl (by omega) hol2 hs3))) <;>
    (first | refine XL.skip0 rfl rfl rfl rfl ?_ | ((apply XL.det0 rfl rfl rfl rfl; first | exact D.fieldAddrB0 rfl rfl | exact D.fieldAddrB rfl rfl | exact D.fieldAddrE0 rfl rfl | exact D.fieldAddrE rfl rfl))) <;>
    (first | refine XL.skip1 rfl rfl rfl rfl ?_ | ((apply XL.det1 rfl rfl rfl rfl; exact D.loadN rfl rfl (fun w hw j u hu => Rd.extSpot (hw.rd (a := a')) hy j u hu)))) <;>
    (first | refine XL.skip0 rfl rfl rfl rfl ?_ | ((apply XL.det0 rfl rfl rfl rfl; exact D.move rfl))) <;>
    (first | refine XL.skip0 rfl rfl rfl rfl ?_ | ((apply XL.det0 rfl rfl rfl rfl; exact D.move rfl))) <;>
    (first | refine XL.skip0 rfl rfl rfl rfl ?_ | ((apply XL.det0 rfl rfl rfl rfl; exact D.indexAddr (o.length - 1) rfl rfl (by omega) hol2 hs3))) <;>
    (first | refine XL.skip0 rfl rfl rfl rfl ?_ | ((apply XL.det0 rfl rfl rfl rfl; first | exact D.fieldAddrB0 rfl rfl | exact D.fieldAddrB rfl rfl | exact D.fieldAddrE0 rfl rfl | exact D.fieldAddrE rfl rfl))) <;>
    (first | refine XL.skip0 rfl rfl rfl rfl ?_ | ((apply XL.det0 rfl rfl rfl rfl; first | exact D.fieldAddrB0 rfl rfl | exact D.fieldAddrB rfl rfl | exact D.fieldAddrE0 rfl rfl | exact D.fieldAddrE rfl rfl))) <;>
    (first | refine XL.skip1 rfl rfl rfl rfl ?_ | ((apply XL.det1 rfl rfl rfl rfl; exact D.load1 rfl (fun w hw => Rd.extN (hw.rd (a := a')) hy)))) <;>
    (first | refine XL.skip0 rfl rfl rfl rfl ?_ | ((apply XL.det0 rfl rfl rfl rfl; exact D.move rfl))) <;>
    (first | refine XL.skip0 rfl rfl rfl rfl ?_ | ((apply XL.det0 rfl rfl rfl rfl; exact D.nilCheck rfl))) <;>
    (first | refine XL.skip0 rfl rfl rfl rfl ?_ | ((apply XL.det0 rfl rfl rfl rfl; first | exact D.fieldAddrB0 rfl rfl | exact D.fieldAddrB rfl rfl | exact D.fieldAddrE0 rfl rfl | exact D.fieldAddrE rfl rfl))) <;>
    (first | refine XL.skip1 rfl rfl rfl rfl ?_ | ((apply XL.det1 rfl rfl rfl rfl; exact D.load1 rfl (fun w hw => hw.cell0 hc2 (fun h => h))))) <;>
    (first | refine XL.skip0 rfl rfl rfl rfl ?_ | ((apply XL.det0 rfl rfl rfl rfl; exact D.move rfl))) <;>
    (first | refine XL.skip0 rfl rfl rfl rfl ?_ | ((apply XL.det0 rfl rfl rfl rfl; exact D.indexAddr k rfl rfl hk hk3 hs2))) <;>
    (first | refine XL.skip1 rfl rfl rfl rfl ?_ | ((apply XL.det1 rfl rfl rfl rfl; exact D.loadN rfl rfl (fun w hw j u hu => Rd.sp (hr2.conf0 hw) hp j u hu)))) <;>
    (first | refine XL.skipC rfl rfl rfl rfl ?_ | ((refine XL.call rfl rfl rfl rfl (fun w hw => behind_spec y.q y.p y.n (by omega) w) ?_; rintro v B' ⟨rfl, rfl⟩; refine XL.both ?_))) <;>
    (first | refine XL.skip0 rfl rfl rfl rfl ?_ | (first | refine XL.split0 rfl rfl rfl rfl (D.eqS2 rfl rfl) (fun h4 => ?_) (fun h4 => ?_))) <;>
    ((apply XL.det0 rfl rfl rfl rfl; first | exact D.pickT rfl rfl | exact D.pickF rfl rfl | exact D.pick rfl rfl rfl)) <;>
    (refine XL.nil ?_)) <;> (first | refine Ex.then ?_ | (refine N.next ?_ <;> ((
    refine X.cond rfl ?_ ?_; rotate_left; (focus (
    intro hc; first | exact absurd hc (by decide) | (cases hc; done) | (refine X.text (L := (.op .fin 0 (.op .fin 1 (.op .fin 2 (.op .fin 3 (.op .fin 4 (.op .fin 5 (.op .fin 6 (.op .fin 7 (.op .fin 8 (.op .fin 9 (.op .fin 10 (.op .fin 11 (.op .fin 12 (.op .fin 13 .nil))))))))))))))) rfl ?_ <;>
    ((apply XL.det0F rfl rfl rfl rfl; exact D.move rfl)) <;>
    ((apply XL.det0F rfl rfl rfl rfl; exact D.move rfl)) <;>
    ((apply XL.det0F rfl rfl rfl rfl; exact D.build rfl)) <;>
    ((apply XL.det0F rfl rfl rfl rfl; exact D.move rfl)) <;>
    ((apply XL.det0F rfl rfl rfl rfl; exact D.nilCheck rfl)) <;>
    ((apply XL.det0F rfl rfl rfl rfl; first | exact D.fieldAddrB0 rfl rfl | exact D.fieldAddrB rfl rfl | exact D.fieldAddrE0 rfl rfl | exact D.fieldAddrE rfl rfl)) <;>
    ((apply XL.detF rfl rfl rfl rfl; exact D.load1 rfl (fun w hw => hw.cell0 hc2 (fun h => h)))) <;>
    ((apply XL.det0F rfl rfl rfl rfl; exact D.move rfl)) <;>
    ((apply XL.det0F rfl rfl rfl rfl; exact D.indexAddr k rfl rfl hk hk3 hs2)) <;>
    ((apply XL.detF rfl rfl rfl rfl; exact D.loadN rfl rfl (fun w hw j u hu => Rd.sp (hr2.conf0 hw) hp j u hu))) <;>
    ((apply XL.det0F rfl rfl rfl rfl; exact D.build rfl)) <;>
    (refine XL.slice1 rfl rfl rfl rfl rfl rfl (by intro g; infer_instance) (fun g => ?_)) <;>
    (have hPu := hF.push (by omega) hs0.1 hσ (by rw [hσk, if_pos rfl]) (by intro z hz hz2; first | omega | (rw [hy] at hz; cases hz; exact h2 hz2.1) | (rw [hy] at hz; cases hz; exact h4 ⟨hz2.2.1, hz2.2.2⟩) | (have := lt_of_get hz; omega)); (refine XL.append rfl rfl rfl rfl rfl rfl ?_ ?_ (fun a' c' => ?_); (focus (skip; unfold maxLen; omega)); (focus (intro _ _; infer_instance))); rw [encE_snoc o (s.1 + (j : Nat)) 1 p.1 p.2, show o.length + 1 = (o ++ [(⟨s.1 + (j : Nat), 1, p.1, p.2⟩ : Ext)]).length from (by simp)]) <;>
    ((apply XL.det0F rfl rfl rfl rfl; exact D.assign rfl)) <;>
    (refine XL.nil ?_)))); rotate_right; (focus (
    intro hc; first | exact absurd hc (by decide) | (cases hc; done) | (refine X.text (L := (.op .fin 0 (.op .fin 1 (.op .fin 2 (.op .fin 3 (.op .fin 4 (.op .fin 5 (.op .fin 6 (.op .fin 7 (.op .fin 8 (.op .fin 9 (.op .fin 10 (.op .fin 11 (.op .fin 12 .nil)))))))))))))) rfl ?_ <;>
    ((apply XL.det0F rfl rfl rfl rfl; exact D.move rfl)) <;>
    ((apply XL.det0F rfl rfl rfl rfl; exact D.move rfl)) <;>
    ((apply XL.det0F rfl rfl rfl rfl; exact D.move rfl)) <;>
    ((apply XL.det0F rfl rfl rfl rfl; exact D.move rfl)) <;>
    (have hGr := hF.grow (by omega) hs0.1 hσ (by rw [hσk, if_pos rfl]) hy ⟨h2, h4.1, h4.2⟩; (apply XL.det0F rfl rfl rfl rfl; exact D.indexAddr (o.length - 1) rfl rfl (by omega) hol2 hs3)) <;>
    ((apply XL.det0F rfl rfl rfl rfl; first | exact D.fieldAddrB0 rfl rfl | exact D.fieldAddrB rfl rfl | exact D.fieldAddrE0 rfl rfl | exact D.fieldAddrE rfl rfl)) <;>
    ((apply XL.det0F rfl rfl rfl rfl; first | exact D.fieldAddrB0 rfl rfl | exact D.fieldAddrB rfl rfl | exact D.fieldAddrE0 rfl rfl | exact D.fieldAddrE rfl rfl)) <;>
    ((apply XL.detF rfl rfl rfl rfl; exact D.load1 rfl (fun w hw => Rd.extN (hw.rd (a := a')) hy))) <;>
    ((apply XL.det0F rfl rfl rfl rfl; first | exact D.add64 rfl rfl (by omega) | exact D.int rfl rfl rfl)) <;>
    ((apply XL.det0F rfl rfl rfl rfl; exact D.indexAddr (o.length - 1) rfl rfl (by omega) hol2 hs3)) <;>
    ((apply XL.det0F rfl rfl rfl rfl; first | exact D.fieldAddrB0 rfl rfl | exact D.fieldAddrB rfl rfl | exact D.fieldAddrE0 rfl rfl | exact D.fieldAddrE rfl rfl)) <;>
    ((apply XL.det0F rfl rfl rfl rfl; first | exact D.fieldAddrB0 rfl rfl | exact D.fieldAddrB rfl rfl | exact D.fieldAddrE0 rfl rfl | exact D.fieldAddrE rfl rfl)) <;>
    (obtain ⟨o2, ho2, hl2⟩ : ∃ o2, o.set (o.length - 1) ⟨y.a, y.n + 1, y.q, y.p⟩ = o2 ∧ o.length = o2.length := (⟨_, rfl, by simp⟩); (refine XL.storeE (encE o2) rfl rfl rfl rfl rfl (by omega) (by rw [← ho2]; exact encE_setn o (o.length - 1) y (y.n + 1) hy) ?_); rw [ho2] at hGr; rw [hl2]) <;>
    (refine XL.nil ?_))))))))))))))) <;> (first | refine N.block ?_ | refine Ex.here ?_ | refine Ex.out rfl ?_)) <;> (first | refine Ex.then ?_ | (refine N.next ?_ <;> (refine X.text (L := (.op .fin 0 (.op .fin 1 (.op .fin 2 .nil)))) rfl ?_ <;>
    ((apply XL.det0F rfl rfl rfl rfl; exact D.move rfl)) <;>
    ((apply XL.det0F rfl rfl rfl rfl; exact D.add64 rfl rfl (by omega)); rw [show s.1 + (j : Int) + 1 = s.1 + ((j + 1 : Nat) : Int) from (by omega)]) <;>
    ((apply XL.det0F rfl rfl rfl rfl; exact D.assign rfl)) <;>
    (refine XL.nil ?_)))))))) <;> (first | refine Ex.then ?_ | (first | (refine N.again ((j + 1, o, a', c')) ?_ ?_ ?_ ?_; (focus (exact ⟨by dsimp only; omega, by dsimp only; rw [cast_succ]; exact hF.skip (by rw [hσk]; rfl), by dsimp only; omega⟩)); (focus (first | omega | (dsimp only; omega))); (focus (repeat (first | exact Sub.nil | refine Sub.cons rfl ?_))); exact (fun w h => h.takes)) | (refine N.again ((j + 1, o2, a', c')) ?_ ?_ ?_ ?_; (focus (exact ⟨by dsimp only; omega, by dsimp only; rw [cast_succ]; exact hGr, by dsimp only; omega⟩)); (focus (first | omega | (dsimp only; omega))); (focus (repeat (first | exact Sub.nil | refine Sub.cons rfl ?_))); exact (fun w h => h.takes)) | (refine N.again ((j + 1, o ++ [⟨s.1 + (j : Nat), 1, p.1, p.2⟩], a', c')) ?_ ?_ ?_ ?_; (focus (exact ⟨by dsimp only; omega, by dsimp only; rw [cast_succ]; exact hPu, by simp only [List.length_append, List.length_cons, List.length_nil]; omega⟩)); (focus (first | omega | (dsimp only; omega))); (focus (repeat (first | exact Sub.nil | refine Sub.cons rfl ?_))); exact (fun w h => h.takes))))) <;> (first | refine N.block ?_ | refine Ex.here ?_ | refine Ex.out rfl ?_))))) <;> (first | refine Ex.then ?_ | (refine N.next ?_ <;> (refine X.seq ?_ <;> (refine X.text (L := (.op .fin 0 (.op .fin 1 .nil))) rfl ?_ <;>
    ((apply XL.det0F rfl rfl rfl rfl; exact D.move rfl)) <;>
    ((apply XL.det0F rfl rfl rfl rfl; exact D.assign rfl)) <;>
    (refine XL.nil ?_)) <;> (first | refine Ex.then ?_ | (refine N.next ?_ <;> ((refine X.ret ?_; (repeat (first | refine Rt.then ?_ | refine Rt.block ?_ | refine Rt.scope ?_)); apply Rt.done (Res.r1 Try.results18 (RV.tmp rfl)); (focus (have hje : (s.1, (j : Int)) = s := (by have : (j : Int) = s.2 := (by omega); rw [this]); rw [hje] at hF; exact ⟨a', c', o, rfl, hF, by omega, rfl⟩)); exact fun w h => h.takes))))))))))))))

theorem refSectors_spec (w : World) (g : Nat) (pa : Option Addr) (ca : Nat) (is : List Bool) (sp : List Sp) (σ : Sig) (hc1 : w.cell? ⟨g, 0, none⟩ = some (.slice pa 300 ca)) (hr1 : Rd w 1 pa 300 ca (encB is)) (hR : IsRef is sp σ) :
    Spec Try.prog 52 #[.pointer (some ⟨g, 0, none⟩)] w (fun _ => False) (fun v B => v = .int .i64 (cntI (hasS σ) 0 300) ∧ B = []) := by
  have hl1 := hR.l1
  refine Spec.enter (args := [.pointer (some ⟨g, 0, none⟩)]) (A := []) Try.func52 rfl Try.ntmps52 rfl (fun _ h => h) ?_
  (refine X.seq ?_ <;> (refine X.text (L := (.op .fin 0 .nil)) rfl ?_ <;>
    ((apply XL.det0F rfl rfl rfl rfl; exact D.assign rfl)) <;>
    (refine XL.nil ?_)) <;> (first | refine Ex.then ?_ | (refine N.next ?_ <;> (refine X.seq ?_ <;> (refine X.text (L := (.op .fin 0 .nil)) rfl ?_ <;>
    ((apply XL.det0F rfl rfl rfl rfl; exact D.assign rfl)) <;>
    (refine XL.nil ?_)) <;> (first | refine Ex.then ?_ | (refine N.next ?_ <;> (refine X.seq ?_ <;> (refine X.seq ?_ <;> (refine X.text (L := (.op .fin 0 .nil)) rfl ?_ <;>
    ((apply XL.det0F rfl rfl rfl rfl; exact D.assign rfl)) <;>
    (refine XL.nil ?_)) <;> (first | refine Ex.then ?_ | (refine N.next ?_ <;> (refine X.block ?_ <;> ((refine X.loop (ι := Nat) (fun i => [(0, .pointer (some ⟨g, 0, none⟩)), (3, .int .i64 (cntI (hasS σ) 0 i)), (4, .int .i64 i)]) (fun _ => []) (fun i => i ≤ 300) (fun i => 300 - i) (0) ?_ ?_ ?_ ?_; (focus (exact Nat.zero_le _)); (focus (repeat (first | exact Sub.nil | refine Sub.cons rfl ?_))); (focus (exact (fun w h => h.takes))); rintro i hi; (have hcb := cntI_bd (hasS σ) 0 i)) <;> (refine X.seq ?_ <;> (refine X.seq ?_ <;> (refine X.text (L := (.op .fin 0 (.op .fin 1 (.op .fin 2 (.op .fin 3 (.op .fin 4 (.op .fin 5 (.op .fin 6 .nil)))))))) rfl ?_ <;>
    ((apply XL.det0F rfl rfl rfl rfl; exact D.move rfl)) <;>
    ((apply XL.det0F rfl rfl rfl rfl; exact D.move rfl)) <;>
    ((apply XL.det0F rfl rfl rfl rfl; exact D.nilCheck rfl)) <;>
    ((apply XL.det0F rfl rfl rfl rfl; first | exact D.fieldAddrB0 rfl rfl | exact D.fieldAddrB rfl rfl | exact D.fieldAddrE0 rfl rfl | exact D.fieldAddrE rfl rfl)) <;>
    ((apply XL.detF rfl rfl rfl rfl; exact D.load1 rfl (fun w hw => hw.cell0 hc1 (fun h => h)))) <;>
    ((apply XL.det0F rfl rfl rfl rfl; first | exact D.len rfl | exact D.lenS rfl)) <;>
    (first | refine XL.splitF rfl rfl rfl rfl (D.int rfl rfl rfl) (fun h0 => ?_) (fun h0 => ?_)) <;>
    (refine XL.nil ?_)) <;> (first | refine Ex.then ?_ | (refine N.next ?_ <;> ((
    refine X.cond rfl ?_ ?_; rotate_left; (focus (
    intro hc; first | exact absurd hc (by decide) | (cases hc; done) | (refine X.exit ?_))); rotate_right; (focus (
    intro hc; first | exact absurd hc (by decide) | (cases hc; done) | (refine X.skip ?_)))))))) <;> (first | refine Ex.then ?_ | (refine N.next ?_ <;> (refine X.seq ?_ <;> (refine X.block ?_ <;> (refine X.seq ?_ <;> (refine X.text (L := (.op .fin 0 (.op .fin 1 (.op .fin 2 (.op .fin 3 (.op .fin 4 (.op .fin 5 (.op .fin 6 .nil)))))))) rfl ?_ <;>
    ((apply XL.det0F rfl rfl rfl rfl; exact D.move rfl)) <;>
    ((apply XL.det0F rfl rfl rfl rfl; exact D.nilCheck rfl)) <;>
    ((apply XL.det0F rfl rfl rfl rfl; first | exact D.fieldAddrB0 rfl rfl | exact D.fieldAddrB rfl rfl | exact D.fieldAddrE0 rfl rfl | exact D.fieldAddrE rfl rfl)) <;>
    (have hi3 : i < 300 := (by omega); obtain ⟨b, s, hb, hs, hσ⟩ := hR.here hi3; have hs1 := hr1.sm (by omega); (apply XL.detF rfl rfl rfl rfl; exact D.load1 rfl (fun w hw => hw.cell0 hc1 (fun h => h)))) <;>
    ((apply XL.det0F rfl rfl rfl rfl; exact D.move rfl)) <;>
    ((apply XL.det0F rfl rfl rfl rfl; exact D.indexAddr i rfl rfl rfl hi3 hs1)) <;>
    ((apply XL.detF rfl rfl rfl rfl; exact D.load1 rfl (fun w hw => Rd.bAt (hr1.conf0 hw) hb)); have hst : cntI (hasS σ) 0 (i + 1) = cntI (hasS σ) 0 i + if b then 1 else 0 := (by simp only [cntI]; rw [Int.zero_add]; unfold hasS; rw [hσ]; cases b <;> rfl); cases b) <;>
    (refine XL.nil ?_)) <;> (first | refine Ex.then ?_ | (refine N.next ?_ <;> ((
    refine X.cond rfl ?_ ?_; rotate_left; (focus (
    intro hc; first | exact absurd hc (by decide) | (cases hc; done) | (refine X.skip ?_))); rotate_right; (focus (
    intro hc; first | exact absurd hc (by decide) | (cases hc; done) | (refine X.text (L := (.op .fin 0 (.op .fin 1 (.op .fin 2 .nil)))) rfl ?_ <;>
    ((apply XL.det0F rfl rfl rfl rfl; exact D.move rfl)) <;>
    ((apply XL.det0F rfl rfl rfl rfl; exact D.add64 rfl rfl (by omega)); rw [if_pos rfl] at hst; rw [← hst]) <;>
    ((apply XL.det0F rfl rfl rfl rfl; exact D.assign rfl)) <;>
    (refine XL.nil ?_))))))))) <;> (first | refine N.block ?_ | refine Ex.here ?_ | refine Ex.out rfl ?_)) <;> (first | refine Ex.then ?_ | (refine N.next ?_ <;> (refine X.text (L := (.op .fin 0 (.op .fin 1 (.op .fin 2 .nil)))) rfl ?_ <;>
    ((first | (have hq : b = b := rfl) | skip); (apply XL.det0F rfl rfl rfl rfl; exact D.move rfl); (first | (rw [if_neg (by simp), Int.add_zero] at hst; rw [← hst]) | skip)) <;>
    ((apply XL.det0F rfl rfl rfl rfl; first | exact D.add64 rfl rfl (by omega) | exact D.int rfl rfl rfl)) <;>
    ((apply XL.det0F rfl rfl rfl rfl; exact D.assign rfl)) <;>
    (refine XL.nil ?_)))))))) <;> (first | refine Ex.then ?_ | ((refine N.again ((i + 1)) ?_ ?_ ?_ ?_; (focus (omega)); (focus (first | omega | (dsimp only; omega))); (focus (repeat (first | exact Sub.nil | refine Sub.cons rfl ?_))); exact (fun w h => h.takes))))) <;> (first | refine N.block ?_ | refine Ex.here ?_ | refine Ex.out rfl ?_))))) <;> (first | refine Ex.then ?_ | (refine N.next ?_ <;> (refine X.seq ?_ <;> (refine X.text (L := (.op .fin 0 (.op .fin 1 .nil))) rfl ?_ <;>
    ((apply XL.det0F rfl rfl rfl rfl; exact D.move rfl)) <;>
    ((apply XL.det0F rfl rfl rfl rfl; exact D.assign rfl)) <;>
    (refine XL.nil ?_)) <;> (first | refine Ex.then ?_ | (refine N.next ?_ <;> ((refine X.ret ?_; (repeat (first | refine Rt.then ?_ | refine Rt.block ?_ | refine Rt.scope ?_)); apply Rt.done (Res.r1 Try.results52 (RV.tmp rfl)); (focus (obtain rfl : i = 300 := (by omega); exact ⟨rfl, rfl⟩)); exact fun w h => h.takes))))))))))))))
theorem IsHole.of_bits {σ : Sig} {s : Sp} {O : List Sp} {bs : List Bool} (h1 : SetOK O O.length) (h2 : ∀ t, inS O t ↔ ∃ k : Nat, t = k ∧ bs[k]? = some true) (hb : ∀ k : Nat, bs[k]? = some true ↔ (k < 300 ∧ s.1 ≤ k ∧ (k : Int) < s.1 + s.2 ∧ σ k = none)) (hs : 0 ≤ s.1) (h3 : s.1 + s.2 ≤ 300) : IsHole σ s O := ⟨h1, fun t => by
  rw [h2]
  constructor
  · rintro ⟨k, rfl, hk⟩
    exact ((hb k).1 hk).2
  · rintro ⟨q1, q2, q3⟩
    obtain ⟨k, rfl⟩ : ∃ k : Nat, t = k := ⟨t.toNat, by omega⟩
    exact ⟨k, rfl, (hb k).2 ⟨by omega, q1, q2, q3⟩⟩⟩
theorem bits_step {σ : Sig} {s : Sp} {bs : List Bool} {j k : Nat} (hl : bs.length = 300) (hb : ∀ k : Nat, bs[k]? = some true ↔ (k < 300 ∧ s.1 ≤ k ∧ (k : Int) < s.1 + (j : Nat) ∧ σ k = none)) (hk : s.1 + j = k) (hk3 : k < 300) (v : Bool) (hv : v = true ↔ σ k = none) : ∀ i : Nat, (bs.set k v)[i]? = some true ↔ (i < 300 ∧ s.1 ≤ i ∧ (i : Int) < s.1 + ((j + 1 : Nat) : Int) ∧ σ i = none) := by
  intro i
  by_cases e : i = k
  · subst e
    rw [List.getElem?_set_self (by omega)]
    simp only [Option.some.injEq, hv]
    constructor
    · intro h; exact ⟨hk3, by omega, by omega, h⟩
    · intro h; exact h.2.2.2
  · rw [List.getElem?_set_ne (Ne.symm e), hb]
    constructor
    · rintro ⟨h1, h2, h3, h4⟩; exact ⟨h1, h2, by omega, h4⟩
    · rintro ⟨h1, h2, h3, h4⟩; exact ⟨h1, h2, by omega, h4⟩
theorem refHoles_spec (w : World) (g : Nat) (pa : Option Addr) (ca : Nat) (is : List Bool) (sp : List Sp) (σ : Sig) (s : Sp) (hc1 : w.cell? ⟨g, 0, none⟩ = some (.slice pa 300 ca)) (hr1 : Rd w 1 pa 300 ca (encB is)) (hR : IsRef is sp σ) (hs0 : 0 ≤ s.1 ∧ 0 ≤ s.2) (h3 : s.1 + s.2 ≤ 300) :
    Spec Try.prog 42 #[.pointer (some ⟨g, 0, none⟩), .agg #[.int .i64 s.1, .int .i64 s.2]] w (fun _ => False) (fun v B => ∃ a c O, v = .slice a (List.length O) c ∧ IsHole σ s O ∧ O.length ≤ 300 ∧ B = [own 26 2 (.slice a (List.length O) c) (List.length O) (encS O)]) := by
  have hl1 := hR.l1
  refine Spec.enter (args := [.pointer (some ⟨g, 0, none⟩), .agg #[.int .i64 s.1, .int .i64 s.2]]) (A := []) Try.func42 rfl Try.ntmps42 rfl (fun _ h => h) ?_
  (refine X.seq ?_ <;> (refine X.text (L := (.op .fin 0 (.op .fin 1 .nil))) rfl ?_ <;>
    (refine XL.boxN rfl rfl rfl rfl (by intro g; infer_instance) (fun gs => ?_)) <;>
    ((apply XL.det0F rfl rfl rfl rfl; exact D.assign rfl)) <;>
    (refine XL.nil ?_)) <;> (first | refine Ex.then ?_ | (refine N.next ?_ <;> (refine X.seq ?_ <;> (refine X.text (L := (.op .fin 0 (.op .fin 1 (.op .fin 2 (.op .fin 3 (.op .fin 4 (.op .fin 5 (.op .fin 6 .nil)))))))) rfl ?_ <;>
    ((apply XL.det0F rfl rfl rfl rfl; exact D.move rfl)) <;>
    ((apply XL.det0F rfl rfl rfl rfl; exact D.nilCheck rfl)) <;>
    ((apply XL.det0F rfl rfl rfl rfl; first | exact D.fieldAddrB0 rfl rfl | exact D.fieldAddrB rfl rfl | exact D.fieldAddrE0 rfl rfl | exact D.fieldAddrE rfl rfl)) <;>
    ((apply XL.detF rfl rfl rfl rfl; exact D.load1 rfl (fun w hw => hw.cell0 hc1 (fun h => h)))) <;>
    ((apply XL.det0F rfl rfl rfl rfl; first | exact D.len rfl | exact D.lenS rfl)) <;>
    ((refine XL.make (n := 300) rfl rfl rfl rfl rfl (by unfold maxLen; omega) (fun _ => by infer_instance) (fun g1 => ?_)); rw [encB_made 300]) <;>
    ((apply XL.det0F rfl rfl rfl rfl; exact D.assign rfl)) <;>
    (refine XL.nil ?_)) <;> (first | refine Ex.then ?_ | (refine N.next ?_ <;> (refine X.seq ?_ <;> (refine X.seq ?_ <;> (refine X.text (L := (.op .fin 0 (.op .fin 1 (.op .fin 2 .nil)))) rfl ?_ <;>
    ((apply XL.det0F rfl rfl rfl rfl; first | exact D.fieldAddrB0 rfl rfl | exact D.fieldAddrB rfl rfl | exact D.fieldAddrE0 rfl rfl | exact D.fieldAddrE rfl rfl)) <;>
    ((apply XL.detF rfl rfl rfl rfl; first | exact D.load1 rfl (fun w h => h.cellAt (Loc.at_) rfl) | exact D.loadN rfl rfl (fun w h j u hu => by rw [at_add, Nat.zero_add]; exact h.cellAt (Loc.at_) hu) | exact D.loadP rfl rfl)) <;>
    ((apply XL.det0F rfl rfl rfl rfl; exact D.assign rfl); rw [show (Value.int IntKind.i64 s.1) = .int .i64 (s.1 + ((0 : Nat) : Int)) from (by rw [show ((0 : Nat) : Int) = 0 from rfl, Int.add_zero])]; rw [show [Value.int IntKind.i64 (s.1 + ((0 : Nat) : Int)), .int .i64 s.2] = [Value.int IntKind.i64 s.1, .int .i64 s.2] from (by rw [show ((0 : Nat) : Int) = 0 from rfl, Int.add_zero])]) <;>
    (refine XL.nil ?_)) <;> (first | refine Ex.then ?_ | (refine N.next ?_ <;> (refine X.block ?_ <;> ((refine X.loop (ι := Nat × List Bool) (fun y => [(0, .pointer (some ⟨g, 0, none⟩)), (3, .pointer (some ⟨gs, 0, none⟩)), (5, .slice (some ⟨g1, 0, none⟩) 300 300), (6, .int .i64 (s.1 + (y.1 : Nat)))]) (fun y => [own 4 1 (.slice (some ⟨g1, 0, none⟩) 300 300) 300 (encB y.2), cells gs [.int .i64 s.1, .int .i64 s.2] 26]) (fun y => (y.1 : Int) ≤ s.2 ∧ y.2.length = 300 ∧ ∀ k : Nat, y.2[k]? = some true ↔ (k < 300 ∧ s.1 ≤ k ∧ (k : Int) < s.1 + (y.1 : Nat) ∧ σ k = none)) (fun y => (s.2 - y.1).toNat) ((0, List.replicate 300 false)) ?_ ?_ ?_ ?_; (focus (exact ⟨by dsimp only; omega, List.length_replicate, fun k => by dsimp only; rw [List.getElem?_replicate]; constructor; (intro h; split at h <;> cases h); (intro h; omega)⟩)); (focus (repeat (first | exact Sub.nil | refine Sub.cons rfl ?_))); (focus (exact (fun w h => h.takes))); rintro ⟨j, bs⟩ ⟨hj, hbl, hbs⟩; (dsimp only at *)) <;> (refine X.seq ?_ <;> (refine X.seq ?_ <;> (refine X.text (L := (.op .fin 0 (.op .fin 1 (.op .fin 2 (.op .fin 3 (.op .fin 4 (.op .fin 5 (.op .fin 6 .nil)))))))) rfl ?_ <;>
    ((apply XL.det0F rfl rfl rfl rfl; exact D.move rfl)) <;>
    ((apply XL.det0F rfl rfl rfl rfl; first | exact D.fieldAddrB0 rfl rfl | exact D.fieldAddrB rfl rfl | exact D.fieldAddrE0 rfl rfl | exact D.fieldAddrE rfl rfl)) <;>
    ((apply XL.detF rfl rfl rfl rfl; first | exact D.load1 rfl (fun w h => h.cellAt (Loc.at_) rfl) | exact D.loadN rfl rfl (fun w h j u hu => by rw [at_add, Nat.zero_add]; exact h.cellAt (Loc.at_) hu) | exact D.loadP rfl rfl)) <;>
    ((apply XL.det0F rfl rfl rfl rfl; first | exact D.fieldAddrB0 rfl rfl | exact D.fieldAddrB rfl rfl | exact D.fieldAddrE0 rfl rfl | exact D.fieldAddrE rfl rfl)) <;>
    ((apply XL.detF rfl rfl rfl rfl; first | exact D.load1 rfl (fun w h => h.cellAt (Loc.at_) rfl) | exact D.loadN rfl rfl (fun w h j u hu => by rw [at_add, Nat.zero_add]; exact h.cellAt (Loc.at_) hu) | exact D.loadP rfl rfl)) <;>
    ((apply XL.det0F rfl rfl rfl rfl; first | exact D.add64 rfl rfl (by omega) | exact D.int rfl rfl rfl)) <;>
    (first | refine XL.splitF rfl rfl rfl rfl (D.int rfl rfl rfl) (fun h0 => ?_) (fun h0 => ?_)) <;>
    (refine XL.nil ?_)) <;> (first | refine Ex.then ?_ | (refine N.next ?_ <;> ((
    refine X.cond rfl ?_ ?_; rotate_left; (focus (
    intro hc; first | exact absurd hc (by decide) | (cases hc; done) | (refine X.exit ?_))); rotate_right; (focus (
    intro hc; first | exact absurd hc (by decide) | (cases hc; done) | (refine X.skip ?_)))))))) <;> (first | refine Ex.then ?_ | (refine N.next ?_ <;> (refine X.seq ?_ <;> (refine X.block ?_ <;> (refine X.text (L := (.op .fin 0 (.op .fin 1 (.op .fin 2 (.op .fin 3 (.op .fin 4 (.op .fin 5 (.op .fin 6 (.op .fin 7 (.op .fin 8 (.op .fin 9 (.op .fin 10 (.op .fin 11 .nil))))))))))))) rfl ?_ <;>
    ((apply XL.det0F rfl rfl rfl rfl; exact D.move rfl)) <;>
    ((apply XL.det0F rfl rfl rfl rfl; exact D.move rfl)) <;>
    ((apply XL.det0F rfl rfl rfl rfl; exact D.move rfl)) <;>
    ((apply XL.det0F rfl rfl rfl rfl; exact D.nilCheck rfl)) <;>
    ((apply XL.det0F rfl rfl rfl rfl; first | exact D.fieldAddrB0 rfl rfl | exact D.fieldAddrB rfl rfl | exact D.fieldAddrE0 rfl rfl | exact D.fieldAddrE rfl rfl)) <;>
    (obtain ⟨k, hk, hk3⟩ := toK (a := s.1) (i := j) (by omega) (by omega); obtain ⟨b, p, hb, hp, hσk⟩ := hR.here hk3; have hs1 := hr1.sm (by omega); (apply XL.detF rfl rfl rfl rfl; exact D.load1 rfl (fun w hw => hw.cell0 hc1 (fun h => h)))) <;>
    ((apply XL.det0F rfl rfl rfl rfl; exact D.move rfl)) <;>
    ((apply XL.det0F rfl rfl rfl rfl; exact D.indexAddr k rfl rfl hk hk3 hs1)) <;>
    ((apply XL.detF rfl rfl rfl rfl; exact D.load1 rfl (fun w hw => Rd.bAt (hr1.conf0 hw) hb))) <;>
    ((apply XL.det0F rfl rfl rfl rfl; exact D.not rfl)) <;>
    ((apply XL.det0F rfl rfl rfl rfl; exact D.indexAddr k rfl rfl hk hk3 rfl)) <;>
    ((refine XL.storeE (encB (bs.set k (!b))) rfl rfl rfl rfl rfl (by omega) (encB_set bs k (!b) (by omega)) ?_)) <;>
    (refine XL.nil ?_)) <;> (first | refine N.block ?_ | refine Ex.here ?_ | refine Ex.out rfl ?_)) <;> (first | refine Ex.then ?_ | (refine N.next ?_ <;> (refine X.text (L := (.op .fin 0 (.op .fin 1 (.op .fin 2 .nil)))) rfl ?_ <;>
    ((apply XL.det0F rfl rfl rfl rfl; exact D.move rfl)) <;>
    ((apply XL.det0F rfl rfl rfl rfl; exact D.add64 rfl rfl (by omega)); rw [show s.1 + (j : Int) + 1 = s.1 + ((j + 1 : Nat) : Int) from (by omega)]) <;>
    ((apply XL.det0F rfl rfl rfl rfl; exact D.assign rfl)) <;>
    (refine XL.nil ?_)))))))) <;> (first | refine Ex.then ?_ | ((refine N.again ((j + 1, bs.set k (!b))) ?_ ?_ ?_ ?_; (focus (exact ⟨by dsimp only; omega, by simp [hbl], bits_step hbl hbs hk hk3 (!b) (by rw [hσk]; cases b <;> simp)⟩)); (focus (first | omega | (dsimp only; omega))); (focus (repeat (first | exact Sub.nil | refine Sub.cons rfl ?_))); exact (fun w h => h.takes))))) <;> (first | refine N.block ?_ | refine Ex.here ?_ | refine Ex.out rfl ?_))))) <;> (first | refine Ex.then ?_ | (refine N.next ?_ <;> (refine X.seq ?_ <;> (refine X.text (L := (.op .fin 0 (.op .fin 1 (.op .fin 2 .nil)))) rfl ?_ <;>
    ((apply XL.det0F rfl rfl rfl rfl; exact D.move rfl)) <;>
    (have hsj : s.2 = (j : Nat) := (by omega); (refine XL.call rfl rfl rfl rfl (fun w hw => SetN_spec w _ 300 300 bs hbl (hw.rd (a := some ⟨g1, 0, none⟩)) (by omega)) ?_; rintro v B' ⟨a9, c9, o9, rfl, ho1, ho2, ho3, rfl⟩; refine XL.both ?_)) <;>
    ((apply XL.det0F rfl rfl rfl rfl; exact D.assign rfl)) <;>
    (refine XL.nil ?_)) <;> (first | refine Ex.then ?_ | (refine N.next ?_ <;> ((refine X.ret ?_; (repeat (first | refine Rt.then ?_ | refine Rt.block ?_ | refine Rt.scope ?_)); apply Rt.done (Res.r1 Try.results42 (RV.tmp rfl)); (focus (exact ⟨a9, c9, o9, rfl, IsHole.of_bits ho1 ho2 (by rw [hsj]; exact hbs) hs0.1 h3, ho3, rfl⟩)); exact fun w h => h.takes))))))))))))))
end Go.Lx
