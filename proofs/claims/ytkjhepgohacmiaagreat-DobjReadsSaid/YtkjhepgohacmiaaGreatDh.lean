/- The statements' helpers for objects: walks. -/
import Derived.Test.YtkjhepgohacmiaaGreatDg
namespace Go.Lx
open Go.Proofs
set_option linter.unusedVariables false
set_option linter.unusedSimpArgs false
set_option maxRecDepth 20000
set_option maxHeartbeats 4000000
def vE4 (x : Ext) : Value := .agg #[.int .i64 x.a, .int .i64 x.n, .int .i64 x.q, .int .i64 x.p]
theorem Dob.eq' {o p : Dob} (h1 : o.k = p.k) (h2 : o.ep = p.ep) (h3 : o.sq = p.sq) (h4 : o.up = p.up) (h5 : o.ps = p.ps) (h6 : o.cs = p.cs) (h7 : o.d = p.d) : o = p := by
  cases o; cases p; simp only at *; subst h1 h2 h3 h4 h5 h6 h7; rfl
theorem dSame07_spec (w : World) (a b : Option Addr) (c d : Nat) (l m : List Ext) (hl : Rd w 4 a l.length c (encE l)) (hr : Rd w 4 b m.length d (encE m)) : Spec Tryz.prog 20 #[.slice a l.length c, .slice b m.length d] w (fun _ => False) (fun v A => v = .bool (decide (l = m)) ∧ A = []) := by
  have hb1 := hl.bd'
  have hb2 := hr.bd'
  refine Spec.enter (args := [.slice a l.length c, .slice b m.length d]) (A := []) Tryz.func20 rfl Tryz.ntmps20 rfl (fun _ h => h) ?_
  (refine X.seq ?_ <;> (refine X.text (L := (.op .fin 0 .nil)) rfl (by kernel_rfl) ?_ <;>
    ((apply XL.det0F rfl rfl rfl rfl; exact D.assign rfl)) <;>
    (refine XL.nil ?_)) <;> (first | refine Ex.then ?_ | (refine N.next ?_ <;> (refine X.seq ?_ <;> (refine X.seq ?_ <;> (refine X.text (L := (.op .fin 0 (.op .fin 1 (.op .fin 2 (.op .fin 3 (.op .fin 4 .nil)))))) rfl (by kernel_rfl) ?_ <;>
    ((apply XL.det0F rfl rfl rfl rfl; exact D.move rfl)) <;>
    ((apply XL.det0F rfl rfl rfl rfl; first | exact D.len rfl | exact D.lenL rfl | exact D.lenS rfl)) <;>
    ((apply XL.det0F rfl rfl rfl rfl; exact D.move rfl)) <;>
    ((apply XL.det0F rfl rfl rfl rfl; first | exact D.len rfl | exact D.lenL rfl | exact D.lenS rfl)) <;>
    (first | refine XL.splitF rfl rfl rfl rfl (D.int rfl rfl rfl) (fun h0 => ?_) (fun h0 => ?_)) <;>
    (refine XL.nil ?_)) <;> (first | refine Ex.then ?_ | (refine N.next ?_ <;> ((
    refine X.cond rfl ?_ ?_; rotate_left; (focus (
    intro hc; first | exact absurd hc (by decide) | (cases hc; done) | (refine X.skip ?_))); rotate_right; (focus (
    intro hc; first | exact absurd hc (by decide) | (cases hc; done) | (refine X.seq ?_ <;> (refine X.text (L := (.op .fin 0 .nil)) rfl (by kernel_rfl) ?_ <;>
    ((apply XL.det0F rfl rfl rfl rfl; exact D.assign rfl)) <;>
    (refine XL.nil ?_)) <;> (first | refine Ex.then ?_ | (refine N.next ?_ <;> ((refine X.ret ?_; (repeat (first | refine Rt.then ?_ | refine Rt.block ?_ | refine Rt.scope ?_)); (first | apply Rt.done (Res.r1 Tryz.results20 (RV.tmp rfl)) | apply Rt.doneM (Res.r1 Tryz.results20 (RV.tmp rfl))); (focus (refine ⟨congrArg Value.bool ?_, rfl⟩; first | (rw [decide_eq_false (fun h => by subst h; omega)]; done) | (rw [decide_eq_false (fun h => by subst h; rw [hx] at hy; cases hy; exact h2 ⟨rfl, rfl, rfl, rfl⟩)]; done) | (rw [decide_eq_true]; apply List.ext_getElem?; intro j; rcases Nat.lt_or_ge j i with h | h; exact hall j h; rw [List.getElem?_eq_none (by omega), List.getElem?_eq_none (by omega)]))); exact fun w h => h.takes)))))))))))) <;> (first | refine Ex.then ?_ | (refine N.next ?_ <;> (refine X.seq ?_ <;> (refine X.seq ?_ <;> (refine X.text (L := (.op .fin 0 .nil)) rfl (by kernel_rfl) ?_ <;>
    ((apply XL.det0F rfl rfl rfl rfl; exact D.assign rfl)) <;>
    (refine XL.nil ?_)) <;> (first | refine Ex.then ?_ | (refine N.next ?_ <;> (refine X.block ?_ <;> ((refine X.loop (ι := Nat) (fun i => [(0, .slice a l.length c), (1, .slice b m.length d), (5, .int .i64 i)]) (fun _ => []) (fun i => i ≤ l.length ∧ ∀ j, j < i → l[j]? = m[j]?) (fun i => l.length - i) (0) ?_ ?_ ?_ ?_; (focus (exact ⟨Nat.zero_le _, fun j hj => by omega⟩)); (focus (repeat (first | exact Sub.nil | refine Sub.cons rfl ?_))); (focus (exact (fun w h => h.takes))); rintro i ⟨hi, hall⟩) <;> (refine X.seq ?_ <;> (refine X.seq ?_ <;> (refine X.text (L := (.op .fin 0 (.op .fin 1 (.op .fin 2 (.op .fin 3 .nil))))) rfl (by kernel_rfl) ?_ <;>
    ((apply XL.det0F rfl rfl rfl rfl; exact D.move rfl)) <;>
    ((apply XL.det0F rfl rfl rfl rfl; exact D.move rfl)) <;>
    ((apply XL.det0F rfl rfl rfl rfl; first | exact D.len rfl | exact D.lenL rfl | exact D.lenS rfl)) <;>
    (first | refine XL.splitF rfl rfl rfl rfl (D.int rfl rfl rfl) (fun h1 => ?_) (fun h1 => ?_)) <;>
    (refine XL.nil ?_)) <;> (first | refine Ex.then ?_ | (refine N.next ?_ <;> ((
    refine X.cond rfl ?_ ?_; rotate_left; (focus (
    intro hc; first | exact absurd hc (by decide) | (cases hc; done) | (refine X.exit ?_))); rotate_right; (focus (
    intro hc; first | exact absurd hc (by decide) | (cases hc; done) | (refine X.skip ?_)))))))) <;> (first | refine Ex.then ?_ | (refine N.next ?_ <;> (refine X.seq ?_ <;> (refine X.block ?_ <;> (refine X.seq ?_ <;> (refine X.draw (.op .v0 0 (.op .v0 1 (.op .v0 2 (.op .v1 3 (.op .v0 4 (.op .v0 5 (.op .v0 6 (.op .v1 7 (.op .v0 8 .nil))))))))) mixed (by kernel_rfl) ?_ <;>
    ((apply XL.det0 rfl rfl rfl rfl; exact D.move rfl)) <;>
    ((apply XL.det0 rfl rfl rfl rfl; exact D.move rfl)) <;>
    (have hil : i < l.length := (by omega); have him : i < m.length := (by omega); obtain ⟨x, hx⟩ := get_lt hil; obtain ⟨y, hy⟩ := get_lt him; (apply XL.det0 rfl rfl rfl rfl; exact D.indexAddr i rfl rfl rfl hil (hl.sm (by omega)))) <;>
    ((apply XL.det1 rfl rfl rfl rfl; exact D.loadN rfl rfl (fun w hw j u hu => Rd.ext (Rd.conf0 hl hw) hx j u hu))) <;>
    ((apply XL.det0 rfl rfl rfl rfl; exact D.move rfl)) <;>
    ((apply XL.det0 rfl rfl rfl rfl; exact D.move rfl)) <;>
    ((apply XL.det0 rfl rfl rfl rfl; exact D.indexAddr i rfl rfl rfl him (hr.sm (by omega)))) <;>
    ((apply XL.det1 rfl rfl rfl rfl; exact D.loadN rfl rfl (fun w hw j u hu => Rd.ext (Rd.conf0 hr hw) hy j u hu))) <;>
    (refine XL.split0 rfl rfl rfl rfl (D.neS4 rfl rfl rfl) (fun h2 => ?_) (fun h2 => ?_)) <;>
    (refine XL.nil ?_)) <;> (first | refine Ex.then ?_ | (refine N.next ?_ <;> ((
    refine X.cond rfl ?_ ?_; rotate_left; (focus (
    intro hc; first | exact absurd hc (by decide) | (cases hc; done) | (refine X.skip ?_))); rotate_right; (focus (
    intro hc; first | exact absurd hc (by decide) | (cases hc; done) | (refine X.seq ?_ <;> (refine X.text (L := (.op .fin 0 .nil)) rfl (by kernel_rfl) ?_ <;>
    ((apply XL.det0F rfl rfl rfl rfl; exact D.assign rfl)) <;>
    (refine XL.nil ?_)) <;> (first | refine Ex.then ?_ | (refine N.next ?_ <;> ((refine X.ret ?_; (repeat (first | refine Rt.then ?_ | refine Rt.block ?_ | refine Rt.scope ?_)); (first | apply Rt.done (Res.r1 Tryz.results20 (RV.tmp rfl)) | apply Rt.doneM (Res.r1 Tryz.results20 (RV.tmp rfl))); (focus (refine ⟨congrArg Value.bool ?_, rfl⟩; first | (rw [decide_eq_false (fun h => by subst h; omega)]; done) | (rw [decide_eq_false (fun h => by subst h; rw [hx] at hy; cases hy; exact h2 ⟨rfl, rfl, rfl, rfl⟩)]; done) | (rw [decide_eq_true]; apply List.ext_getElem?; intro j; rcases Nat.lt_or_ge j i with h | h; exact hall j h; rw [List.getElem?_eq_none (by omega), List.getElem?_eq_none (by omega)]))); exact fun w h => h.takes)))))))))))) <;> (first | refine N.block ?_ | refine Ex.here ?_ | refine Ex.out rfl ?_)) <;> (first | refine Ex.then ?_ | (refine N.next ?_ <;> (refine X.text (L := (.op .fin 0 (.op .fin 1 (.op .fin 2 .nil)))) rfl (by kernel_rfl) ?_ <;>
    ((apply XL.det0F rfl rfl rfl rfl; exact D.move rfl)) <;>
    ((apply XL.det0F rfl rfl rfl rfl; first | exact D.add64 rfl rfl (by omega) | exact D.int rfl rfl rfl)) <;>
    ((apply XL.det0F rfl rfl rfl rfl; exact D.assign rfl)) <;>
    (refine XL.nil ?_)))))))) <;> (first | refine Ex.then ?_ | ((refine N.again (i + 1) ?_ ?_ ?_ ?_; (focus (exact ⟨by omega, fun j hj => by rcases Nat.lt_or_ge j i with h | h; exact hall j h; (obtain rfl : j = i := by omega); rw [hx, hy]; congr 1; cases x; cases y; simp only [Ext.mk.injEq]; simp only at h2; omega⟩)); (focus (first | omega | (dsimp only; omega))); (focus (repeat (first | exact Sub.nil | refine Sub.cons rfl ?_))); exact (fun w h => h.takes))))) <;> (first | refine N.block ?_ | refine Ex.here ?_ | refine Ex.out rfl ?_))))) <;> (first | refine Ex.then ?_ | (refine N.next ?_ <;> (refine X.seq ?_ <;> (refine X.text (L := (.op .fin 0 .nil)) rfl (by kernel_rfl) ?_ <;>
    ((apply XL.det0F rfl rfl rfl rfl; exact D.assign rfl)) <;>
    (refine XL.nil ?_)) <;> (first | refine Ex.then ?_ | (refine N.next ?_ <;> ((refine X.ret ?_; (repeat (first | refine Rt.then ?_ | refine Rt.block ?_ | refine Rt.scope ?_)); (first | apply Rt.done (Res.r1 Tryz.results20 (RV.tmp rfl)) | apply Rt.doneM (Res.r1 Tryz.results20 (RV.tmp rfl))); (focus (refine ⟨congrArg Value.bool ?_, rfl⟩; first | (rw [decide_eq_false (fun h => by subst h; omega)]; done) | (rw [decide_eq_false (fun h => by subst h; rw [hx] at hy; cases hy; exact h2 ⟨rfl, rfl, rfl, rfl⟩)]; done) | (rw [decide_eq_true]; apply List.ext_getElem?; intro j; rcases Nat.lt_or_ge j i with h | h; exact hall j h; rw [List.getElem?_eq_none (by omega), List.getElem?_eq_none (by omega)]))); exact fun w h => h.takes))))))))))))))
theorem dSame_spec (w : World) (o p : Dob) (a b a2 b2 : Option Addr) (c d c2 d2 : Nat) (hl : Rd w 4 a o.ps.length c (encE o.ps)) (hcs : Rd w 2 b o.cs.length d (encS o.cs)) (hr : Rd w 4 a2 p.ps.length c2 (encE p.ps)) (hrs : Rd w 2 b2 p.cs.length d2 (encS p.cs)) : Spec Tryz.prog 8 #[.agg #[.int .u64 ((o.k : Nat) : Int), .int .i64 o.ep, .int .i64 o.sq, .int .i64 o.up, .slice a o.ps.length c, .slice b o.cs.length d, .string ⟨List.toArray o.d⟩], .agg #[.int .u64 ((p.k : Nat) : Int), .int .i64 p.ep, .int .i64 p.sq, .int .i64 p.up, .slice a2 p.ps.length c2, .slice b2 p.cs.length d2, .string ⟨List.toArray p.d⟩]] w (fun _ => False) (fun v A => ∃ f : Bool, v = .bool f ∧ (f = true ↔ o = p) ∧ A = []) := by
  have hb1 := hl.bd'
  have hb2 := hcs.bd'
  refine Spec.enter (args := [.agg #[.int .u64 ((o.k : Nat) : Int), .int .i64 o.ep, .int .i64 o.sq, .int .i64 o.up, .slice a o.ps.length c, .slice b o.cs.length d, .string ⟨List.toArray o.d⟩], .agg #[.int .u64 ((p.k : Nat) : Int), .int .i64 p.ep, .int .i64 p.sq, .int .i64 p.up, .slice a2 p.ps.length c2, .slice b2 p.cs.length d2, .string ⟨List.toArray p.d⟩]]) (A := []) Tryz.func8 rfl Tryz.ntmps8 rfl (fun _ h => h) ?_
  (refine X.seq ?_ <;> (refine X.text (L := (.op .fin 0 (.op .fin 1 (.op .fin 2 .nil)))) rfl (by kernel_rfl) ?_ <;>
    (refine XL.boxN rfl rfl rfl rfl (by intro g; infer_instance) (fun g1 => ?_)) <;>
    (refine XL.boxN rfl rfl rfl rfl (by intro g; infer_instance) (fun g2 => ?_)) <;>
    ((apply XL.det0F rfl rfl rfl rfl; exact D.assign rfl)) <;>
    (refine XL.nil ?_)) <;> (first | refine Ex.then ?_ | (refine N.next ?_ <;> (refine X.seq ?_ <;> (refine X.seq ?_ <;> (refine X.text (L := (.op .fin 0 (.op .fin 1 (.op .fin 2 (.op .fin 3 (.op .fin 4 (.op .fin 5 (.op .fin 6 (.op .fin 7 (.op .fin 8 (.op .fin 9 (.op .fin 10 (.op .fin 11 (.op .fin 12 (.op .fin 13 (.op .fin 14 (.op .fin 15 (.op .fin 16 (.op .fin 17 (.op .fin 18 (.op .fin 19 (.op .fin 20 (.op .fin 21 (.op .fin 22 (.op .fin 23 (.op .fin 24 (.op .fin 25 (.op .fin 26 (.op .fin 27 (.op .fin 28 (.op .fin 29 (.op .fin 30 (.op .fin 31 (.op .fin 32 (.op .fin 33 (.op .fin 34 (.op .fin 35 (.op .fin 36 (.op .fin 37 (.op .fin 38 (.op .fin 39 (.op .fin 40 (.op .fin 41 (.op .fin 42 (.op .fin 43 (.op .fin 44 (.op .fin 45 (.op .fin 46 (.op .fin 47 (.op .fin 48 (.op .fin 49 (.op .fin 50 .nil)))))))))))))))))))))))))))))))))))))))))))))))))))) rfl (by kernel_rfl) ?_ <;>
    ((apply XL.det0F rfl rfl rfl rfl; first | exact D.fieldAddrB0 rfl rfl | exact D.fieldAddrB rfl rfl | exact D.fieldAddrE0 rfl rfl | exact D.fieldAddrE rfl rfl)) <;>
    ((apply XL.detF rfl rfl rfl rfl; first | exact D.load1 rfl (fun w h => h.cellAt (Loc.at_) rfl) | exact D.loadN rfl rfl (fun w h j u hu => by rw [at_add, Nat.zero_add]; exact h.cellAt (Loc.at_) hu) | exact D.loadP rfl rfl)) <;>
    ((apply XL.det0F rfl rfl rfl rfl; first | exact D.fieldAddrB0 rfl rfl | exact D.fieldAddrB rfl rfl | exact D.fieldAddrE0 rfl rfl | exact D.fieldAddrE rfl rfl)) <;>
    ((apply XL.detF rfl rfl rfl rfl; first | exact D.load1 rfl (fun w h => h.cellAt (Loc.at_) rfl) | exact D.loadN rfl rfl (fun w h j u hu => by rw [at_add, Nat.zero_add]; exact h.cellAt (Loc.at_) hu) | exact D.loadP rfl rfl)) <;>
    (refine XL.splitF rfl rfl rfl rfl (D.int rfl rfl rfl) (fun h1 => ?_) (fun h1 => ?_)) <;>
    ((apply XL.det0F rfl rfl rfl rfl; exact D.move rfl)) <;>
    (first | refine XL.skipF rfl rfl rfl rfl ?_ | ((apply XL.det0F rfl rfl rfl rfl; first | exact D.fieldAddrB0 rfl rfl | exact D.fieldAddrB rfl rfl | exact D.fieldAddrE0 rfl rfl | exact D.fieldAddrE rfl rfl))) <;>
    (first | refine XL.skipF rfl rfl rfl rfl ?_ | ((apply XL.detF rfl rfl rfl rfl; first | exact D.load1 rfl (fun w h => h.cellAt (Loc.at_) rfl) | exact D.loadN rfl rfl (fun w h j u hu => by rw [at_add, Nat.zero_add]; exact h.cellAt (Loc.at_) hu) | exact D.loadP rfl rfl))) <;>
    (first | refine XL.skipF rfl rfl rfl rfl ?_ | ((apply XL.det0F rfl rfl rfl rfl; first | exact D.fieldAddrB0 rfl rfl | exact D.fieldAddrB rfl rfl | exact D.fieldAddrE0 rfl rfl | exact D.fieldAddrE rfl rfl))) <;>
    (first | refine XL.skipF rfl rfl rfl rfl ?_ | ((apply XL.detF rfl rfl rfl rfl; first | exact D.load1 rfl (fun w h => h.cellAt (Loc.at_) rfl) | exact D.loadN rfl rfl (fun w h j u hu => by rw [at_add, Nat.zero_add]; exact h.cellAt (Loc.at_) hu) | exact D.loadP rfl rfl))) <;>
    (first | refine XL.skipF rfl rfl rfl rfl ?_ | (first | refine XL.skipF rfl rfl rfl rfl ?_ | refine XL.splitF rfl rfl rfl rfl (D.int rfl rfl rfl) (fun h2 => ?_) (fun h2 => ?_))) <;>
    ((apply XL.det0F rfl rfl rfl rfl; first | exact D.pickT rfl rfl | exact D.pickF rfl rfl | exact D.pick rfl rfl rfl)) <;>
    ((apply XL.det0F rfl rfl rfl rfl; exact D.move rfl)) <;>
    (first | refine XL.skipF rfl rfl rfl rfl ?_ | ((apply XL.det0F rfl rfl rfl rfl; first | exact D.fieldAddrB0 rfl rfl | exact D.fieldAddrB rfl rfl | exact D.fieldAddrE0 rfl rfl | exact D.fieldAddrE rfl rfl))) <;>
    (first | refine XL.skipF rfl rfl rfl rfl ?_ | ((apply XL.detF rfl rfl rfl rfl; first | exact D.load1 rfl (fun w h => h.cellAt (Loc.at_) rfl) | exact D.loadN rfl rfl (fun w h j u hu => by rw [at_add, Nat.zero_add]; exact h.cellAt (Loc.at_) hu) | exact D.loadP rfl rfl))) <;>
    (first | refine XL.skipF rfl rfl rfl rfl ?_ | ((apply XL.det0F rfl rfl rfl rfl; first | exact D.fieldAddrB0 rfl rfl | exact D.fieldAddrB rfl rfl | exact D.fieldAddrE0 rfl rfl | exact D.fieldAddrE rfl rfl))) <;>
    (first | refine XL.skipF rfl rfl rfl rfl ?_ | ((apply XL.detF rfl rfl rfl rfl; first | exact D.load1 rfl (fun w h => h.cellAt (Loc.at_) rfl) | exact D.loadN rfl rfl (fun w h j u hu => by rw [at_add, Nat.zero_add]; exact h.cellAt (Loc.at_) hu) | exact D.loadP rfl rfl))) <;>
    (first | refine XL.skipF rfl rfl rfl rfl ?_ | (first | refine XL.skipF rfl rfl rfl rfl ?_ | refine XL.splitF rfl rfl rfl rfl (D.int rfl rfl rfl) (fun h3 => ?_) (fun h3 => ?_))) <;>
    ((apply XL.det0F rfl rfl rfl rfl; first | exact D.pickT rfl rfl | exact D.pickF rfl rfl | exact D.pick rfl rfl rfl)) <;>
    ((apply XL.det0F rfl rfl rfl rfl; exact D.move rfl)) <;>
    (first | refine XL.skipF rfl rfl rfl rfl ?_ | ((apply XL.det0F rfl rfl rfl rfl; first | exact D.fieldAddrB0 rfl rfl | exact D.fieldAddrB rfl rfl | exact D.fieldAddrE0 rfl rfl | exact D.fieldAddrE rfl rfl))) <;>
    (first | refine XL.skipF rfl rfl rfl rfl ?_ | ((apply XL.detF rfl rfl rfl rfl; first | exact D.load1 rfl (fun w h => h.cellAt (Loc.at_) rfl) | exact D.loadN rfl rfl (fun w h j u hu => by rw [at_add, Nat.zero_add]; exact h.cellAt (Loc.at_) hu) | exact D.loadP rfl rfl))) <;>
    (first | refine XL.skipF rfl rfl rfl rfl ?_ | ((apply XL.det0F rfl rfl rfl rfl; first | exact D.fieldAddrB0 rfl rfl | exact D.fieldAddrB rfl rfl | exact D.fieldAddrE0 rfl rfl | exact D.fieldAddrE rfl rfl))) <;>
    (first | refine XL.skipF rfl rfl rfl rfl ?_ | ((apply XL.detF rfl rfl rfl rfl; first | exact D.load1 rfl (fun w h => h.cellAt (Loc.at_) rfl) | exact D.loadN rfl rfl (fun w h j u hu => by rw [at_add, Nat.zero_add]; exact h.cellAt (Loc.at_) hu) | exact D.loadP rfl rfl))) <;>
    (first | refine XL.skipF rfl rfl rfl rfl ?_ | (first | refine XL.skipF rfl rfl rfl rfl ?_ | refine XL.splitF rfl rfl rfl rfl (D.int rfl rfl rfl) (fun h4 => ?_) (fun h4 => ?_))) <;>
    ((apply XL.det0F rfl rfl rfl rfl; first | exact D.pickT rfl rfl | exact D.pickF rfl rfl | exact D.pick rfl rfl rfl)) <;>
    ((apply XL.det0F rfl rfl rfl rfl; exact D.move rfl)) <;>
    (first | refine XL.skipF rfl rfl rfl rfl ?_ | ((apply XL.det0F rfl rfl rfl rfl; first | exact D.fieldAddrB0 rfl rfl | exact D.fieldAddrB rfl rfl | exact D.fieldAddrE0 rfl rfl | exact D.fieldAddrE rfl rfl))) <;>
    (first | refine XL.skipF rfl rfl rfl rfl ?_ | ((apply XL.detF rfl rfl rfl rfl; first | exact D.load1 rfl (fun w h => h.cellAt (Loc.at_) rfl) | exact D.loadN rfl rfl (fun w h j u hu => by rw [at_add, Nat.zero_add]; exact h.cellAt (Loc.at_) hu) | exact D.loadP rfl rfl))) <;>
    (first | refine XL.skipF rfl rfl rfl rfl ?_ | ((apply XL.det0F rfl rfl rfl rfl; first | exact D.fieldAddrB0 rfl rfl | exact D.fieldAddrB rfl rfl | exact D.fieldAddrE0 rfl rfl | exact D.fieldAddrE rfl rfl))) <;>
    (first | refine XL.skipF rfl rfl rfl rfl ?_ | ((apply XL.detF rfl rfl rfl rfl; first | exact D.load1 rfl (fun w h => h.cellAt (Loc.at_) rfl) | exact D.loadN rfl rfl (fun w h j u hu => by rw [at_add, Nat.zero_add]; exact h.cellAt (Loc.at_) hu) | exact D.loadP rfl rfl))) <;>
    (first | refine XL.skipF rfl rfl rfl rfl ?_ | (first | refine XL.skipF rfl rfl rfl rfl ?_ | refine XL.splitF rfl rfl rfl rfl (D.strNe rfl rfl) (fun h5 => ?_) (fun h5 => ?_))) <;>
    ((apply XL.det0F rfl rfl rfl rfl; first | exact D.pickT rfl rfl | exact D.pickF rfl rfl | exact D.pick rfl rfl rfl)) <;>
    ((apply XL.det0F rfl rfl rfl rfl; exact D.move rfl)) <;>
    (first | refine XL.skipF rfl rfl rfl rfl ?_ | ((apply XL.det0F rfl rfl rfl rfl; first | exact D.fieldAddrB0 rfl rfl | exact D.fieldAddrB rfl rfl | exact D.fieldAddrE0 rfl rfl | exact D.fieldAddrE rfl rfl))) <;>
    (first | refine XL.skipF rfl rfl rfl rfl ?_ | ((apply XL.detF rfl rfl rfl rfl; first | exact D.load1 rfl (fun w h => h.cellAt (Loc.at_) rfl) | exact D.loadN rfl rfl (fun w h j u hu => by rw [at_add, Nat.zero_add]; exact h.cellAt (Loc.at_) hu) | exact D.loadP rfl rfl))) <;>
    (first | refine XL.skipF rfl rfl rfl rfl ?_ | ((apply XL.det0F rfl rfl rfl rfl; first | exact D.len rfl | exact D.lenL rfl | exact D.lenS rfl))) <;>
    (first | refine XL.skipF rfl rfl rfl rfl ?_ | ((apply XL.det0F rfl rfl rfl rfl; first | exact D.fieldAddrB0 rfl rfl | exact D.fieldAddrB rfl rfl | exact D.fieldAddrE0 rfl rfl | exact D.fieldAddrE rfl rfl))) <;>
    (first | refine XL.skipF rfl rfl rfl rfl ?_ | ((apply XL.detF rfl rfl rfl rfl; first | exact D.load1 rfl (fun w h => h.cellAt (Loc.at_) rfl) | exact D.loadN rfl rfl (fun w h j u hu => by rw [at_add, Nat.zero_add]; exact h.cellAt (Loc.at_) hu) | exact D.loadP rfl rfl))) <;>
    (first | refine XL.skipF rfl rfl rfl rfl ?_ | ((apply XL.det0F rfl rfl rfl rfl; first | exact D.len rfl | exact D.lenL rfl | exact D.lenS rfl))) <;>
    (first | refine XL.skipF rfl rfl rfl rfl ?_ | (first | refine XL.skipF rfl rfl rfl rfl ?_ | refine XL.splitF rfl rfl rfl rfl (D.int rfl rfl rfl) (fun h6 => ?_) (fun h6 => ?_))) <;>
    ((apply XL.det0F rfl rfl rfl rfl; first | exact D.pickT rfl rfl | exact D.pickF rfl rfl | exact D.pick rfl rfl rfl)) <;>
    ((apply XL.det0F rfl rfl rfl rfl; exact D.move rfl)) <;>
    (first | refine XL.skipF rfl rfl rfl rfl ?_ | ((apply XL.det0F rfl rfl rfl rfl; first | exact D.fieldAddrB0 rfl rfl | exact D.fieldAddrB rfl rfl | exact D.fieldAddrE0 rfl rfl | exact D.fieldAddrE rfl rfl))) <;>
    (first | refine XL.skipF rfl rfl rfl rfl ?_ | ((apply XL.detF rfl rfl rfl rfl; first | exact D.load1 rfl (fun w h => h.cellAt (Loc.at_) rfl) | exact D.loadN rfl rfl (fun w h j u hu => by rw [at_add, Nat.zero_add]; exact h.cellAt (Loc.at_) hu) | exact D.loadP rfl rfl))) <;>
    (first | refine XL.skipF rfl rfl rfl rfl ?_ | ((apply XL.det0F rfl rfl rfl rfl; first | exact D.len rfl | exact D.lenL rfl | exact D.lenS rfl))) <;>
    (first | refine XL.skipF rfl rfl rfl rfl ?_ | ((apply XL.det0F rfl rfl rfl rfl; first | exact D.fieldAddrB0 rfl rfl | exact D.fieldAddrB rfl rfl | exact D.fieldAddrE0 rfl rfl | exact D.fieldAddrE rfl rfl))) <;>
    (first | refine XL.skipF rfl rfl rfl rfl ?_ | ((apply XL.detF rfl rfl rfl rfl; first | exact D.load1 rfl (fun w h => h.cellAt (Loc.at_) rfl) | exact D.loadN rfl rfl (fun w h j u hu => by rw [at_add, Nat.zero_add]; exact h.cellAt (Loc.at_) hu) | exact D.loadP rfl rfl))) <;>
    (first | refine XL.skipF rfl rfl rfl rfl ?_ | ((apply XL.det0F rfl rfl rfl rfl; first | exact D.len rfl | exact D.lenL rfl | exact D.lenS rfl))) <;>
    (first | refine XL.skipF rfl rfl rfl rfl ?_ | (first | refine XL.skipF rfl rfl rfl rfl ?_ | refine XL.splitF rfl rfl rfl rfl (D.int rfl rfl rfl) (fun h7 => ?_) (fun h7 => ?_))) <;>
    ((apply XL.det0F rfl rfl rfl rfl; first | exact D.pickT rfl rfl | exact D.pickF rfl rfl | exact D.pick rfl rfl rfl)) <;>
    (refine XL.nil ?_)) <;> (first | refine Ex.then ?_ | (refine N.next ?_ <;> ((
    refine X.cond rfl ?_ ?_; rotate_left; (focus (
    intro hc; first | exact absurd hc (by decide) | (cases hc; done) | (refine X.skip ?_))); rotate_right; (focus (
    intro hc; first | exact absurd hc (by decide) | (cases hc; done) | (refine X.seq ?_ <;> (refine X.text (L := (.op .fin 0 .nil)) rfl (by kernel_rfl) ?_ <;>
    ((apply XL.det0F rfl rfl rfl rfl; exact D.assign rfl)) <;>
    (refine XL.nil ?_)) <;> (first | refine Ex.then ?_ | (refine N.next ?_ <;> ((refine X.ret ?_; (repeat (first | refine Rt.then ?_ | refine Rt.block ?_ | refine Rt.scope ?_)); (first | apply Rt.done (Res.r1 Tryz.results8 (RV.tmp rfl)) | apply Rt.doneM (Res.r1 Tryz.results8 (RV.tmp rfl))); (focus (first | exact ⟨false, rfl, iff_of_false Bool.false_ne_true (fun h => h1 (congrArg (fun z : Dob => ((z.k : Nat) : Int)) h)), rfl⟩ | exact ⟨false, rfl, iff_of_false Bool.false_ne_true (fun h => h2 (congrArg Dob.ep h)), rfl⟩ | exact ⟨false, rfl, iff_of_false Bool.false_ne_true (fun h => h3 (congrArg Dob.sq h)), rfl⟩ | exact ⟨false, rfl, iff_of_false Bool.false_ne_true (fun h => h4 (congrArg Dob.up h)), rfl⟩ | exact ⟨false, rfl, iff_of_false Bool.false_ne_true (fun h => h5 (congrArg Dob.d h)), rfl⟩ | exact ⟨false, rfl, iff_of_false Bool.false_ne_true (fun h => h6 (congrArg (fun z : Dob => ((z.ps.length : Nat) : Int)) h)), rfl⟩ | exact ⟨false, rfl, iff_of_false Bool.false_ne_true (fun h => h7 (congrArg (fun z : Dob => ((z.cs.length : Nat) : Int)) h)), rfl⟩ | exact ⟨false, rfl, iff_of_false Bool.false_ne_true (fun h => by subst h; rw [hx] at hy; cases hy; exact k2 ⟨rfl, rfl, rfl, rfl⟩), rfl⟩ | exact ⟨false, rfl, iff_of_false Bool.false_ne_true (fun h => by subst h; rw [hx] at hy; cases hy; exact k4 ⟨rfl, rfl⟩), rfl⟩ | exact ⟨true, rfl, iff_of_true rfl (Dob.eq' (by omega) (by omega) (by omega) (by omega) hps (List.ext_getElem? (fun j => by rcases Nat.lt_or_ge j k with h | h; exact hkall j h; rw [List.getElem?_eq_none (by omega), List.getElem?_eq_none (by omega)])) (Decidable.not_not.1 h5)), rfl⟩)); exact fun w h => h.takes)))))))))))) <;> (first | refine Ex.then ?_ | (refine N.next ?_ <;> (refine X.seq ?_ <;> (refine X.seq ?_ <;> (refine X.text (L := (.op .fin 0 .nil)) rfl (by kernel_rfl) ?_ <;>
    ((apply XL.det0F rfl rfl rfl rfl; exact D.assign rfl)) <;>
    (refine XL.nil ?_)) <;> (first | refine Ex.then ?_ | (refine N.next ?_ <;> (refine X.block ?_ <;> ((refine X.loop (ι := Nat) (fun i => [(2, .pointer (some ⟨g1, 0, none⟩)), (3, .pointer (some ⟨g2, 0, none⟩)), (4, .bool false), (5, .int .i64 ((i : Nat) : Int))]) (fun i => [cells g1 [.int .u64 ((o.k : Nat) : Int), .int .i64 o.ep, .int .i64 o.sq, .int .i64 o.up, .slice a o.ps.length c, .slice b o.cs.length d, .string ⟨List.toArray o.d⟩] 33, cells g2 [.int .u64 ((p.k : Nat) : Int), .int .i64 p.ep, .int .i64 p.sq, .int .i64 p.up, .slice a2 p.ps.length c2, .slice b2 p.cs.length d2, .string ⟨List.toArray p.d⟩] 33]) (fun i => i ≤ o.ps.length ∧ ∀ j, j < i → o.ps[j]? = p.ps[j]?) (fun i => o.ps.length - i) (0) ?_ ?_ ?_ ?_; (focus (exact ⟨Nat.zero_le _, fun j hj => by omega⟩)); (focus (repeat (first | exact Sub.nil | refine Sub.cons rfl ?_))); (focus (exact (fun w h => h.takes))); rintro i ⟨hi, hall⟩; (dsimp only at *)) <;> (refine X.seq ?_ <;> (refine X.seq ?_ <;> (refine X.text (L := (.op .fin 0 (.op .fin 1 (.op .fin 2 (.op .fin 3 (.op .fin 4 .nil)))))) rfl (by kernel_rfl) ?_ <;>
    ((apply XL.det0F rfl rfl rfl rfl; exact D.move rfl)) <;>
    ((apply XL.det0F rfl rfl rfl rfl; first | exact D.fieldAddrB0 rfl rfl | exact D.fieldAddrB rfl rfl | exact D.fieldAddrE0 rfl rfl | exact D.fieldAddrE rfl rfl)) <;>
    ((apply XL.detF rfl rfl rfl rfl; first | exact D.load1 rfl (fun w h => h.cellAt (Loc.at_) rfl) | exact D.loadN rfl rfl (fun w h j u hu => by rw [at_add, Nat.zero_add]; exact h.cellAt (Loc.at_) hu) | exact D.loadP rfl rfl)) <;>
    ((apply XL.det0F rfl rfl rfl rfl; first | exact D.len rfl | exact D.lenL rfl | exact D.lenS rfl)) <;>
    (refine XL.splitF rfl rfl rfl rfl (D.int rfl rfl rfl) (fun k1 => ?_) (fun k1 => ?_)) <;>
    (refine XL.nil ?_)) <;> (first | refine Ex.then ?_ | (refine N.next ?_ <;> ((
    refine X.cond rfl ?_ ?_; rotate_left; (focus (
    intro hc; first | exact absurd hc (by decide) | (cases hc; done) | (refine X.exit ?_))); rotate_right; (focus (
    intro hc; first | exact absurd hc (by decide) | (cases hc; done) | (refine X.skip ?_)))))))) <;> (first | refine Ex.then ?_ | (refine N.next ?_ <;> (refine X.seq ?_ <;> (refine X.block ?_ <;> (refine X.seq ?_ <;> (refine X.draw (.op .v0 0 (.op .v1 1 (.op .v0 2 (.op .v0 3 (.op .v1 4 (.op .v0 5 (.op .v1 6 (.op .v0 7 (.op .v0 8 (.op .v1 9 (.op .v0 10 .nil))))))))))) mixed (by kernel_rfl) ?_ <;>
    ((apply XL.det0 rfl rfl rfl rfl; first | exact D.fieldAddrB0 rfl rfl | exact D.fieldAddrB rfl rfl | exact D.fieldAddrE0 rfl rfl | exact D.fieldAddrE rfl rfl)) <;>
    ((apply XL.det1 rfl rfl rfl rfl; first | exact D.load1 rfl (fun w h => h.cellAt (Loc.at_) rfl) | exact D.loadN rfl rfl (fun w h j u hu => by rw [at_add, Nat.zero_add]; exact h.cellAt (Loc.at_) hu) | exact D.loadP rfl rfl)) <;>
    ((apply XL.det0 rfl rfl rfl rfl; exact D.move rfl)) <;>
    (have hil : i < o.ps.length := (by omega); have him : i < p.ps.length := (by omega); (obtain ⟨x, hx⟩ := get_lt hil); (obtain ⟨y, hy⟩ := get_lt him); (apply XL.det0 rfl rfl rfl rfl; exact D.indexAddr i rfl rfl rfl hil (hl.sm (by omega)))) <;>
    ((apply XL.det1 rfl rfl rfl rfl; exact D.loadN rfl rfl (fun w hw j u hu => Rd.ext (hl.conf0 hw) hx j u hu))) <;>
    ((apply XL.det0 rfl rfl rfl rfl; first | exact D.fieldAddrB0 rfl rfl | exact D.fieldAddrB rfl rfl | exact D.fieldAddrE0 rfl rfl | exact D.fieldAddrE rfl rfl)) <;>
    ((apply XL.det1 rfl rfl rfl rfl; first | exact D.load1 rfl (fun w h => h.cellAt (Loc.at_) rfl) | exact D.loadN rfl rfl (fun w h j u hu => by rw [at_add, Nat.zero_add]; exact h.cellAt (Loc.at_) hu) | exact D.loadP rfl rfl)) <;>
    ((apply XL.det0 rfl rfl rfl rfl; exact D.move rfl)) <;>
    ((apply XL.det0 rfl rfl rfl rfl; exact D.indexAddr i rfl rfl rfl him (hr.sm (by omega)))) <;>
    ((apply XL.det1 rfl rfl rfl rfl; exact D.loadN rfl rfl (fun w hw j u hu => Rd.ext (hr.conf0 hw) hy j u hu))) <;>
    (refine XL.split0 rfl rfl rfl rfl (D.neS4 rfl rfl rfl) (fun k2 => ?_) (fun k2 => ?_)) <;>
    (refine XL.nil ?_)) <;> (first | refine Ex.then ?_ | (refine N.next ?_ <;> ((
    refine X.cond rfl ?_ ?_; rotate_left; (focus (
    intro hc; first | exact absurd hc (by decide) | (cases hc; done) | (refine X.skip ?_))); rotate_right; (focus (
    intro hc; first | exact absurd hc (by decide) | (cases hc; done) | (refine X.seq ?_ <;> (refine X.text (L := (.op .fin 0 .nil)) rfl (by kernel_rfl) ?_ <;>
    ((apply XL.det0F rfl rfl rfl rfl; exact D.assign rfl)) <;>
    (refine XL.nil ?_)) <;> (first | refine Ex.then ?_ | (refine N.next ?_ <;> ((refine X.ret ?_; (repeat (first | refine Rt.then ?_ | refine Rt.block ?_ | refine Rt.scope ?_)); (first | apply Rt.done (Res.r1 Tryz.results8 (RV.tmp rfl)) | apply Rt.doneM (Res.r1 Tryz.results8 (RV.tmp rfl))); (focus (first | exact ⟨false, rfl, iff_of_false Bool.false_ne_true (fun h => h1 (congrArg (fun z : Dob => ((z.k : Nat) : Int)) h)), rfl⟩ | exact ⟨false, rfl, iff_of_false Bool.false_ne_true (fun h => h2 (congrArg Dob.ep h)), rfl⟩ | exact ⟨false, rfl, iff_of_false Bool.false_ne_true (fun h => h3 (congrArg Dob.sq h)), rfl⟩ | exact ⟨false, rfl, iff_of_false Bool.false_ne_true (fun h => h4 (congrArg Dob.up h)), rfl⟩ | exact ⟨false, rfl, iff_of_false Bool.false_ne_true (fun h => h5 (congrArg Dob.d h)), rfl⟩ | exact ⟨false, rfl, iff_of_false Bool.false_ne_true (fun h => h6 (congrArg (fun z : Dob => ((z.ps.length : Nat) : Int)) h)), rfl⟩ | exact ⟨false, rfl, iff_of_false Bool.false_ne_true (fun h => h7 (congrArg (fun z : Dob => ((z.cs.length : Nat) : Int)) h)), rfl⟩ | exact ⟨false, rfl, iff_of_false Bool.false_ne_true (fun h => by subst h; rw [hx] at hy; cases hy; exact k2 ⟨rfl, rfl, rfl, rfl⟩), rfl⟩ | exact ⟨false, rfl, iff_of_false Bool.false_ne_true (fun h => by subst h; rw [hx] at hy; cases hy; exact k4 ⟨rfl, rfl⟩), rfl⟩ | exact ⟨true, rfl, iff_of_true rfl (Dob.eq' (by omega) (by omega) (by omega) (by omega) hps (List.ext_getElem? (fun j => by rcases Nat.lt_or_ge j k with h | h; exact hkall j h; rw [List.getElem?_eq_none (by omega), List.getElem?_eq_none (by omega)])) (Decidable.not_not.1 h5)), rfl⟩)); exact fun w h => h.takes)))))))))))) <;> (first | refine N.block ?_ | refine Ex.here ?_ | refine Ex.out rfl ?_)) <;> (first | refine Ex.then ?_ | (refine N.next ?_ <;> (refine X.text (L := (.op .fin 0 (.op .fin 1 (.op .fin 2 .nil)))) rfl (by kernel_rfl) ?_ <;>
    ((apply XL.det0F rfl rfl rfl rfl; exact D.move rfl)) <;>
    ((apply XL.det0F rfl rfl rfl rfl; first | exact D.add64 rfl rfl (by omega) | exact D.int rfl rfl rfl)) <;>
    ((apply XL.det0F rfl rfl rfl rfl; exact D.assign rfl)) <;>
    (refine XL.nil ?_)))))))) <;> (first | refine Ex.then ?_ | ((refine N.again ((i + 1)) ?_ ?_ ?_ ?_; (focus (exact ⟨by omega, fun j hj => by rcases Nat.lt_or_ge j i with h | h; exact hall j h; (obtain rfl : j = i := by omega); rw [hx, hy]; congr 1; cases x; cases y; simp only [Ext.mk.injEq]; simp only at k2; omega⟩)); (focus (first | omega | (dsimp only; omega))); (focus (repeat (first | exact Sub.nil | refine Sub.cons rfl ?_))); exact (fun w h => h.takes))))) <;> (first | refine N.block ?_ | refine Ex.here ?_ | refine Ex.out rfl ?_))))) <;> (first | refine Ex.then ?_ | (refine N.next ?_ <;> (refine X.seq ?_ <;> (refine X.seq ?_ <;> (refine X.text (L := (.op .fin 0 .nil)) rfl (by kernel_rfl) ?_ <;>
    (have hps : o.ps = p.ps := (List.ext_getElem? (fun j => by rcases Nat.lt_or_ge j i with h | h; exact hall j h; rw [List.getElem?_eq_none (by omega), List.getElem?_eq_none (by omega)])); (apply XL.det0F rfl rfl rfl rfl; exact D.assign rfl)) <;>
    (refine XL.nil ?_)) <;> (first | refine Ex.then ?_ | (refine N.next ?_ <;> (refine X.block ?_ <;> ((refine X.loop (ι := Nat) (fun i => [(2, .pointer (some ⟨g1, 0, none⟩)), (3, .pointer (some ⟨g2, 0, none⟩)), (4, .bool false), (6, .int .i64 ((i : Nat) : Int))]) (fun i => [cells g1 [.int .u64 ((o.k : Nat) : Int), .int .i64 o.ep, .int .i64 o.sq, .int .i64 o.up, .slice a o.ps.length c, .slice b o.cs.length d, .string ⟨List.toArray o.d⟩] 33, cells g2 [.int .u64 ((p.k : Nat) : Int), .int .i64 p.ep, .int .i64 p.sq, .int .i64 p.up, .slice a2 p.ps.length c2, .slice b2 p.cs.length d2, .string ⟨List.toArray p.d⟩] 33]) (fun i => i ≤ o.cs.length ∧ ∀ j, j < i → o.cs[j]? = p.cs[j]?) (fun i => o.cs.length - i) (0) ?_ ?_ ?_ ?_; (focus (exact ⟨Nat.zero_le _, fun j hj => by omega⟩)); (focus (repeat (first | exact Sub.nil | refine Sub.cons rfl ?_))); (focus (exact (fun w h => h.takes))); rintro k ⟨hki, hkall⟩; (dsimp only at *)) <;> (refine X.seq ?_ <;> (refine X.seq ?_ <;> (refine X.text (L := (.op .fin 0 (.op .fin 1 (.op .fin 2 (.op .fin 3 (.op .fin 4 .nil)))))) rfl (by kernel_rfl) ?_ <;>
    ((apply XL.det0F rfl rfl rfl rfl; exact D.move rfl)) <;>
    ((apply XL.det0F rfl rfl rfl rfl; first | exact D.fieldAddrB0 rfl rfl | exact D.fieldAddrB rfl rfl | exact D.fieldAddrE0 rfl rfl | exact D.fieldAddrE rfl rfl)) <;>
    ((apply XL.detF rfl rfl rfl rfl; first | exact D.load1 rfl (fun w h => h.cellAt (Loc.at_) rfl) | exact D.loadN rfl rfl (fun w h j u hu => by rw [at_add, Nat.zero_add]; exact h.cellAt (Loc.at_) hu) | exact D.loadP rfl rfl)) <;>
    ((apply XL.det0F rfl rfl rfl rfl; first | exact D.len rfl | exact D.lenL rfl | exact D.lenS rfl)) <;>
    (refine XL.splitF rfl rfl rfl rfl (D.int rfl rfl rfl) (fun k3 => ?_) (fun k3 => ?_)) <;>
    (refine XL.nil ?_)) <;> (first | refine Ex.then ?_ | (refine N.next ?_ <;> ((
    refine X.cond rfl ?_ ?_; rotate_left; (focus (
    intro hc; first | exact absurd hc (by decide) | (cases hc; done) | (refine X.exit ?_))); rotate_right; (focus (
    intro hc; first | exact absurd hc (by decide) | (cases hc; done) | (refine X.skip ?_)))))))) <;> (first | refine Ex.then ?_ | (refine N.next ?_ <;> (refine X.seq ?_ <;> (refine X.block ?_ <;> (refine X.seq ?_ <;> (refine X.draw (.op .v0 0 (.op .v1 1 (.op .v0 2 (.op .v0 3 (.op .v1 4 (.op .v0 5 (.op .v1 6 (.op .v0 7 (.op .v0 8 (.op .v1 9 (.op .v0 10 .nil))))))))))) mixed (by kernel_rfl) ?_ <;>
    ((apply XL.det0 rfl rfl rfl rfl; first | exact D.fieldAddrB0 rfl rfl | exact D.fieldAddrB rfl rfl | exact D.fieldAddrE0 rfl rfl | exact D.fieldAddrE rfl rfl)) <;>
    ((apply XL.det1 rfl rfl rfl rfl; first | exact D.load1 rfl (fun w h => h.cellAt (Loc.at_) rfl) | exact D.loadN rfl rfl (fun w h j u hu => by rw [at_add, Nat.zero_add]; exact h.cellAt (Loc.at_) hu) | exact D.loadP rfl rfl)) <;>
    ((apply XL.det0 rfl rfl rfl rfl; exact D.move rfl)) <;>
    (have hil : k < o.cs.length := (by omega); have him : k < p.cs.length := (by omega); (obtain ⟨x, hx⟩ := get_lt hil); (obtain ⟨y, hy⟩ := get_lt him); (apply XL.det0 rfl rfl rfl rfl; exact D.indexAddr k rfl rfl rfl hil (hcs.sm (by omega)))) <;>
    ((apply XL.det1 rfl rfl rfl rfl; exact D.loadN rfl rfl (fun w hw j u hu => Rd.sp (hcs.conf0 hw) hx j u hu))) <;>
    ((apply XL.det0 rfl rfl rfl rfl; first | exact D.fieldAddrB0 rfl rfl | exact D.fieldAddrB rfl rfl | exact D.fieldAddrE0 rfl rfl | exact D.fieldAddrE rfl rfl)) <;>
    ((apply XL.det1 rfl rfl rfl rfl; first | exact D.load1 rfl (fun w h => h.cellAt (Loc.at_) rfl) | exact D.loadN rfl rfl (fun w h j u hu => by rw [at_add, Nat.zero_add]; exact h.cellAt (Loc.at_) hu) | exact D.loadP rfl rfl)) <;>
    ((apply XL.det0 rfl rfl rfl rfl; exact D.move rfl)) <;>
    ((apply XL.det0 rfl rfl rfl rfl; exact D.indexAddr k rfl rfl rfl him (hrs.sm (by omega)))) <;>
    ((apply XL.det1 rfl rfl rfl rfl; exact D.loadN rfl rfl (fun w hw j u hu => Rd.sp (hrs.conf0 hw) hy j u hu))) <;>
    (refine XL.split0 rfl rfl rfl rfl (D.neS2 rfl rfl) (fun k4 => ?_) (fun k4 => ?_)) <;>
    (refine XL.nil ?_)) <;> (first | refine Ex.then ?_ | (refine N.next ?_ <;> ((
    refine X.cond rfl ?_ ?_; rotate_left; (focus (
    intro hc; first | exact absurd hc (by decide) | (cases hc; done) | (refine X.skip ?_))); rotate_right; (focus (
    intro hc; first | exact absurd hc (by decide) | (cases hc; done) | (refine X.seq ?_ <;> (refine X.text (L := (.op .fin 0 .nil)) rfl (by kernel_rfl) ?_ <;>
    ((apply XL.det0F rfl rfl rfl rfl; exact D.assign rfl)) <;>
    (refine XL.nil ?_)) <;> (first | refine Ex.then ?_ | (refine N.next ?_ <;> ((refine X.ret ?_; (repeat (first | refine Rt.then ?_ | refine Rt.block ?_ | refine Rt.scope ?_)); (first | apply Rt.done (Res.r1 Tryz.results8 (RV.tmp rfl)) | apply Rt.doneM (Res.r1 Tryz.results8 (RV.tmp rfl))); (focus (first | exact ⟨false, rfl, iff_of_false Bool.false_ne_true (fun h => h1 (congrArg (fun z : Dob => ((z.k : Nat) : Int)) h)), rfl⟩ | exact ⟨false, rfl, iff_of_false Bool.false_ne_true (fun h => h2 (congrArg Dob.ep h)), rfl⟩ | exact ⟨false, rfl, iff_of_false Bool.false_ne_true (fun h => h3 (congrArg Dob.sq h)), rfl⟩ | exact ⟨false, rfl, iff_of_false Bool.false_ne_true (fun h => h4 (congrArg Dob.up h)), rfl⟩ | exact ⟨false, rfl, iff_of_false Bool.false_ne_true (fun h => h5 (congrArg Dob.d h)), rfl⟩ | exact ⟨false, rfl, iff_of_false Bool.false_ne_true (fun h => h6 (congrArg (fun z : Dob => ((z.ps.length : Nat) : Int)) h)), rfl⟩ | exact ⟨false, rfl, iff_of_false Bool.false_ne_true (fun h => h7 (congrArg (fun z : Dob => ((z.cs.length : Nat) : Int)) h)), rfl⟩ | exact ⟨false, rfl, iff_of_false Bool.false_ne_true (fun h => by subst h; rw [hx] at hy; cases hy; exact k2 ⟨rfl, rfl, rfl, rfl⟩), rfl⟩ | exact ⟨false, rfl, iff_of_false Bool.false_ne_true (fun h => by subst h; rw [hx] at hy; cases hy; exact k4 ⟨rfl, rfl⟩), rfl⟩ | exact ⟨true, rfl, iff_of_true rfl (Dob.eq' (by omega) (by omega) (by omega) (by omega) hps (List.ext_getElem? (fun j => by rcases Nat.lt_or_ge j k with h | h; exact hkall j h; rw [List.getElem?_eq_none (by omega), List.getElem?_eq_none (by omega)])) (Decidable.not_not.1 h5)), rfl⟩)); exact fun w h => h.takes)))))))))))) <;> (first | refine N.block ?_ | refine Ex.here ?_ | refine Ex.out rfl ?_)) <;> (first | refine Ex.then ?_ | (refine N.next ?_ <;> (refine X.text (L := (.op .fin 0 (.op .fin 1 (.op .fin 2 .nil)))) rfl (by kernel_rfl) ?_ <;>
    ((apply XL.det0F rfl rfl rfl rfl; exact D.move rfl)) <;>
    ((apply XL.det0F rfl rfl rfl rfl; first | exact D.add64 rfl rfl (by omega) | exact D.int rfl rfl rfl)) <;>
    ((apply XL.det0F rfl rfl rfl rfl; exact D.assign rfl)) <;>
    (refine XL.nil ?_)))))))) <;> (first | refine Ex.then ?_ | ((refine N.again ((k + 1)) ?_ ?_ ?_ ?_; (focus (exact ⟨by omega, fun j hj => by rcases Nat.lt_or_ge j k with h | h; exact hkall j h; (obtain rfl : j = k := by omega); rw [hx, hy]; congr 1; exact Prod.ext (Decidable.not_not.1 k4).1 (Decidable.not_not.1 k4).2⟩)); (focus (first | omega | (dsimp only; omega))); (focus (repeat (first | exact Sub.nil | refine Sub.cons rfl ?_))); exact (fun w h => h.takes))))) <;> (first | refine N.block ?_ | refine Ex.here ?_ | refine Ex.out rfl ?_))))) <;> (first | refine Ex.then ?_ | (refine N.next ?_ <;> (refine X.seq ?_ <;> (refine X.text (L := (.op .fin 0 .nil)) rfl (by kernel_rfl) ?_ <;>
    ((apply XL.det0F rfl rfl rfl rfl; exact D.assign rfl)) <;>
    (refine XL.nil ?_)) <;> (first | refine Ex.then ?_ | (refine N.next ?_ <;> ((refine X.ret ?_; (repeat (first | refine Rt.then ?_ | refine Rt.block ?_ | refine Rt.scope ?_)); (first | apply Rt.done (Res.r1 Tryz.results8 (RV.tmp rfl)) | apply Rt.doneM (Res.r1 Tryz.results8 (RV.tmp rfl))); (focus (first | exact ⟨false, rfl, iff_of_false Bool.false_ne_true (fun h => h1 (congrArg (fun z : Dob => ((z.k : Nat) : Int)) h)), rfl⟩ | exact ⟨false, rfl, iff_of_false Bool.false_ne_true (fun h => h2 (congrArg Dob.ep h)), rfl⟩ | exact ⟨false, rfl, iff_of_false Bool.false_ne_true (fun h => h3 (congrArg Dob.sq h)), rfl⟩ | exact ⟨false, rfl, iff_of_false Bool.false_ne_true (fun h => h4 (congrArg Dob.up h)), rfl⟩ | exact ⟨false, rfl, iff_of_false Bool.false_ne_true (fun h => h5 (congrArg Dob.d h)), rfl⟩ | exact ⟨false, rfl, iff_of_false Bool.false_ne_true (fun h => h6 (congrArg (fun z : Dob => ((z.ps.length : Nat) : Int)) h)), rfl⟩ | exact ⟨false, rfl, iff_of_false Bool.false_ne_true (fun h => h7 (congrArg (fun z : Dob => ((z.cs.length : Nat) : Int)) h)), rfl⟩ | exact ⟨false, rfl, iff_of_false Bool.false_ne_true (fun h => by subst h; rw [hx] at hy; cases hy; exact k2 ⟨rfl, rfl, rfl, rfl⟩), rfl⟩ | exact ⟨false, rfl, iff_of_false Bool.false_ne_true (fun h => by subst h; rw [hx] at hy; cases hy; exact k4 ⟨rfl, rfl⟩), rfl⟩ | exact ⟨true, rfl, iff_of_true rfl (Dob.eq' (by omega) (by omega) (by omega) (by omega) hps (List.ext_getElem? (fun j => by rcases Nat.lt_or_ge j k with h | h; exact hkall j h; rw [List.getElem?_eq_none (by omega), List.getElem?_eq_none (by omega)])) (Decidable.not_not.1 h5)), rfl⟩)); exact fun w h => h.takes)))))))))))))))))
theorem dFew_spec (w : World) (o : Dob) (a b : Option Addr) (c d : Nat) (hl : Rd w 4 a o.ps.length c (encE o.ps)) (hcs : Rd w 2 b o.cs.length d (encS o.cs)) : Spec Tryz.prog 12 #[.agg #[.int .u64 ((o.k : Nat) : Int), .int .i64 o.ep, .int .i64 o.sq, .int .i64 o.up, .slice a o.ps.length c, .slice b o.cs.length d, .string ⟨List.toArray o.d⟩]] w (fun _ => False) (fun v A => ∃ f : Bool, v = .bool f ∧ (f = true → o.ps.length ≤ 60 ∧ o.cs.length ≤ 60 ∧ o.d.length ≤ 6400) ∧ A = []) := by
  have hbd := hl.bd'
  have hbd2 := hcs.bd'
  refine Spec.enter (args := [.agg #[.int .u64 ((o.k : Nat) : Int), .int .i64 o.ep, .int .i64 o.sq, .int .i64 o.up, .slice a o.ps.length c, .slice b o.cs.length d, .string ⟨List.toArray o.d⟩]]) (A := []) Tryz.func12 rfl Tryz.ntmps12 rfl (fun _ h => h) ?_
  (refine X.seq ?_ <;> (refine X.text (L := (.op .fin 0 (.op .fin 1 .nil))) rfl (by kernel_rfl) ?_ <;>
    (refine XL.boxN rfl rfl rfl rfl (by intro g; infer_instance) (fun g1 => ?_)) <;>
    ((apply XL.det0F rfl rfl rfl rfl; exact D.assign rfl)) <;>
    (refine XL.nil ?_)) <;> (first | refine Ex.then ?_ | (refine N.next ?_ <;> (refine X.seq ?_ <;> (refine X.seq ?_ <;> (refine X.text (L := (.op .fin 0 (.op .fin 1 (.op .fin 2 (.op .fin 3 (.op .fin 4 (.op .fin 5 (.op .fin 6 (.op .fin 7 (.op .fin 8 (.op .fin 9 (.op .fin 10 (.op .fin 11 (.op .fin 12 (.op .fin 13 (.op .fin 14 (.op .fin 15 .nil))))))))))))))))) rfl (by kernel_rfl) ?_ <;>
    ((apply XL.det0F rfl rfl rfl rfl; first | exact D.fieldAddrB0 rfl rfl | exact D.fieldAddrB rfl rfl | exact D.fieldAddrE0 rfl rfl | exact D.fieldAddrE rfl rfl)) <;>
    ((apply XL.detF rfl rfl rfl rfl; first | exact D.load1 rfl (fun w h => h.cellAt (Loc.at_) rfl) | exact D.loadN rfl rfl (fun w h j u hu => by rw [at_add, Nat.zero_add]; exact h.cellAt (Loc.at_) hu) | exact D.loadP rfl rfl)) <;>
    ((apply XL.det0F rfl rfl rfl rfl; first | exact D.len rfl | exact D.lenL rfl | exact D.lenS rfl)) <;>
    (refine XL.splitF rfl rfl rfl rfl (D.int rfl rfl rfl) (fun h1 => ?_) (fun h1 => ?_)) <;>
    ((apply XL.det0F rfl rfl rfl rfl; exact D.move rfl)) <;>
    (first | refine XL.skipF rfl rfl rfl rfl ?_ | ((apply XL.det0F rfl rfl rfl rfl; first | exact D.fieldAddrB0 rfl rfl | exact D.fieldAddrB rfl rfl | exact D.fieldAddrE0 rfl rfl | exact D.fieldAddrE rfl rfl))) <;>
    (first | refine XL.skipF rfl rfl rfl rfl ?_ | ((apply XL.detF rfl rfl rfl rfl; first | exact D.load1 rfl (fun w h => h.cellAt (Loc.at_) rfl) | exact D.loadN rfl rfl (fun w h j u hu => by rw [at_add, Nat.zero_add]; exact h.cellAt (Loc.at_) hu) | exact D.loadP rfl rfl))) <;>
    (first | refine XL.skipF rfl rfl rfl rfl ?_ | ((apply XL.det0F rfl rfl rfl rfl; first | exact D.len rfl | exact D.lenL rfl | exact D.lenS rfl))) <;>
    (first | refine XL.skipF rfl rfl rfl rfl ?_ | (first | refine XL.skipF rfl rfl rfl rfl ?_ | refine XL.splitF rfl rfl rfl rfl (D.int rfl rfl rfl) (fun h2 => ?_) (fun h2 => ?_))) <;>
    ((apply XL.det0F rfl rfl rfl rfl; first | exact D.pickT rfl rfl | exact D.pickF rfl rfl | exact D.pick rfl rfl rfl)) <;>
    ((apply XL.det0F rfl rfl rfl rfl; exact D.move rfl)) <;>
    (first | refine XL.skipF rfl rfl rfl rfl ?_ | ((apply XL.det0F rfl rfl rfl rfl; first | exact D.fieldAddrB0 rfl rfl | exact D.fieldAddrB rfl rfl | exact D.fieldAddrE0 rfl rfl | exact D.fieldAddrE rfl rfl))) <;>
    (first | refine XL.skipF rfl rfl rfl rfl ?_ | ((apply XL.detF rfl rfl rfl rfl; first | exact D.load1 rfl (fun w h => h.cellAt (Loc.at_) rfl) | exact D.loadN rfl rfl (fun w h j u hu => by rw [at_add, Nat.zero_add]; exact h.cellAt (Loc.at_) hu) | exact D.loadP rfl rfl))) <;>
    (first | refine XL.skipF rfl rfl rfl rfl ?_ | ((apply XL.det0F rfl rfl rfl rfl; first | exact D.len rfl | exact D.lenL rfl | exact D.lenS rfl))) <;>
    (first | refine XL.skipF rfl rfl rfl rfl ?_ | (first | refine XL.skipF rfl rfl rfl rfl ?_ | refine XL.splitF rfl rfl rfl rfl (D.int rfl rfl rfl) (fun h3 => ?_) (fun h3 => ?_))) <;>
    ((apply XL.det0F rfl rfl rfl rfl; first | exact D.pickT rfl rfl | exact D.pickF rfl rfl | exact D.pick rfl rfl rfl)) <;>
    (refine XL.nil ?_)) <;> (first | refine Ex.then ?_ | (refine N.next ?_ <;> ((
    refine X.cond rfl ?_ ?_; rotate_left; (focus (
    intro hc; first | exact absurd hc (by decide) | (cases hc; done) | (refine X.skip ?_))); rotate_right; (focus (
    intro hc; first | exact absurd hc (by decide) | (cases hc; done) | (refine X.seq ?_ <;> (refine X.text (L := (.op .fin 0 .nil)) rfl (by kernel_rfl) ?_ <;>
    ((apply XL.det0F rfl rfl rfl rfl; exact D.assign rfl)) <;>
    (refine XL.nil ?_)) <;> (first | refine Ex.then ?_ | (refine N.next ?_ <;> ((refine X.ret ?_; (repeat (first | refine Rt.then ?_ | refine Rt.block ?_ | refine Rt.scope ?_)); (first | apply Rt.done (Res.r1 Tryz.results12 (RV.tmp rfl)) | apply Rt.doneM (Res.r1 Tryz.results12 (RV.tmp rfl))); (focus (first | exact ⟨false, rfl, fun h => absurd h Bool.false_ne_true, rfl⟩ | exact ⟨true, rfl, fun _ => ⟨by omega, by omega, by omega⟩, rfl⟩)); exact fun w h => h.takes)))))))))))) <;> (first | refine Ex.then ?_ | (refine N.next ?_ <;> (refine X.seq ?_ <;> (refine X.seq ?_ <;> (refine X.text (L := (.op .fin 0 .nil)) rfl (by kernel_rfl) ?_ <;>
    ((apply XL.det0F rfl rfl rfl rfl; exact D.assign rfl)) <;>
    (refine XL.nil ?_)) <;> (first | refine Ex.then ?_ | (refine N.next ?_ <;> (refine X.block ?_ <;> ((refine X.loop (ι := Nat) (fun i => [(1, .pointer (some ⟨g1, 0, none⟩)), (2, .bool false), (3, .int .i64 ((i : Nat) : Int))]) (fun i => [cells g1 [.int .u64 ((o.k : Nat) : Int), .int .i64 o.ep, .int .i64 o.sq, .int .i64 o.up, .slice a o.ps.length c, .slice b o.cs.length d, .string ⟨List.toArray o.d⟩] 27]) (fun i => i ≤ o.ps.length) (fun i => o.ps.length - i) (0) ?_ ?_ ?_ ?_; (focus (exact Nat.zero_le _)); (focus (repeat (first | exact Sub.nil | refine Sub.cons rfl ?_))); (focus (exact (fun w h => h.takes))); rintro i hi; (dsimp only at *)) <;> (refine X.seq ?_ <;> (refine X.seq ?_ <;> (refine X.text (L := (.op .fin 0 (.op .fin 1 (.op .fin 2 (.op .fin 3 (.op .fin 4 .nil)))))) rfl (by kernel_rfl) ?_ <;>
    ((apply XL.det0F rfl rfl rfl rfl; exact D.move rfl)) <;>
    ((apply XL.det0F rfl rfl rfl rfl; first | exact D.fieldAddrB0 rfl rfl | exact D.fieldAddrB rfl rfl | exact D.fieldAddrE0 rfl rfl | exact D.fieldAddrE rfl rfl)) <;>
    ((apply XL.detF rfl rfl rfl rfl; first | exact D.load1 rfl (fun w h => h.cellAt (Loc.at_) rfl) | exact D.loadN rfl rfl (fun w h j u hu => by rw [at_add, Nat.zero_add]; exact h.cellAt (Loc.at_) hu) | exact D.loadP rfl rfl)) <;>
    ((apply XL.det0F rfl rfl rfl rfl; first | exact D.len rfl | exact D.lenL rfl | exact D.lenS rfl)) <;>
    (refine XL.splitF rfl rfl rfl rfl (D.int rfl rfl rfl) (fun k1 => ?_) (fun k1 => ?_)) <;>
    (refine XL.nil ?_)) <;> (first | refine Ex.then ?_ | (refine N.next ?_ <;> ((
    refine X.cond rfl ?_ ?_; rotate_left; (focus (
    intro hc; first | exact absurd hc (by decide) | (cases hc; done) | (refine X.exit ?_))); rotate_right; (focus (
    intro hc; first | exact absurd hc (by decide) | (cases hc; done) | (refine X.skip ?_)))))))) <;> (first | refine Ex.then ?_ | (refine N.next ?_ <;> (refine X.seq ?_ <;> (refine X.block ?_ <;> (refine X.seq ?_ <;> (refine X.draw (.op .v0 0 (.op .v1 1 (.op .v0 2 (.op .v0 3 (.op .v0 4 (.op .v0 5 (.op .v1 6 (.op .v0 7 (.op .v0 8 (.op .v0 9 (.op .v1 10 (.op .v0 11 (.op .v0 12 (.op .v0 13 (.op .v0 14 (.op .v1 15 (.op .v0 16 (.op .v0 17 (.op .v0 18 (.op .v0 19 (.op .v1 20 (.op .v0 21 (.op .v0 22 (.op .v0 23 (.op .v0 24 (.op .v1 25 (.op .v0 26 (.op .v1 27 (.op .v0 28 (.op .v0 29 (.op .v0 30 (.op .v0 31 (.op .v1 32 (.op .v0 33 (.op .v0 34 (.op .v0 35 .nil)))))))))))))))))))))))))))))))))))) mixed (by kernel_rfl) ?_ <;>
    ((apply XL.det0 rfl rfl rfl rfl; first | exact D.fieldAddrB0 rfl rfl | exact D.fieldAddrB rfl rfl | exact D.fieldAddrE0 rfl rfl | exact D.fieldAddrE rfl rfl)) <;>
    ((apply XL.det1 rfl rfl rfl rfl; first | exact D.load1 rfl (fun w h => h.cellAt (Loc.at_) rfl) | exact D.loadN rfl rfl (fun w h j u hu => by rw [at_add, Nat.zero_add]; exact h.cellAt (Loc.at_) hu) | exact D.loadP rfl rfl)) <;>
    ((apply XL.det0 rfl rfl rfl rfl; exact D.move rfl)) <;>
    (have hil : i < o.ps.length := (by omega); (obtain ⟨x, hx⟩ := get_lt hil); (apply XL.det0 rfl rfl rfl rfl; exact D.indexAddr i rfl rfl rfl hil (hl.sm (by omega)))) <;>
    ((apply XL.det0 rfl rfl rfl rfl; first | exact D.fieldAddrB0 rfl rfl | exact D.fieldAddrB rfl rfl | exact D.fieldAddrE0 rfl rfl | exact D.fieldAddrE rfl rfl)) <;>
    ((apply XL.det0 rfl rfl rfl rfl; first | exact D.fieldAddrB0 rfl rfl | exact D.fieldAddrB rfl rfl | exact D.fieldAddrE0 rfl rfl | exact D.fieldAddrE rfl rfl)) <;>
    ((apply XL.det1 rfl rfl rfl rfl; exact D.load1 rfl (fun w hw => (Rd.dA (hl.conf0 hw) hx).1))) <;>
    (first | refine XL.cmpT0 rfl rfl rfl rfl (D.int rfl rfl rfl) (by omega) ?_ | refine XL.cmpF0 rfl rfl rfl rfl (D.int rfl rfl rfl) (by omega) ?_ | refine XL.split0 rfl rfl rfl rfl (D.int rfl rfl rfl) (fun _ => ?_) (fun _ => ?_)) <;>
    ((apply XL.det0 rfl rfl rfl rfl; exact D.move rfl)) <;>
    (first | refine XL.skip0 rfl rfl rfl rfl ?_ | ((apply XL.det0 rfl rfl rfl rfl; first | exact D.fieldAddrB0 rfl rfl | exact D.fieldAddrB rfl rfl | exact D.fieldAddrE0 rfl rfl | exact D.fieldAddrE rfl rfl))) <;>
    (first | refine XL.skip1 rfl rfl rfl rfl ?_ | ((apply XL.det1 rfl rfl rfl rfl; first | exact D.load1 rfl (fun w h => h.cellAt (Loc.at_) rfl) | exact D.loadN rfl rfl (fun w h j u hu => by rw [at_add, Nat.zero_add]; exact h.cellAt (Loc.at_) hu) | exact D.loadP rfl rfl))) <;>
    (first | refine XL.skip0 rfl rfl rfl rfl ?_ | ((apply XL.det0 rfl rfl rfl rfl; exact D.move rfl))) <;>
    (first | refine XL.skip0 rfl rfl rfl rfl ?_ | (first | refine XL.skip0 rfl rfl rfl rfl ?_ | (apply XL.det0 rfl rfl rfl rfl; exact D.indexAddr i rfl rfl rfl hil (hl.sm (by omega))))) <;>
    (first | refine XL.skip0 rfl rfl rfl rfl ?_ | ((apply XL.det0 rfl rfl rfl rfl; first | exact D.fieldAddrB0 rfl rfl | exact D.fieldAddrB rfl rfl | exact D.fieldAddrE0 rfl rfl | exact D.fieldAddrE rfl rfl))) <;>
    (first | refine XL.skip0 rfl rfl rfl rfl ?_ | ((apply XL.det0 rfl rfl rfl rfl; first | exact D.fieldAddrB0 rfl rfl | exact D.fieldAddrB rfl rfl | exact D.fieldAddrE0 rfl rfl | exact D.fieldAddrE rfl rfl))) <;>
    (first | refine XL.skip1 rfl rfl rfl rfl ?_ | (first | refine XL.skip1 rfl rfl rfl rfl ?_ | (apply XL.det1 rfl rfl rfl rfl; exact D.load1 rfl (fun w hw => (Rd.dA (hl.conf0 hw) hx).2.1)))) <;>
    (first | refine XL.skip0 rfl rfl rfl rfl ?_ | (first | refine XL.cmpT0 rfl rfl rfl rfl (D.int rfl rfl rfl) (by omega) ?_ | refine XL.cmpF0 rfl rfl rfl rfl (D.int rfl rfl rfl) (by omega) ?_ | refine XL.split0 rfl rfl rfl rfl (D.int rfl rfl rfl) (fun _ => ?_) (fun _ => ?_))) <;>
    ((apply XL.det0 rfl rfl rfl rfl; first | exact D.pickT rfl rfl | exact D.pickF rfl rfl | exact D.pick rfl rfl rfl)) <;>
    ((apply XL.det0 rfl rfl rfl rfl; exact D.move rfl)) <;>
    (first | refine XL.skip0 rfl rfl rfl rfl ?_ | ((apply XL.det0 rfl rfl rfl rfl; first | exact D.fieldAddrB0 rfl rfl | exact D.fieldAddrB rfl rfl | exact D.fieldAddrE0 rfl rfl | exact D.fieldAddrE rfl rfl))) <;>
    (first | refine XL.skip1 rfl rfl rfl rfl ?_ | ((apply XL.det1 rfl rfl rfl rfl; first | exact D.load1 rfl (fun w h => h.cellAt (Loc.at_) rfl) | exact D.loadN rfl rfl (fun w h j u hu => by rw [at_add, Nat.zero_add]; exact h.cellAt (Loc.at_) hu) | exact D.loadP rfl rfl))) <;>
    (first | refine XL.skip0 rfl rfl rfl rfl ?_ | ((apply XL.det0 rfl rfl rfl rfl; exact D.move rfl))) <;>
    (first | refine XL.skip0 rfl rfl rfl rfl ?_ | (first | refine XL.skip0 rfl rfl rfl rfl ?_ | (apply XL.det0 rfl rfl rfl rfl; exact D.indexAddr i rfl rfl rfl hil (hl.sm (by omega))))) <;>
    (first | refine XL.skip0 rfl rfl rfl rfl ?_ | ((apply XL.det0 rfl rfl rfl rfl; first | exact D.fieldAddrB0 rfl rfl | exact D.fieldAddrB rfl rfl | exact D.fieldAddrE0 rfl rfl | exact D.fieldAddrE rfl rfl))) <;>
    (first | refine XL.skip0 rfl rfl rfl rfl ?_ | ((apply XL.det0 rfl rfl rfl rfl; first | exact D.fieldAddrB0 rfl rfl | exact D.fieldAddrB rfl rfl | exact D.fieldAddrE0 rfl rfl | exact D.fieldAddrE rfl rfl))) <;>
    (first | refine XL.skip1 rfl rfl rfl rfl ?_ | (first | refine XL.skip1 rfl rfl rfl rfl ?_ | (apply XL.det1 rfl rfl rfl rfl; exact D.load1 rfl (fun w hw => (Rd.dA (hl.conf0 hw) hx).1)))) <;>
    (first | refine XL.skip0 rfl rfl rfl rfl ?_ | ((apply XL.det0 rfl rfl rfl rfl; first | exact D.fieldAddrB0 rfl rfl | exact D.fieldAddrB rfl rfl | exact D.fieldAddrE0 rfl rfl | exact D.fieldAddrE rfl rfl))) <;>
    (first | refine XL.skip1 rfl rfl rfl rfl ?_ | ((apply XL.det1 rfl rfl rfl rfl; first | exact D.load1 rfl (fun w h => h.cellAt (Loc.at_) rfl) | exact D.loadN rfl rfl (fun w h j u hu => by rw [at_add, Nat.zero_add]; exact h.cellAt (Loc.at_) hu) | exact D.loadP rfl rfl))) <;>
    (first | refine XL.skip0 rfl rfl rfl rfl ?_ | ((apply XL.det0 rfl rfl rfl rfl; exact D.move rfl))) <;>
    (first | refine XL.skip0 rfl rfl rfl rfl ?_ | (first | refine XL.skip0 rfl rfl rfl rfl ?_ | (apply XL.det0 rfl rfl rfl rfl; exact D.indexAddr i rfl rfl rfl hil (hl.sm (by omega))))) <;>
    (first | refine XL.skip0 rfl rfl rfl rfl ?_ | ((apply XL.det0 rfl rfl rfl rfl; first | exact D.fieldAddrB0 rfl rfl | exact D.fieldAddrB rfl rfl | exact D.fieldAddrE0 rfl rfl | exact D.fieldAddrE rfl rfl))) <;>
    (first | refine XL.skip0 rfl rfl rfl rfl ?_ | ((apply XL.det0 rfl rfl rfl rfl; first | exact D.fieldAddrB0 rfl rfl | exact D.fieldAddrB rfl rfl | exact D.fieldAddrE0 rfl rfl | exact D.fieldAddrE rfl rfl))) <;>
    (first | refine XL.skip1 rfl rfl rfl rfl ?_ | (first | refine XL.skip1 rfl rfl rfl rfl ?_ | (apply XL.det1 rfl rfl rfl rfl; exact D.load1 rfl (fun w hw => (Rd.dA (hl.conf0 hw) hx).2.1)))) <;>
    (first | refine XL.skip0 rfl rfl rfl rfl ?_ | (first | refine XL.skip0 rfl rfl rfl rfl ?_ | (apply XL.det0 rfl rfl rfl rfl; exact D.int rfl rfl rfl))) <;>
    (first | refine XL.skip0 rfl rfl rfl rfl ?_ | (first | refine XL.cmpT0 rfl rfl rfl rfl (D.int rfl rfl rfl) (by omega) ?_ | refine XL.cmpF0 rfl rfl rfl rfl (D.int rfl rfl rfl) (by omega) ?_ | refine XL.split0 rfl rfl rfl rfl (D.int rfl rfl rfl) (fun _ => ?_) (fun _ => ?_))) <;>
    ((apply XL.det0 rfl rfl rfl rfl; first | exact D.pickT rfl rfl | exact D.pickF rfl rfl | exact D.pick rfl rfl rfl)) <;>
    (refine XL.nil ?_)) <;> (first | refine Ex.then ?_ | (refine N.next ?_ <;> ((
    refine X.cond rfl ?_ ?_; rotate_left; (focus (
    intro hc; first | exact absurd hc (by decide) | (cases hc; done) | (refine X.skip ?_))); rotate_right; (focus (
    intro hc; first | exact absurd hc (by decide) | (cases hc; done) | (refine X.seq ?_ <;> (refine X.text (L := (.op .fin 0 .nil)) rfl (by kernel_rfl) ?_ <;>
    ((apply XL.det0F rfl rfl rfl rfl; exact D.assign rfl)) <;>
    (refine XL.nil ?_)) <;> (first | refine Ex.then ?_ | (refine N.next ?_ <;> ((refine X.ret ?_; (repeat (first | refine Rt.then ?_ | refine Rt.block ?_ | refine Rt.scope ?_)); (first | apply Rt.done (Res.r1 Tryz.results12 (RV.tmp rfl)) | apply Rt.doneM (Res.r1 Tryz.results12 (RV.tmp rfl))); (focus (first | exact ⟨false, rfl, fun h => absurd h Bool.false_ne_true, rfl⟩ | exact ⟨true, rfl, fun _ => ⟨by omega, by omega, by omega⟩, rfl⟩)); exact fun w h => h.takes)))))))))))) <;> (first | refine N.block ?_ | refine Ex.here ?_ | refine Ex.out rfl ?_)) <;> (first | refine Ex.then ?_ | (refine N.next ?_ <;> (refine X.text (L := (.op .fin 0 (.op .fin 1 (.op .fin 2 .nil)))) rfl (by kernel_rfl) ?_ <;>
    ((apply XL.det0F rfl rfl rfl rfl; exact D.move rfl)) <;>
    ((apply XL.det0F rfl rfl rfl rfl; first | exact D.add64 rfl rfl (by omega) | exact D.int rfl rfl rfl)) <;>
    ((apply XL.det0F rfl rfl rfl rfl; exact D.assign rfl)) <;>
    (refine XL.nil ?_)))))))) <;> (first | refine Ex.then ?_ | ((refine N.again ((i + 1)) ?_ ?_ ?_ ?_; (focus (omega)); (focus (first | omega | (dsimp only; omega))); (focus (repeat (first | exact Sub.nil | refine Sub.cons rfl ?_))); exact (fun w h => h.takes))))) <;> (first | refine N.block ?_ | refine Ex.here ?_ | refine Ex.out rfl ?_))))) <;> (first | refine Ex.then ?_ | (refine N.next ?_ <;> (refine X.seq ?_ <;> (refine X.seq ?_ <;> (refine X.text (L := (.op .fin 0 .nil)) rfl (by kernel_rfl) ?_ <;>
    ((apply XL.det0F rfl rfl rfl rfl; exact D.assign rfl)) <;>
    (refine XL.nil ?_)) <;> (first | refine Ex.then ?_ | (refine N.next ?_ <;> (refine X.block ?_ <;> ((refine X.loop (ι := Nat) (fun i => [(1, .pointer (some ⟨g1, 0, none⟩)), (2, .bool false), (4, .int .i64 ((i : Nat) : Int))]) (fun i => [cells g1 [.int .u64 ((o.k : Nat) : Int), .int .i64 o.ep, .int .i64 o.sq, .int .i64 o.up, .slice a o.ps.length c, .slice b o.cs.length d, .string ⟨List.toArray o.d⟩] 27]) (fun i => i ≤ o.cs.length) (fun i => o.cs.length - i) (0) ?_ ?_ ?_ ?_; (focus (exact Nat.zero_le _)); (focus (repeat (first | exact Sub.nil | refine Sub.cons rfl ?_))); (focus (exact (fun w h => h.takes))); rintro k hk; (dsimp only at *)) <;> (refine X.seq ?_ <;> (refine X.seq ?_ <;> (refine X.text (L := (.op .fin 0 (.op .fin 1 (.op .fin 2 (.op .fin 3 (.op .fin 4 .nil)))))) rfl (by kernel_rfl) ?_ <;>
    ((apply XL.det0F rfl rfl rfl rfl; exact D.move rfl)) <;>
    ((apply XL.det0F rfl rfl rfl rfl; first | exact D.fieldAddrB0 rfl rfl | exact D.fieldAddrB rfl rfl | exact D.fieldAddrE0 rfl rfl | exact D.fieldAddrE rfl rfl)) <;>
    ((apply XL.detF rfl rfl rfl rfl; first | exact D.load1 rfl (fun w h => h.cellAt (Loc.at_) rfl) | exact D.loadN rfl rfl (fun w h j u hu => by rw [at_add, Nat.zero_add]; exact h.cellAt (Loc.at_) hu) | exact D.loadP rfl rfl)) <;>
    ((apply XL.det0F rfl rfl rfl rfl; first | exact D.len rfl | exact D.lenL rfl | exact D.lenS rfl)) <;>
    (refine XL.splitF rfl rfl rfl rfl (D.int rfl rfl rfl) (fun k2 => ?_) (fun k2 => ?_)) <;>
    (refine XL.nil ?_)) <;> (first | refine Ex.then ?_ | (refine N.next ?_ <;> ((
    refine X.cond rfl ?_ ?_; rotate_left; (focus (
    intro hc; first | exact absurd hc (by decide) | (cases hc; done) | (refine X.exit ?_))); rotate_right; (focus (
    intro hc; first | exact absurd hc (by decide) | (cases hc; done) | (refine X.skip ?_)))))))) <;> (first | refine Ex.then ?_ | (refine N.next ?_ <;> (refine X.seq ?_ <;> (refine X.block ?_ <;> (refine X.seq ?_ <;> (refine X.draw (.op .v0 0 (.op .v1 1 (.op .v0 2 (.op .v0 3 (.op .v0 4 (.op .v1 5 (.op .v0 6 (.op .v0 7 (.op .v0 8 (.op .v1 9 (.op .v0 10 (.op .v0 11 (.op .v0 12 (.op .v1 13 (.op .v0 14 (.op .v0 15 (.op .v0 16 (.op .v0 17 (.op .v1 18 (.op .v0 19 (.op .v0 20 (.op .v0 21 (.op .v1 22 (.op .v0 23 (.op .v1 24 (.op .v0 25 (.op .v0 26 (.op .v0 27 (.op .v1 28 (.op .v0 29 (.op .v0 30 (.op .v0 31 .nil)))))))))))))))))))))))))))))))) mixed (by kernel_rfl) ?_ <;>
    ((apply XL.det0 rfl rfl rfl rfl; first | exact D.fieldAddrB0 rfl rfl | exact D.fieldAddrB rfl rfl | exact D.fieldAddrE0 rfl rfl | exact D.fieldAddrE rfl rfl)) <;>
    ((apply XL.det1 rfl rfl rfl rfl; first | exact D.load1 rfl (fun w h => h.cellAt (Loc.at_) rfl) | exact D.loadN rfl rfl (fun w h j u hu => by rw [at_add, Nat.zero_add]; exact h.cellAt (Loc.at_) hu) | exact D.loadP rfl rfl)) <;>
    ((apply XL.det0 rfl rfl rfl rfl; exact D.move rfl)) <;>
    (have hil : k < o.cs.length := (by omega); (obtain ⟨x, hx⟩ := get_lt hil); (apply XL.det0 rfl rfl rfl rfl; exact D.indexAddr k rfl rfl rfl hil (hcs.sm (by omega)))) <;>
    ((apply XL.det0 rfl rfl rfl rfl; first | exact D.fieldAddrB0 rfl rfl | exact D.fieldAddrB rfl rfl | exact D.fieldAddrE0 rfl rfl | exact D.fieldAddrE rfl rfl)) <;>
    ((apply XL.det1 rfl rfl rfl rfl; exact D.load1 rfl (fun w hw => (Rd.dS (hcs.conf0 hw) hx).1))) <;>
    (first | refine XL.cmpT0 rfl rfl rfl rfl (D.int rfl rfl rfl) (by omega) ?_ | refine XL.cmpF0 rfl rfl rfl rfl (D.int rfl rfl rfl) (by omega) ?_ | refine XL.split0 rfl rfl rfl rfl (D.int rfl rfl rfl) (fun _ => ?_) (fun _ => ?_)) <;>
    ((apply XL.det0 rfl rfl rfl rfl; exact D.move rfl)) <;>
    (first | refine XL.skip0 rfl rfl rfl rfl ?_ | ((apply XL.det0 rfl rfl rfl rfl; first | exact D.fieldAddrB0 rfl rfl | exact D.fieldAddrB rfl rfl | exact D.fieldAddrE0 rfl rfl | exact D.fieldAddrE rfl rfl))) <;>
    (first | refine XL.skip1 rfl rfl rfl rfl ?_ | ((apply XL.det1 rfl rfl rfl rfl; first | exact D.load1 rfl (fun w h => h.cellAt (Loc.at_) rfl) | exact D.loadN rfl rfl (fun w h j u hu => by rw [at_add, Nat.zero_add]; exact h.cellAt (Loc.at_) hu) | exact D.loadP rfl rfl))) <;>
    (first | refine XL.skip0 rfl rfl rfl rfl ?_ | ((apply XL.det0 rfl rfl rfl rfl; exact D.move rfl))) <;>
    (first | refine XL.skip0 rfl rfl rfl rfl ?_ | (first | refine XL.skip0 rfl rfl rfl rfl ?_ | (apply XL.det0 rfl rfl rfl rfl; exact D.indexAddr k rfl rfl rfl hil (hcs.sm (by omega))))) <;>
    (first | refine XL.skip0 rfl rfl rfl rfl ?_ | ((apply XL.det0 rfl rfl rfl rfl; first | exact D.fieldAddrB0 rfl rfl | exact D.fieldAddrB rfl rfl | exact D.fieldAddrE0 rfl rfl | exact D.fieldAddrE rfl rfl))) <;>
    (first | refine XL.skip1 rfl rfl rfl rfl ?_ | (first | refine XL.skip1 rfl rfl rfl rfl ?_ | (apply XL.det1 rfl rfl rfl rfl; exact D.load1 rfl (fun w hw => (Rd.dS (hcs.conf0 hw) hx).2)))) <;>
    (first | refine XL.skip0 rfl rfl rfl rfl ?_ | (first | refine XL.cmpT0 rfl rfl rfl rfl (D.int rfl rfl rfl) (by omega) ?_ | refine XL.cmpF0 rfl rfl rfl rfl (D.int rfl rfl rfl) (by omega) ?_ | refine XL.split0 rfl rfl rfl rfl (D.int rfl rfl rfl) (fun _ => ?_) (fun _ => ?_))) <;>
    ((apply XL.det0 rfl rfl rfl rfl; first | exact D.pickT rfl rfl | exact D.pickF rfl rfl | exact D.pick rfl rfl rfl)) <;>
    ((apply XL.det0 rfl rfl rfl rfl; exact D.move rfl)) <;>
    (first | refine XL.skip0 rfl rfl rfl rfl ?_ | ((apply XL.det0 rfl rfl rfl rfl; first | exact D.fieldAddrB0 rfl rfl | exact D.fieldAddrB rfl rfl | exact D.fieldAddrE0 rfl rfl | exact D.fieldAddrE rfl rfl))) <;>
    (first | refine XL.skip1 rfl rfl rfl rfl ?_ | ((apply XL.det1 rfl rfl rfl rfl; first | exact D.load1 rfl (fun w h => h.cellAt (Loc.at_) rfl) | exact D.loadN rfl rfl (fun w h j u hu => by rw [at_add, Nat.zero_add]; exact h.cellAt (Loc.at_) hu) | exact D.loadP rfl rfl))) <;>
    (first | refine XL.skip0 rfl rfl rfl rfl ?_ | ((apply XL.det0 rfl rfl rfl rfl; exact D.move rfl))) <;>
    (first | refine XL.skip0 rfl rfl rfl rfl ?_ | (first | refine XL.skip0 rfl rfl rfl rfl ?_ | (apply XL.det0 rfl rfl rfl rfl; exact D.indexAddr k rfl rfl rfl hil (hcs.sm (by omega))))) <;>
    (first | refine XL.skip0 rfl rfl rfl rfl ?_ | ((apply XL.det0 rfl rfl rfl rfl; first | exact D.fieldAddrB0 rfl rfl | exact D.fieldAddrB rfl rfl | exact D.fieldAddrE0 rfl rfl | exact D.fieldAddrE rfl rfl))) <;>
    (first | refine XL.skip1 rfl rfl rfl rfl ?_ | (first | refine XL.skip1 rfl rfl rfl rfl ?_ | (apply XL.det1 rfl rfl rfl rfl; exact D.load1 rfl (fun w hw => (Rd.dS (hcs.conf0 hw) hx).1)))) <;>
    (first | refine XL.skip0 rfl rfl rfl rfl ?_ | ((apply XL.det0 rfl rfl rfl rfl; first | exact D.fieldAddrB0 rfl rfl | exact D.fieldAddrB rfl rfl | exact D.fieldAddrE0 rfl rfl | exact D.fieldAddrE rfl rfl))) <;>
    (first | refine XL.skip1 rfl rfl rfl rfl ?_ | ((apply XL.det1 rfl rfl rfl rfl; first | exact D.load1 rfl (fun w h => h.cellAt (Loc.at_) rfl) | exact D.loadN rfl rfl (fun w h j u hu => by rw [at_add, Nat.zero_add]; exact h.cellAt (Loc.at_) hu) | exact D.loadP rfl rfl))) <;>
    (first | refine XL.skip0 rfl rfl rfl rfl ?_ | ((apply XL.det0 rfl rfl rfl rfl; exact D.move rfl))) <;>
    (first | refine XL.skip0 rfl rfl rfl rfl ?_ | (first | refine XL.skip0 rfl rfl rfl rfl ?_ | (apply XL.det0 rfl rfl rfl rfl; exact D.indexAddr k rfl rfl rfl hil (hcs.sm (by omega))))) <;>
    (first | refine XL.skip0 rfl rfl rfl rfl ?_ | ((apply XL.det0 rfl rfl rfl rfl; first | exact D.fieldAddrB0 rfl rfl | exact D.fieldAddrB rfl rfl | exact D.fieldAddrE0 rfl rfl | exact D.fieldAddrE rfl rfl))) <;>
    (first | refine XL.skip1 rfl rfl rfl rfl ?_ | (first | refine XL.skip1 rfl rfl rfl rfl ?_ | (apply XL.det1 rfl rfl rfl rfl; exact D.load1 rfl (fun w hw => (Rd.dS (hcs.conf0 hw) hx).2)))) <;>
    (first | refine XL.skip0 rfl rfl rfl rfl ?_ | (first | refine XL.skip0 rfl rfl rfl rfl ?_ | (apply XL.det0 rfl rfl rfl rfl; exact D.int rfl rfl rfl))) <;>
    (first | refine XL.skip0 rfl rfl rfl rfl ?_ | (first | refine XL.cmpT0 rfl rfl rfl rfl (D.int rfl rfl rfl) (by omega) ?_ | refine XL.cmpF0 rfl rfl rfl rfl (D.int rfl rfl rfl) (by omega) ?_ | refine XL.split0 rfl rfl rfl rfl (D.int rfl rfl rfl) (fun _ => ?_) (fun _ => ?_))) <;>
    ((apply XL.det0 rfl rfl rfl rfl; first | exact D.pickT rfl rfl | exact D.pickF rfl rfl | exact D.pick rfl rfl rfl)) <;>
    (refine XL.nil ?_)) <;> (first | refine Ex.then ?_ | (refine N.next ?_ <;> ((
    refine X.cond rfl ?_ ?_; rotate_left; (focus (
    intro hc; first | exact absurd hc (by decide) | (cases hc; done) | (refine X.skip ?_))); rotate_right; (focus (
    intro hc; first | exact absurd hc (by decide) | (cases hc; done) | (refine X.seq ?_ <;> (refine X.text (L := (.op .fin 0 .nil)) rfl (by kernel_rfl) ?_ <;>
    ((apply XL.det0F rfl rfl rfl rfl; exact D.assign rfl)) <;>
    (refine XL.nil ?_)) <;> (first | refine Ex.then ?_ | (refine N.next ?_ <;> ((refine X.ret ?_; (repeat (first | refine Rt.then ?_ | refine Rt.block ?_ | refine Rt.scope ?_)); (first | apply Rt.done (Res.r1 Tryz.results12 (RV.tmp rfl)) | apply Rt.doneM (Res.r1 Tryz.results12 (RV.tmp rfl))); (focus (first | exact ⟨false, rfl, fun h => absurd h Bool.false_ne_true, rfl⟩ | exact ⟨true, rfl, fun _ => ⟨by omega, by omega, by omega⟩, rfl⟩)); exact fun w h => h.takes)))))))))))) <;> (first | refine N.block ?_ | refine Ex.here ?_ | refine Ex.out rfl ?_)) <;> (first | refine Ex.then ?_ | (refine N.next ?_ <;> (refine X.text (L := (.op .fin 0 (.op .fin 1 (.op .fin 2 .nil)))) rfl (by kernel_rfl) ?_ <;>
    ((apply XL.det0F rfl rfl rfl rfl; exact D.move rfl)) <;>
    ((apply XL.det0F rfl rfl rfl rfl; first | exact D.add64 rfl rfl (by omega) | exact D.int rfl rfl rfl)) <;>
    ((apply XL.det0F rfl rfl rfl rfl; exact D.assign rfl)) <;>
    (refine XL.nil ?_)))))))) <;> (first | refine Ex.then ?_ | ((refine N.again ((k + 1)) ?_ ?_ ?_ ?_; (focus (omega)); (focus (first | omega | (dsimp only; omega))); (focus (repeat (first | exact Sub.nil | refine Sub.cons rfl ?_))); exact (fun w h => h.takes))))) <;> (first | refine N.block ?_ | refine Ex.here ?_ | refine Ex.out rfl ?_))))) <;> (first | refine Ex.then ?_ | (refine N.next ?_ <;> (refine X.seq ?_ <;> (refine X.text (L := (.op .fin 0 .nil)) rfl (by kernel_rfl) ?_ <;>
    ((apply XL.det0F rfl rfl rfl rfl; exact D.assign rfl)) <;>
    (refine XL.nil ?_)) <;> (first | refine Ex.then ?_ | (refine N.next ?_ <;> ((refine X.ret ?_; (repeat (first | refine Rt.then ?_ | refine Rt.block ?_ | refine Rt.scope ?_)); (first | apply Rt.done (Res.r1 Tryz.results12 (RV.tmp rfl)) | apply Rt.doneM (Res.r1 Tryz.results12 (RV.tmp rfl))); (focus (first | exact ⟨false, rfl, fun h => absurd h Bool.false_ne_true, rfl⟩ | exact ⟨true, rfl, fun _ => ⟨by omega, by omega, by omega⟩, rfl⟩)); exact fun w h => h.takes)))))))))))))))))
theorem lPart_spec (a n q p : Int) (w : World) : Spec Tryz.prog 22 #[.int .i64 a, .int .i64 n, .agg #[.int .i64 q, .int .i64 p]] w (fun _ => False) (fun v A => v = vE4 ⟨a, n, q, p⟩ ∧ A = []) := by
  unfold vE4
  refine Spec.enter (args := [.int .i64 a, .int .i64 n, .agg #[.int .i64 q, .int .i64 p]]) (A := []) Tryz.func22 rfl Tryz.ntmps22 rfl (fun _ h => h) ?_
  (refine X.seq ?_ <;> (refine X.text (L := (.op .fin 0 (.op .fin 1 .nil))) rfl (by kernel_rfl) ?_ <;>
    (first | refine XL.boxN rfl rfl rfl rfl (by intro g; infer_instance) (fun g => ?_) | refine XL.box1 rfl rfl rfl rfl rfl (by intro g; infer_instance) (fun g => ?_)) <;>
    (refine XL.alloc rfl rfl rfl (by intro g; infer_instance) (fun g => ?_)) <;>
    (refine XL.nil ?_)) <;> (first | refine Ex.then ?_ | (refine N.next ?_ <;> (refine X.seq ?_ <;> (refine X.text (L := (.op .fin 0 (.op .fin 1 (.op .fin 2 (.op .fin 3 (.op .fin 4 (.op .fin 5 .nil))))))) rfl (by kernel_rfl) ?_ <;>
    ((apply XL.det0F rfl rfl rfl rfl; exact D.move rfl)) <;>
    ((apply XL.det0F rfl rfl rfl rfl; exact D.move rfl)) <;>
    ((apply XL.det0F rfl rfl rfl rfl; exact D.build rfl)) <;>
    ((apply XL.detF rfl rfl rfl rfl; first | exact D.load1 rfl (fun w h => h.cellAt (Loc.at_) rfl) | exact D.loadN rfl rfl (fun w h j u hu => by rw [at_add, Nat.zero_add]; exact h.cellAt (Loc.at_) hu) | exact D.loadP rfl rfl)) <;>
    ((apply XL.det0F rfl rfl rfl rfl; exact D.build rfl)) <;>
    (first | refine XL.store1 rfl rfl rfl rfl rfl ?_ | refine XL.storeN rfl rfl rfl rfl rfl rfl ?_ | refine XL.storeP rfl rfl rfl rfl rfl rfl ?_) <;>
    (refine XL.nil ?_)) <;> (first | refine Ex.then ?_ | (refine N.next ?_ <;> ((refine X.ret ?_; (repeat (first | refine Rt.then ?_ | refine Rt.block ?_ | refine Rt.scope ?_)); (first | apply Rt.done (Res.r1 Tryz.results22 (by first | exact RV.cell rfl rfl | exact RV.cell1 rfl)) | apply Rt.doneM (Res.r1 Tryz.results22 (by first | exact RV.cell rfl rfl | exact RV.cell1 rfl))); (focus (exact ⟨rfl, rfl⟩)); exact fun w h => h.takes))))))))
theorem lExt_spec (a n q p : Int) (w : World) : Spec Tryz.prog 27 #[.int .i64 a, .int .i64 n, .int .i64 q, .int .i64 p] w (fun _ => False) (fun v A => v = vE4 ⟨a, n, q, p⟩ ∧ A = []) := by
  unfold vE4
  refine Spec.enter (args := [.int .i64 a, .int .i64 n, .int .i64 q, .int .i64 p]) (A := []) Tryz.func27 rfl Tryz.ntmps27 rfl (fun _ h => h) ?_
  (refine X.seq ?_ <;> (refine X.text (L := (.op .fin 0 .nil)) rfl (by kernel_rfl) ?_ <;>
    (refine XL.alloc rfl rfl rfl (by intro g; infer_instance) (fun g => ?_)) <;>
    (refine XL.nil ?_)) <;> (first | refine Ex.then ?_ | (refine N.next ?_ <;> (refine X.seq ?_ <;> (refine X.text (L := (.op .fin 0 (.op .fin 1 (.op .fin 2 (.op .fin 3 (.op .fin 4 (.op .fin 5 (.op .fin 6 (.op .fin 7 .nil))))))))) rfl (by kernel_rfl) ?_ <;>
    ((apply XL.det0F rfl rfl rfl rfl; exact D.move rfl)) <;>
    ((apply XL.det0F rfl rfl rfl rfl; exact D.move rfl)) <;>
    ((apply XL.det0F rfl rfl rfl rfl; exact D.build rfl)) <;>
    ((apply XL.det0F rfl rfl rfl rfl; exact D.move rfl)) <;>
    ((apply XL.det0F rfl rfl rfl rfl; exact D.move rfl)) <;>
    ((apply XL.det0F rfl rfl rfl rfl; exact D.build rfl)) <;>
    ((apply XL.det0F rfl rfl rfl rfl; exact D.build rfl)) <;>
    (first | refine XL.store1 rfl rfl rfl rfl rfl ?_ | refine XL.storeN rfl rfl rfl rfl rfl rfl ?_ | refine XL.storeP rfl rfl rfl rfl rfl rfl ?_) <;>
    (refine XL.nil ?_)) <;> (first | refine Ex.then ?_ | (refine N.next ?_ <;> ((refine X.ret ?_; (repeat (first | refine Rt.then ?_ | refine Rt.block ?_ | refine Rt.scope ?_)); (first | apply Rt.done (Res.r1 Tryz.results27 (by first | exact RV.cell rfl rfl | exact RV.cell1 rfl)) | apply Rt.doneM (Res.r1 Tryz.results27 (by first | exact RV.cell rfl rfl | exact RV.cell1 rfl))); (focus (exact ⟨rfl, rfl⟩)); exact fun w h => h.takes))))))))
def o0 : Dob := ⟨0, 1, 3, 0, [⟨4, 1, 0, 0⟩, ⟨9, 2, 0, 0⟩], [], List.replicate 192 0⟩
theorem chk_o0 : chkD o0 = 0 := by
  have h1 : NumsD o0 := by unfold NumsD o0; simp
  have h2 : LaidP o0 := by
    refine ⟨by decide, by decide, fun i x hi hx => ?_, SetOK.nil _, fun t _ ⟨y, hy, _⟩ => by cases hy⟩
    have hi2 : i < 2 := hi
    rcases (by omega : i = 0 ∨ i = 1) with rfl | rfl
    · cases hx
      exact ⟨⟨by unfold mayS; decide, .inl ⟨rfl, rfl⟩⟩, fun y h => absurd h (by decide)⟩
    · cases hx
      exact ⟨⟨by unfold mayS; decide, .inl ⟨rfl, rfl⟩⟩, fun y _ hy => by cases hy; decide⟩
  refine chkD_of h1 h2 (by decide) ?_
  have e1 := (dobB_drop o0).1
  have e2 := headD_len o0
  have e3 : o0.d.length = 192 := List.length_replicate
  have e4 : o0.ps.length = 2 := rfl
  have e5 : o0.cs.length = 0 := rfl
  rw [e1, sealS_len]
  omega
end Go.Lx
