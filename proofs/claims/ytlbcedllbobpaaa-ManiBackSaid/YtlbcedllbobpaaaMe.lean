/- Which manifests may be: the document's answer. -/
import Derived.Test.YtlbcedllbobpaaaMd
namespace Go.Lx
open Go.Proofs
set_option linter.unusedVariables false
set_option linter.unusedSimpArgs false
set_option maxRecDepth 20000
set_option maxHeartbeats 4000000
theorem Rd.snapAt {w : World} {a : Option Addr} {n c m : Nat} {xs : List Sn3} {x : Sn3} (h : Rd w 3 a n c (encQ xs)) (hx : xs[m]? = some x) : w.cell? (el a (m * 3)) = some (.string ⟨x.n.toArray⟩) ∧ w.cell? (el a (m * 3 + 1)) = some (.int .i64 x.q) ∧ w.cell? (el a (m * 3 + 2)) = some (.int .i64 x.u) := by
  have h0 := Rd.snap h hx 0 _ rfl
  have h1 := Rd.snap h hx 1 _ rfl
  have h2 := Rd.snap h hx 2 _ rfl
  rw [el_add] at h0 h1 h2
  exact ⟨h0, h1, h2⟩
theorem lt_of_get' {α : Type} {l : List α} {k : Nat} {x : α} (h : l[k]? = some x) : k < l.length := (List.getElem?_eq_some_iff.1 h).1
theorem NamesTo.stepR {l : List Sn3} {i : Nat} {x : Sn3} (h : NamesTo l i) (hx : l[i]? = some x) (h1 : x.n ≠ []) (h2 : x.n.length ≤ 64) (h3 : ∀ y, 0 < i → l[i - 1]? = some y → Op.bytesLess y.n x.n = true) : NamesTo l (i + 1) := fun j u hj hu => by
  rcases Nat.lt_or_ge j i with hlt | hge
  · exact h j u hlt hu
  · obtain rfl : j = i := by omega
    rw [hx] at hu
    cases hu
    exact ⟨h1, h2, h3⟩
theorem refCheck_spec (m : Man) (a : Option Addr) (c : Nat) (w : World) (hl : Rd w 3 a m.sn.length c (encQ m.sn)) (hv9 : m.v.length ≤ 1000000000) (hb9 : m.b.length ≤ 1000000000) : Spec Try.prog 17 #[.agg #[.string ⟨List.toArray m.v⟩, .int .u64 ((m.k : Nat) : Int), .int .i64 m.s, .int .i64 m.z, .string ⟨List.toArray m.b⟩, .int .i64 m.bq, .slice a m.sn.length c]] w (fun _ => False) (fun v A => ∃ e : Int, v = .int .i64 e ∧ IsChkM m e ∧ A = []) := by
  have hb := hl.bd'
  refine Spec.enter (args := [.agg #[.string ⟨List.toArray m.v⟩, .int .u64 ((m.k : Nat) : Int), .int .i64 m.s, .int .i64 m.z, .string ⟨List.toArray m.b⟩, .int .i64 m.bq, .slice a m.sn.length c]]) (A := []) Try.func17 rfl Try.ntmps17 rfl (fun _ h => h) ?_
  (refine X.seq ?_ <;> (refine X.text (L := (.op .fin 0 (.op .fin 1 .nil))) rfl (by kernel_rfl) ?_ <;>
    (refine XL.boxN rfl rfl rfl rfl (by intro g; infer_instance) (fun g1 => ?_)) <;>
    ((apply XL.det0F rfl rfl rfl rfl; exact D.assign rfl)) <;>
    (refine XL.nil ?_)) <;> (first | refine Ex.then ?_ | (refine N.next ?_ <;> (refine X.seq ?_ <;> (refine X.seq ?_ <;> (refine X.text (L := (.op .fin 0 (.op .fin 1 (.op .fin 2 (.op .fin 3 (.op .fin 4 (.op .fin 5 (.op .fin 6 (.op .fin 7 (.op .fin 8 (.op .fin 9 (.op .fin 10 (.op .fin 11 (.op .fin 12 (.op .fin 13 (.op .fin 14 (.op .fin 15 (.op .fin 16 (.op .fin 17 (.op .fin 18 (.op .fin 19 (.op .fin 20 (.op .fin 21 (.op .fin 22 (.op .fin 23 (.op .fin 24 (.op .fin 25 (.op .fin 26 (.op .fin 27 (.op .fin 28 (.op .fin 29 (.op .fin 30 (.op .fin 31 (.op .fin 32 (.op .fin 33 (.op .fin 34 (.op .fin 35 (.op .fin 36 (.op .fin 37 .nil))))))))))))))))))))))))))))))))))))))) rfl (by kernel_rfl) ?_ <;>
    ((apply XL.det0F rfl rfl rfl rfl; first | exact D.fieldAddrB0 rfl rfl | exact D.fieldAddrB rfl rfl | exact D.fieldAddrE0 rfl rfl | exact D.fieldAddrE rfl rfl)) <;>
    ((apply XL.detF rfl rfl rfl rfl; first | exact D.load1 rfl (fun w h => h.cellAt (Loc.at_) rfl) | exact D.loadN rfl rfl (fun w h j u hu => by rw [at_add, Nat.zero_add]; exact h.cellAt (Loc.at_) hu) | exact D.loadP rfl rfl)) <;>
    ((refine XL.call rfl rfl rfl rfl (fun w hw => refVolume_spec m.v hv9 w) ?_; rintro v B' ⟨rfl, rfl⟩; refine XL.both ?_); (by_cases hv : VolOK m.v <;> first | rw [decide_eq_true hv] | rw [decide_eq_false hv])) <;>
    ((apply XL.det0F rfl rfl rfl rfl; exact D.not rfl)) <;>
    ((apply XL.det0F rfl rfl rfl rfl; exact D.move rfl)) <;>
    (first | refine XL.skipF rfl rfl rfl rfl ?_ | ((apply XL.det0F rfl rfl rfl rfl; first | exact D.fieldAddrB0 rfl rfl | exact D.fieldAddrB rfl rfl | exact D.fieldAddrE0 rfl rfl | exact D.fieldAddrE rfl rfl))) <;>
    (first | refine XL.skipF rfl rfl rfl rfl ?_ | ((apply XL.detF rfl rfl rfl rfl; first | exact D.load1 rfl (fun w h => h.cellAt (Loc.at_) rfl) | exact D.loadN rfl rfl (fun w h j u hu => by rw [at_add, Nat.zero_add]; exact h.cellAt (Loc.at_) hu) | exact D.loadP rfl rfl))) <;>
    (first | refine XL.skipF rfl rfl rfl rfl ?_ | (first | refine XL.skipF rfl rfl rfl rfl ?_ | refine XL.splitF rfl rfl rfl rfl (D.strEq (m := []) rfl rfl) (fun h0 => ?_) (fun h0 => ?_))) <;>
    (first | refine XL.skipF rfl rfl rfl rfl ?_ | ((apply XL.det0F rfl rfl rfl rfl; exact D.move rfl))) <;>
    (first | refine XL.skipF rfl rfl rfl rfl ?_ | ((apply XL.det0F rfl rfl rfl rfl; first | exact D.fieldAddrB0 rfl rfl | exact D.fieldAddrB rfl rfl | exact D.fieldAddrE0 rfl rfl | exact D.fieldAddrE rfl rfl))) <;>
    (first | refine XL.skipF rfl rfl rfl rfl ?_ | ((apply XL.detF rfl rfl rfl rfl; first | exact D.load1 rfl (fun w h => h.cellAt (Loc.at_) rfl) | exact D.loadN rfl rfl (fun w h j u hu => by rw [at_add, Nat.zero_add]; exact h.cellAt (Loc.at_) hu) | exact D.loadP rfl rfl))) <;>
    (first | refine XL.skipF rfl rfl rfl rfl ?_ | (first | refine XL.skipF rfl rfl rfl rfl ?_ | refine XL.splitF rfl rfl rfl rfl (D.int rfl rfl rfl) (fun h1 => ?_) (fun h1 => ?_))) <;>
    (first | refine XL.skipF rfl rfl rfl rfl ?_ | ((apply XL.det0F rfl rfl rfl rfl; first | exact D.pickT rfl rfl | exact D.pickF rfl rfl | exact D.pick rfl rfl rfl))) <;>
    ((apply XL.det0F rfl rfl rfl rfl; first | exact D.pickT rfl rfl | exact D.pickF rfl rfl | exact D.pick rfl rfl rfl)) <;>
    ((apply XL.det0F rfl rfl rfl rfl; exact D.move rfl)) <;>
    (first | refine XL.skipF rfl rfl rfl rfl ?_ | ((apply XL.det0F rfl rfl rfl rfl; first | exact D.fieldAddrB0 rfl rfl | exact D.fieldAddrB rfl rfl | exact D.fieldAddrE0 rfl rfl | exact D.fieldAddrE rfl rfl))) <;>
    (first | refine XL.skipF rfl rfl rfl rfl ?_ | ((apply XL.detF rfl rfl rfl rfl; first | exact D.load1 rfl (fun w h => h.cellAt (Loc.at_) rfl) | exact D.loadN rfl rfl (fun w h j u hu => by rw [at_add, Nat.zero_add]; exact h.cellAt (Loc.at_) hu) | exact D.loadP rfl rfl))) <;>
    (first | refine XL.skipF rfl rfl rfl rfl ?_ | (first | refine XL.skipF rfl rfl rfl rfl ?_ | refine XL.splitF rfl rfl rfl rfl (D.strNe (m := []) rfl rfl) (fun h2 => ?_) (fun h2 => ?_))) <;>
    (first | refine XL.skipF rfl rfl rfl rfl ?_ | ((apply XL.det0F rfl rfl rfl rfl; exact D.move rfl))) <;>
    (first | refine XL.skipF rfl rfl rfl rfl ?_ | ((apply XL.det0F rfl rfl rfl rfl; first | exact D.fieldAddrB0 rfl rfl | exact D.fieldAddrB rfl rfl | exact D.fieldAddrE0 rfl rfl | exact D.fieldAddrE rfl rfl))) <;>
    (first | refine XL.skipF rfl rfl rfl rfl ?_ | ((apply XL.detF rfl rfl rfl rfl; first | exact D.load1 rfl (fun w h => h.cellAt (Loc.at_) rfl) | exact D.loadN rfl rfl (fun w h j u hu => by rw [at_add, Nat.zero_add]; exact h.cellAt (Loc.at_) hu) | exact D.loadP rfl rfl))) <;>
    (first | refine XL.skipF rfl rfl rfl rfl ?_ | (first | refine XL.skipF rfl rfl rfl rfl ?_ | ((refine XL.call rfl rfl rfl rfl (fun w hw => refVolume_spec m.b hb9 w) ?_; rintro v B' ⟨rfl, rfl⟩; refine XL.both ?_); (by_cases h3 : VolOK m.b <;> first | rw [decide_eq_true h3] | rw [decide_eq_false h3])))) <;>
    (first | refine XL.skipF rfl rfl rfl rfl ?_ | ((apply XL.det0F rfl rfl rfl rfl; exact D.not rfl))) <;>
    (first | refine XL.skipF rfl rfl rfl rfl ?_ | ((apply XL.det0F rfl rfl rfl rfl; exact D.move rfl))) <;>
    (first | refine XL.skipF rfl rfl rfl rfl ?_ | ((apply XL.det0F rfl rfl rfl rfl; first | exact D.fieldAddrB0 rfl rfl | exact D.fieldAddrB rfl rfl | exact D.fieldAddrE0 rfl rfl | exact D.fieldAddrE rfl rfl))) <;>
    (first | refine XL.skipF rfl rfl rfl rfl ?_ | ((apply XL.detF rfl rfl rfl rfl; first | exact D.load1 rfl (fun w h => h.cellAt (Loc.at_) rfl) | exact D.loadN rfl rfl (fun w h j u hu => by rw [at_add, Nat.zero_add]; exact h.cellAt (Loc.at_) hu) | exact D.loadP rfl rfl))) <;>
    (first | refine XL.skipF rfl rfl rfl rfl ?_ | ((apply XL.det0F rfl rfl rfl rfl; first | exact D.fieldAddrB0 rfl rfl | exact D.fieldAddrB rfl rfl | exact D.fieldAddrE0 rfl rfl | exact D.fieldAddrE rfl rfl))) <;>
    (first | refine XL.skipF rfl rfl rfl rfl ?_ | ((apply XL.detF rfl rfl rfl rfl; first | exact D.load1 rfl (fun w h => h.cellAt (Loc.at_) rfl) | exact D.loadN rfl rfl (fun w h j u hu => by rw [at_add, Nat.zero_add]; exact h.cellAt (Loc.at_) hu) | exact D.loadP rfl rfl))) <;>
    (first | refine XL.skipF rfl rfl rfl rfl ?_ | (first | refine XL.skipF rfl rfl rfl rfl ?_ | refine XL.splitF rfl rfl rfl rfl (D.strEq rfl rfl) (fun h4 => ?_) (fun h4 => ?_))) <;>
    (first | refine XL.skipF rfl rfl rfl rfl ?_ | ((apply XL.det0F rfl rfl rfl rfl; first | exact D.pickT rfl rfl | exact D.pickF rfl rfl | exact D.pick rfl rfl rfl))) <;>
    (first | refine XL.skipF rfl rfl rfl rfl ?_ | ((apply XL.det0F rfl rfl rfl rfl; exact D.move rfl))) <;>
    (first | refine XL.skipF rfl rfl rfl rfl ?_ | ((apply XL.det0F rfl rfl rfl rfl; first | exact D.fieldAddrB0 rfl rfl | exact D.fieldAddrB rfl rfl | exact D.fieldAddrE0 rfl rfl | exact D.fieldAddrE rfl rfl))) <;>
    (first | refine XL.skipF rfl rfl rfl rfl ?_ | ((apply XL.detF rfl rfl rfl rfl; first | exact D.load1 rfl (fun w h => h.cellAt (Loc.at_) rfl) | exact D.loadN rfl rfl (fun w h j u hu => by rw [at_add, Nat.zero_add]; exact h.cellAt (Loc.at_) hu) | exact D.loadP rfl rfl))) <;>
    (first | refine XL.skipF rfl rfl rfl rfl ?_ | (first | refine XL.skipF rfl rfl rfl rfl ?_ | ((refine XL.call rfl rfl rfl rfl (fun w hw => rNumber_spec m.bq w) ?_; rintro v B' ⟨rfl, rfl⟩; refine XL.both ?_); (by_cases h5 : nmS m.bq <;> first | rw [decide_eq_true h5] | rw [decide_eq_false h5])))) <;>
    (first | refine XL.skipF rfl rfl rfl rfl ?_ | ((apply XL.det0F rfl rfl rfl rfl; exact D.not rfl))) <;>
    (first | refine XL.skipF rfl rfl rfl rfl ?_ | ((apply XL.det0F rfl rfl rfl rfl; first | exact D.pickT rfl rfl | exact D.pickF rfl rfl | exact D.pick rfl rfl rfl))) <;>
    (first | refine XL.skipF rfl rfl rfl rfl ?_ | ((apply XL.det0F rfl rfl rfl rfl; first | exact D.pickT rfl rfl | exact D.pickF rfl rfl | exact D.pick rfl rfl rfl))) <;>
    ((apply XL.det0F rfl rfl rfl rfl; first | exact D.pickT rfl rfl | exact D.pickF rfl rfl | exact D.pick rfl rfl rfl)) <;>
    (refine XL.nil ?_)) <;> (first | refine Ex.then ?_ | (refine N.next ?_ <;> ((
    refine X.cond rfl ?_ ?_; rotate_left; (focus (
    intro hc; first | exact absurd hc (by decide) | (cases hc; done) | (refine X.skip ?_))); rotate_right; (focus (
    intro hc; first | exact absurd hc (by decide) | (cases hc; done) | (refine X.seq ?_ <;> (refine X.text (L := (.op .fin 0 .nil)) rfl (by kernel_rfl) ?_ <;>
    ((apply XL.det0F rfl rfl rfl rfl; exact D.assign rfl)) <;>
    (refine XL.nil ?_)) <;> (first | refine Ex.then ?_ | (refine N.next ?_ <;> ((refine X.ret ?_; (repeat (first | refine Rt.then ?_ | refine Rt.block ?_ | refine Rt.scope ?_)); (first | apply Rt.done (Res.r1 Try.results17 (RV.tmp rfl)) | apply Rt.doneM (Res.r1 Try.results17 (RV.tmp rfl))); (focus (first | exact ⟨0, rfl, .inr ⟨⟨hv, hbs, hnm⟩, .inr ⟨⟨hs, by omega, by omega, hnu⟩, .inr ⟨by omega, rfl⟩⟩⟩, rfl⟩ | exact ⟨32, rfl, .inr ⟨⟨hv, hbs, hnm⟩, .inr ⟨⟨hs, by omega, by omega, hnu⟩, .inl ⟨by omega, rfl⟩⟩⟩, rfl⟩ | exact ⟨31, rfl, .inr ⟨⟨hv, hbs, hnm⟩, .inl ⟨fun ⟨u1, u2, u3, u4⟩ => by first | exact hs u1 | omega | exact h14 (u4 _ _ hil hx).1 | exact h15 (u4 _ _ hil hx).2, rfl⟩⟩, rfl⟩ | exact ⟨1, rfl, .inl ⟨.inl hv, rfl⟩, rfl⟩ | exact ⟨1, rfl, .inl ⟨.inr (.inr fun hk => by have hh := hk i x hil hx; first | exact hh.1 h7 | (have := hh.2.1; omega) | exact h10 (hh.2.2 y (by omega) hy)), rfl⟩, rfl⟩ | exact ⟨1, rfl, .inl ⟨.inr (.inl fun hk => by rcases hk with ⟨u1, u2⟩ | ⟨u1, u2, u3⟩ <;> first | exact h0 u1 | exact h2 u1 | exact h1 u2 | exact h3 u1 | exact u2 h4 | exact h5 u3 | (have u4 := u1.2.1; rw [h0] at u4; simp at u4; done) | exact h2 h0), rfl⟩, rfl⟩)); exact fun w h => h.takes)))))))))))) <;> (first | refine Ex.then ?_ | (refine N.next ?_ <;> (refine X.seq ?_ <;> (refine X.seq ?_ <;> (refine X.text (L := (.op .fin 0 .nil)) rfl (by kernel_rfl) ?_ <;>
    (first | exact absurd h0 h2 | exact absurd h2 h0 | (have hbs : BaseOK m.v m.b m.bq := (by first | exact .inl ⟨h0, by omega⟩ | exact .inr ⟨h3, h4, h5⟩); (apply XL.det0F rfl rfl rfl rfl; exact D.assign rfl))) <;>
    (refine XL.nil ?_)) <;> (first | refine Ex.then ?_ | (refine N.next ?_ <;> (refine X.block ?_ <;> ((refine X.loop (ι := Nat) (fun i => [(1, .pointer (some ⟨g1, 0, none⟩)), (3, .int .i64 i)]) (fun _ => [cells g1 [.string ⟨List.toArray m.v⟩, .int .u64 ((m.k : Nat) : Int), .int .i64 m.s, .int .i64 m.z, .string ⟨List.toArray m.b⟩, .int .i64 m.bq, .slice a m.sn.length c] 35]) (fun i => i ≤ m.sn.length ∧ NamesTo m.sn i) (fun i => m.sn.length - i) (0) ?_ ?_ ?_ ?_; (focus (exact ⟨Nat.zero_le _, NamesTo.zero _⟩)); (focus (repeat (first | exact Sub.nil | refine Sub.cons rfl ?_))); (focus (exact (fun w h => h.takes))); rintro i ⟨hi, hnm⟩) <;> (refine X.seq ?_ <;> (refine X.seq ?_ <;> (refine X.text (L := (.op .fin 0 (.op .fin 1 (.op .fin 2 (.op .fin 3 (.op .fin 4 .nil)))))) rfl (by kernel_rfl) ?_ <;>
    ((apply XL.det0F rfl rfl rfl rfl; exact D.move rfl)) <;>
    ((apply XL.det0F rfl rfl rfl rfl; first | exact D.fieldAddrB0 rfl rfl | exact D.fieldAddrB rfl rfl | exact D.fieldAddrE0 rfl rfl | exact D.fieldAddrE rfl rfl)) <;>
    ((apply XL.detF rfl rfl rfl rfl; first | exact D.load1 rfl (fun w h => h.cellAt (Loc.at_) rfl) | exact D.loadN rfl rfl (fun w h j u hu => by rw [at_add, Nat.zero_add]; exact h.cellAt (Loc.at_) hu) | exact D.loadP rfl rfl)) <;>
    ((apply XL.det0F rfl rfl rfl rfl; first | exact D.len rfl | exact D.lenL rfl | exact D.lenS rfl)) <;>
    (refine XL.splitF rfl rfl rfl rfl (D.int rfl rfl rfl) (fun h6 => ?_) (fun h6 => ?_)) <;>
    (refine XL.nil ?_)) <;> (first | refine Ex.then ?_ | (refine N.next ?_ <;> ((
    refine X.cond rfl ?_ ?_; rotate_left; (focus (
    intro hc; first | exact absurd hc (by decide) | (cases hc; done) | (refine X.exit ?_))); rotate_right; (focus (
    intro hc; first | exact absurd hc (by decide) | (cases hc; done) | (refine X.skip ?_)))))))) <;> (first | refine Ex.then ?_ | (refine N.next ?_ <;> (refine X.seq ?_ <;> (refine X.block ?_ <;> (refine X.seq ?_ <;> (refine X.text (L := (.op .fin 0 (.op .fin 1 (.op .fin 2 (.op .fin 3 (.op .fin 4 (.op .fin 5 (.op .fin 6 .nil)))))))) rfl (by kernel_rfl) ?_ <;>
    ((apply XL.det0F rfl rfl rfl rfl; first | exact D.fieldAddrB0 rfl rfl | exact D.fieldAddrB rfl rfl | exact D.fieldAddrE0 rfl rfl | exact D.fieldAddrE rfl rfl)) <;>
    ((apply XL.detF rfl rfl rfl rfl; first | exact D.load1 rfl (fun w h => h.cellAt (Loc.at_) rfl) | exact D.loadN rfl rfl (fun w h j u hu => by rw [at_add, Nat.zero_add]; exact h.cellAt (Loc.at_) hu) | exact D.loadP rfl rfl)) <;>
    ((apply XL.det0F rfl rfl rfl rfl; exact D.move rfl)) <;>
    (have hil : i < m.sn.length := (by omega); obtain ⟨x, hx⟩ := get_lt' hil; (apply XL.det0F rfl rfl rfl rfl; exact D.indexAddr i rfl rfl rfl hil (hl.sm (by omega)))) <;>
    ((apply XL.det0F rfl rfl rfl rfl; first | exact D.fieldAddrB0 rfl rfl | exact D.fieldAddrB rfl rfl | exact D.fieldAddrE0 rfl rfl | exact D.fieldAddrE rfl rfl)) <;>
    ((apply XL.detF rfl rfl rfl rfl; exact D.load1 rfl (fun w hw => (Rd.snapAt (hl.conf0 hw) hx).1))) <;>
    ((apply XL.det0F rfl rfl rfl rfl; exact D.assign rfl)) <;>
    (refine XL.nil ?_)) <;> (first | refine Ex.then ?_ | (refine N.next ?_ <;> (refine X.seq ?_ <;> (refine X.text (L := (.op .fin 0 (.op .fin 1 (.op .fin 2 (.op .fin 3 (.op .fin 4 (.op .fin 5 (.op .fin 6 (.op .fin 7 (.op .fin 8 (.op .fin 9 (.op .fin 10 (.op .fin 11 (.op .fin 12 (.op .fin 13 (.op .fin 14 (.op .fin 15 (.op .fin 16 (.op .fin 17 (.op .fin 18 (.op .fin 19 (.op .fin 20 (.op .fin 21 .nil))))))))))))))))))))))) rfl (by kernel_rfl) ?_ <;>
    ((apply XL.det0F rfl rfl rfl rfl; exact D.move rfl)) <;>
    (refine XL.splitF rfl rfl rfl rfl (D.strEq (m := []) rfl rfl) (fun h7 => ?_) (fun h7 => ?_)) <;>
    ((apply XL.det0F rfl rfl rfl rfl; exact D.move rfl)) <;>
    (first | refine XL.skipF rfl rfl rfl rfl ?_ | ((apply XL.det0F rfl rfl rfl rfl; exact D.move rfl))) <;>
    (first | refine XL.skipF rfl rfl rfl rfl ?_ | ((apply XL.det0F rfl rfl rfl rfl; first | exact D.len rfl | exact D.lenL rfl | exact D.lenS rfl))) <;>
    (first | refine XL.skipF rfl rfl rfl rfl ?_ | (first | refine XL.skipF rfl rfl rfl rfl ?_ | refine XL.splitF rfl rfl rfl rfl (D.int rfl rfl rfl) (fun h8 => ?_) (fun h8 => ?_))) <;>
    ((apply XL.det0F rfl rfl rfl rfl; first | exact D.pickT rfl rfl | exact D.pickF rfl rfl | exact D.pick rfl rfl rfl)) <;>
    ((apply XL.det0F rfl rfl rfl rfl; exact D.move rfl)) <;>
    (first | refine XL.skipF rfl rfl rfl rfl ?_ | ((apply XL.det0F rfl rfl rfl rfl; exact D.move rfl))) <;>
    (first | refine XL.skipF rfl rfl rfl rfl ?_ | (first | refine XL.skipF rfl rfl rfl rfl ?_ | refine XL.splitF rfl rfl rfl rfl (D.int rfl rfl rfl) (fun h9 => ?_) (fun h9 => ?_))) <;>
    (first | refine XL.skipF rfl rfl rfl rfl ?_ | ((apply XL.det0F rfl rfl rfl rfl; exact D.move rfl))) <;>
    (first | refine XL.skipF rfl rfl rfl rfl ?_ | ((apply XL.det0F rfl rfl rfl rfl; first | exact D.fieldAddrB0 rfl rfl | exact D.fieldAddrB rfl rfl | exact D.fieldAddrE0 rfl rfl | exact D.fieldAddrE rfl rfl))) <;>
    (first | refine XL.skipF rfl rfl rfl rfl ?_ | ((apply XL.detF rfl rfl rfl rfl; first | exact D.load1 rfl (fun w h => h.cellAt (Loc.at_) rfl) | exact D.loadN rfl rfl (fun w h j u hu => by rw [at_add, Nat.zero_add]; exact h.cellAt (Loc.at_) hu) | exact D.loadP rfl rfl))) <;>
    (first | refine XL.skipF rfl rfl rfl rfl ?_ | ((apply XL.det0F rfl rfl rfl rfl; exact D.move rfl))) <;>
    (first | refine XL.skipF rfl rfl rfl rfl ?_ | ((apply XL.det0F rfl rfl rfl rfl; first | exact D.sub64 rfl rfl (by omega) | exact D.int rfl rfl rfl))) <;>
    (first | refine XL.skipF rfl rfl rfl rfl ?_ | (first | refine XL.skipF rfl rfl rfl rfl ?_ | (obtain ⟨y, hy⟩ := get_lt' (l := m.sn) (k := i - 1) (by omega); (apply XL.det0F rfl rfl rfl rfl; exact D.indexAddr (i - 1) rfl rfl (by omega) (by omega) (hl.sm (by omega)))))) <;>
    (first | refine XL.skipF rfl rfl rfl rfl ?_ | ((apply XL.det0F rfl rfl rfl rfl; first | exact D.fieldAddrB0 rfl rfl | exact D.fieldAddrB rfl rfl | exact D.fieldAddrE0 rfl rfl | exact D.fieldAddrE rfl rfl))) <;>
    (first | refine XL.skipF rfl rfl rfl rfl ?_ | (first | refine XL.skipF rfl rfl rfl rfl ?_ | (apply XL.detF rfl rfl rfl rfl; exact D.load1 rfl (fun w hw => (Rd.snapAt (hl.conf0 hw) hy).1)))) <;>
    (first | refine XL.skipF rfl rfl rfl rfl ?_ | ((apply XL.det0F rfl rfl rfl rfl; exact D.move rfl))) <;>
    (first | refine XL.skipF rfl rfl rfl rfl ?_ | (first | refine XL.skipF rfl rfl rfl rfl ?_ | refine XL.splitF rfl rfl rfl rfl (D.strGe rfl rfl) (fun h10 => ?_) (fun h10 => ?_))) <;>
    (first | refine XL.skipF rfl rfl rfl rfl ?_ | ((apply XL.det0F rfl rfl rfl rfl; first | exact D.pickT rfl rfl | exact D.pickF rfl rfl | exact D.pick rfl rfl rfl))) <;>
    ((apply XL.det0F rfl rfl rfl rfl; first | exact D.pickT rfl rfl | exact D.pickF rfl rfl | exact D.pick rfl rfl rfl)) <;>
    (refine XL.nil ?_)) <;> (first | refine Ex.then ?_ | (refine N.next ?_ <;> ((
    refine X.cond rfl ?_ ?_; rotate_left; (focus (
    intro hc; first | exact absurd hc (by decide) | (cases hc; done) | (refine X.skip ?_))); rotate_right; (focus (
    intro hc; first | exact absurd hc (by decide) | (cases hc; done) | (refine X.seq ?_ <;> (refine X.text (L := (.op .fin 0 .nil)) rfl (by kernel_rfl) ?_ <;>
    ((apply XL.det0F rfl rfl rfl rfl; exact D.assign rfl)) <;>
    (refine XL.nil ?_)) <;> (first | refine Ex.then ?_ | (refine N.next ?_ <;> ((refine X.ret ?_; (repeat (first | refine Rt.then ?_ | refine Rt.block ?_ | refine Rt.scope ?_)); (first | apply Rt.done (Res.r1 Try.results17 (RV.tmp rfl)) | apply Rt.doneM (Res.r1 Try.results17 (RV.tmp rfl))); (focus (first | exact ⟨0, rfl, .inr ⟨⟨hv, hbs, hnm⟩, .inr ⟨⟨hs, by omega, by omega, hnu⟩, .inr ⟨by omega, rfl⟩⟩⟩, rfl⟩ | exact ⟨32, rfl, .inr ⟨⟨hv, hbs, hnm⟩, .inr ⟨⟨hs, by omega, by omega, hnu⟩, .inl ⟨by omega, rfl⟩⟩⟩, rfl⟩ | exact ⟨31, rfl, .inr ⟨⟨hv, hbs, hnm⟩, .inl ⟨fun ⟨u1, u2, u3, u4⟩ => by first | exact hs u1 | omega | exact h14 (u4 _ _ hil hx).1 | exact h15 (u4 _ _ hil hx).2, rfl⟩⟩, rfl⟩ | exact ⟨1, rfl, .inl ⟨.inl hv, rfl⟩, rfl⟩ | exact ⟨1, rfl, .inl ⟨.inr (.inr fun hk => by have hh := hk i x hil hx; first | exact hh.1 h7 | (have := hh.2.1; omega) | exact h10 (hh.2.2 y (by omega) hy)), rfl⟩, rfl⟩ | exact ⟨1, rfl, .inl ⟨.inr (.inl fun hk => by rcases hk with ⟨u1, u2⟩ | ⟨u1, u2, u3⟩ <;> first | exact h0 u1 | exact h2 u1 | exact h1 u2 | exact h3 u1 | exact u2 h4 | exact h5 u3 | (have u4 := u1.2.1; rw [h0] at u4; simp at u4; done) | exact h2 h0), rfl⟩, rfl⟩)); exact fun w h => h.takes))))))))))))))) <;> (first | refine N.block ?_ | refine Ex.here ?_ | refine Ex.out rfl ?_)) <;> (first | refine Ex.then ?_ | (refine N.next ?_ <;> (refine X.text (L := (.op .fin 0 (.op .fin 1 (.op .fin 2 .nil)))) rfl (by kernel_rfl) ?_ <;>
    ((apply XL.det0F rfl rfl rfl rfl; exact D.move rfl)) <;>
    ((apply XL.det0F rfl rfl rfl rfl; first | exact D.add64 rfl rfl (by omega) | exact D.int rfl rfl rfl)) <;>
    ((apply XL.det0F rfl rfl rfl rfl; exact D.assign rfl)) <;>
    (refine XL.nil ?_)))))))) <;> (first | refine Ex.then ?_ | ((refine N.again ((i + 1)) ?_ ?_ ?_ ?_; (focus (exact ⟨by omega, hnm.stepR hx h7 (by omega) (fun y' hp hy' => by first | omega | (rw [hy] at hy'; cases hy'; exact Decidable.not_not.1 h10))⟩)); (focus (first | omega | (dsimp only; omega))); (focus (repeat (first | exact Sub.nil | refine Sub.cons rfl ?_))); exact (fun w h => h.takes))))) <;> (first | refine N.block ?_ | refine Ex.here ?_ | refine Ex.out rfl ?_))))) <;> (first | refine Ex.then ?_ | (refine N.next ?_ <;> (refine X.seq ?_ <;> (refine X.seq ?_ <;> (refine X.text (L := (.op .fin 0 (.op .fin 1 (.op .fin 2 (.op .fin 3 (.op .fin 4 (.op .fin 5 (.op .fin 6 (.op .fin 7 (.op .fin 8 (.op .fin 9 (.op .fin 10 (.op .fin 11 (.op .fin 12 (.op .fin 13 .nil))))))))))))))) rfl (by kernel_rfl) ?_ <;>
    ((apply XL.det0F rfl rfl rfl rfl; first | exact D.fieldAddrB0 rfl rfl | exact D.fieldAddrB rfl rfl | exact D.fieldAddrE0 rfl rfl | exact D.fieldAddrE rfl rfl)) <;>
    ((apply XL.detF rfl rfl rfl rfl; first | exact D.load1 rfl (fun w h => h.cellAt (Loc.at_) rfl) | exact D.loadN rfl rfl (fun w h j u hu => by rw [at_add, Nat.zero_add]; exact h.cellAt (Loc.at_) hu) | exact D.loadP rfl rfl)) <;>
    ((obtain rfl : i = m.sn.length := (by omega)); (refine XL.call rfl rfl rfl rfl (fun w hw => rNumber_spec m.s w) ?_; rintro v B' ⟨rfl, rfl⟩; refine XL.both ?_); (by_cases hs : nmS m.s <;> first | rw [decide_eq_true hs] | rw [decide_eq_false hs])) <;>
    ((apply XL.det0F rfl rfl rfl rfl; exact D.not rfl)) <;>
    ((apply XL.det0F rfl rfl rfl rfl; exact D.move rfl)) <;>
    (first | refine XL.skipF rfl rfl rfl rfl ?_ | ((apply XL.det0F rfl rfl rfl rfl; first | exact D.fieldAddrB0 rfl rfl | exact D.fieldAddrB rfl rfl | exact D.fieldAddrE0 rfl rfl | exact D.fieldAddrE rfl rfl))) <;>
    (first | refine XL.skipF rfl rfl rfl rfl ?_ | ((apply XL.detF rfl rfl rfl rfl; first | exact D.load1 rfl (fun w h => h.cellAt (Loc.at_) rfl) | exact D.loadN rfl rfl (fun w h j u hu => by rw [at_add, Nat.zero_add]; exact h.cellAt (Loc.at_) hu) | exact D.loadP rfl rfl))) <;>
    (first | refine XL.skipF rfl rfl rfl rfl ?_ | (first | refine XL.skipF rfl rfl rfl rfl ?_ | refine XL.splitF rfl rfl rfl rfl (D.int rfl rfl rfl) (fun h11 => ?_) (fun h11 => ?_))) <;>
    ((apply XL.det0F rfl rfl rfl rfl; first | exact D.pickT rfl rfl | exact D.pickF rfl rfl | exact D.pick rfl rfl rfl)) <;>
    ((apply XL.det0F rfl rfl rfl rfl; exact D.move rfl)) <;>
    (first | refine XL.skipF rfl rfl rfl rfl ?_ | ((apply XL.det0F rfl rfl rfl rfl; first | exact D.fieldAddrB0 rfl rfl | exact D.fieldAddrB rfl rfl | exact D.fieldAddrE0 rfl rfl | exact D.fieldAddrE rfl rfl))) <;>
    (first | refine XL.skipF rfl rfl rfl rfl ?_ | ((apply XL.detF rfl rfl rfl rfl; first | exact D.load1 rfl (fun w h => h.cellAt (Loc.at_) rfl) | exact D.loadN rfl rfl (fun w h j u hu => by rw [at_add, Nat.zero_add]; exact h.cellAt (Loc.at_) hu) | exact D.loadP rfl rfl))) <;>
    (first | refine XL.skipF rfl rfl rfl rfl ?_ | (first | refine XL.skipF rfl rfl rfl rfl ?_ | refine XL.splitF rfl rfl rfl rfl (D.int rfl rfl rfl) (fun h12 => ?_) (fun h12 => ?_))) <;>
    ((apply XL.det0F rfl rfl rfl rfl; first | exact D.pickT rfl rfl | exact D.pickF rfl rfl | exact D.pick rfl rfl rfl)) <;>
    (refine XL.nil ?_)) <;> (first | refine Ex.then ?_ | (refine N.next ?_ <;> ((
    refine X.cond rfl ?_ ?_; rotate_left; (focus (
    intro hc; first | exact absurd hc (by decide) | (cases hc; done) | (refine X.skip ?_))); rotate_right; (focus (
    intro hc; first | exact absurd hc (by decide) | (cases hc; done) | (refine X.seq ?_ <;> (refine X.text (L := (.op .fin 0 .nil)) rfl (by kernel_rfl) ?_ <;>
    ((apply XL.det0F rfl rfl rfl rfl; exact D.assign rfl)) <;>
    (refine XL.nil ?_)) <;> (first | refine Ex.then ?_ | (refine N.next ?_ <;> ((refine X.ret ?_; (repeat (first | refine Rt.then ?_ | refine Rt.block ?_ | refine Rt.scope ?_)); (first | apply Rt.done (Res.r1 Try.results17 (RV.tmp rfl)) | apply Rt.doneM (Res.r1 Try.results17 (RV.tmp rfl))); (focus (first | exact ⟨0, rfl, .inr ⟨⟨hv, hbs, hnm⟩, .inr ⟨⟨hs, by omega, by omega, hnu⟩, .inr ⟨by omega, rfl⟩⟩⟩, rfl⟩ | exact ⟨32, rfl, .inr ⟨⟨hv, hbs, hnm⟩, .inr ⟨⟨hs, by omega, by omega, hnu⟩, .inl ⟨by omega, rfl⟩⟩⟩, rfl⟩ | exact ⟨31, rfl, .inr ⟨⟨hv, hbs, hnm⟩, .inl ⟨fun ⟨u1, u2, u3, u4⟩ => by first | exact hs u1 | omega | exact h14 (u4 _ _ hil hx).1 | exact h15 (u4 _ _ hil hx).2, rfl⟩⟩, rfl⟩ | exact ⟨1, rfl, .inl ⟨.inl hv, rfl⟩, rfl⟩ | exact ⟨1, rfl, .inl ⟨.inr (.inr fun hk => by have hh := hk i x hil hx; first | exact hh.1 h7 | (have := hh.2.1; omega) | exact h10 (hh.2.2 y (by omega) hy)), rfl⟩, rfl⟩ | exact ⟨1, rfl, .inl ⟨.inr (.inl fun hk => by rcases hk with ⟨u1, u2⟩ | ⟨u1, u2, u3⟩ <;> first | exact h0 u1 | exact h2 u1 | exact h1 u2 | exact h3 u1 | exact u2 h4 | exact h5 u3 | (have u4 := u1.2.1; rw [h0] at u4; simp at u4; done) | exact h2 h0), rfl⟩, rfl⟩)); exact fun w h => h.takes)))))))))))) <;> (first | refine Ex.then ?_ | (refine N.next ?_ <;> (refine X.seq ?_ <;> (refine X.seq ?_ <;> (refine X.text (L := (.op .fin 0 .nil)) rfl (by kernel_rfl) ?_ <;>
    ((apply XL.det0F rfl rfl rfl rfl; exact D.assign rfl)) <;>
    (refine XL.nil ?_)) <;> (first | refine Ex.then ?_ | (refine N.next ?_ <;> (refine X.block ?_ <;> ((refine X.loop (ι := Nat) (fun i => [(1, .pointer (some ⟨g1, 0, none⟩)), (5, .int .i64 i)]) (fun _ => [cells g1 [.string ⟨List.toArray m.v⟩, .int .u64 ((m.k : Nat) : Int), .int .i64 m.s, .int .i64 m.z, .string ⟨List.toArray m.b⟩, .int .i64 m.bq, .slice a m.sn.length c] 35]) (fun i => i ≤ m.sn.length ∧ NumsTo m.sn i) (fun i => m.sn.length - i) (0) ?_ ?_ ?_ ?_; (focus (exact ⟨Nat.zero_le _, NumsTo.zero _⟩)); (focus (repeat (first | exact Sub.nil | refine Sub.cons rfl ?_))); (focus (exact (fun w h => h.takes))); rintro i ⟨hi2, hnu⟩) <;> (refine X.seq ?_ <;> (refine X.seq ?_ <;> (refine X.text (L := (.op .fin 0 (.op .fin 1 (.op .fin 2 (.op .fin 3 (.op .fin 4 .nil)))))) rfl (by kernel_rfl) ?_ <;>
    ((apply XL.det0F rfl rfl rfl rfl; exact D.move rfl)) <;>
    ((apply XL.det0F rfl rfl rfl rfl; first | exact D.fieldAddrB0 rfl rfl | exact D.fieldAddrB rfl rfl | exact D.fieldAddrE0 rfl rfl | exact D.fieldAddrE rfl rfl)) <;>
    ((apply XL.detF rfl rfl rfl rfl; first | exact D.load1 rfl (fun w h => h.cellAt (Loc.at_) rfl) | exact D.loadN rfl rfl (fun w h j u hu => by rw [at_add, Nat.zero_add]; exact h.cellAt (Loc.at_) hu) | exact D.loadP rfl rfl)) <;>
    ((apply XL.det0F rfl rfl rfl rfl; first | exact D.len rfl | exact D.lenL rfl | exact D.lenS rfl)) <;>
    (refine XL.splitF rfl rfl rfl rfl (D.int rfl rfl rfl) (fun h13 => ?_) (fun h13 => ?_)) <;>
    (refine XL.nil ?_)) <;> (first | refine Ex.then ?_ | (refine N.next ?_ <;> ((
    refine X.cond rfl ?_ ?_; rotate_left; (focus (
    intro hc; first | exact absurd hc (by decide) | (cases hc; done) | (refine X.exit ?_))); rotate_right; (focus (
    intro hc; first | exact absurd hc (by decide) | (cases hc; done) | (refine X.skip ?_)))))))) <;> (first | refine Ex.then ?_ | (refine N.next ?_ <;> (refine X.seq ?_ <;> (refine X.block ?_ <;> (refine X.seq ?_ <;> (refine X.text (L := (.op .fin 0 (.op .fin 1 (.op .fin 2 (.op .fin 3 (.op .fin 4 (.op .fin 5 (.op .fin 6 (.op .fin 7 (.op .fin 8 (.op .fin 9 (.op .fin 10 (.op .fin 11 (.op .fin 12 (.op .fin 13 (.op .fin 14 (.op .fin 15 (.op .fin 16 (.op .fin 17 .nil))))))))))))))))))) rfl (by kernel_rfl) ?_ <;>
    ((apply XL.det0F rfl rfl rfl rfl; first | exact D.fieldAddrB0 rfl rfl | exact D.fieldAddrB rfl rfl | exact D.fieldAddrE0 rfl rfl | exact D.fieldAddrE rfl rfl)) <;>
    ((apply XL.detF rfl rfl rfl rfl; first | exact D.load1 rfl (fun w h => h.cellAt (Loc.at_) rfl) | exact D.loadN rfl rfl (fun w h j u hu => by rw [at_add, Nat.zero_add]; exact h.cellAt (Loc.at_) hu) | exact D.loadP rfl rfl)) <;>
    ((apply XL.det0F rfl rfl rfl rfl; exact D.move rfl)) <;>
    (have hil : i < m.sn.length := (by omega); obtain ⟨x, hx⟩ := get_lt' hil; (apply XL.det0F rfl rfl rfl rfl; exact D.indexAddr i rfl rfl rfl hil (hl.sm (by omega)))) <;>
    ((apply XL.det0F rfl rfl rfl rfl; first | exact D.fieldAddrB0 rfl rfl | exact D.fieldAddrB rfl rfl | exact D.fieldAddrE0 rfl rfl | exact D.fieldAddrE rfl rfl)) <;>
    ((apply XL.detF rfl rfl rfl rfl; exact D.load1 rfl (fun w hw => (Rd.snapAt (hl.conf0 hw) hx).2.1))) <;>
    ((refine XL.call rfl rfl rfl rfl (fun w hw => rNumber_spec x.q w) ?_; rintro v B' ⟨rfl, rfl⟩; refine XL.both ?_); (by_cases h14 : nmS x.q <;> first | rw [decide_eq_true h14] | rw [decide_eq_false h14])) <;>
    ((apply XL.det0F rfl rfl rfl rfl; exact D.not rfl)) <;>
    ((apply XL.det0F rfl rfl rfl rfl; exact D.move rfl)) <;>
    (first | refine XL.skipF rfl rfl rfl rfl ?_ | ((apply XL.det0F rfl rfl rfl rfl; first | exact D.fieldAddrB0 rfl rfl | exact D.fieldAddrB rfl rfl | exact D.fieldAddrE0 rfl rfl | exact D.fieldAddrE rfl rfl))) <;>
    (first | refine XL.skipF rfl rfl rfl rfl ?_ | ((apply XL.detF rfl rfl rfl rfl; first | exact D.load1 rfl (fun w h => h.cellAt (Loc.at_) rfl) | exact D.loadN rfl rfl (fun w h j u hu => by rw [at_add, Nat.zero_add]; exact h.cellAt (Loc.at_) hu) | exact D.loadP rfl rfl))) <;>
    (first | refine XL.skipF rfl rfl rfl rfl ?_ | ((apply XL.det0F rfl rfl rfl rfl; exact D.move rfl))) <;>
    (first | refine XL.skipF rfl rfl rfl rfl ?_ | (first | refine XL.skipF rfl rfl rfl rfl ?_ | (apply XL.det0F rfl rfl rfl rfl; exact D.indexAddr i rfl rfl rfl hil (hl.sm (by omega))))) <;>
    (first | refine XL.skipF rfl rfl rfl rfl ?_ | ((apply XL.det0F rfl rfl rfl rfl; first | exact D.fieldAddrB0 rfl rfl | exact D.fieldAddrB rfl rfl | exact D.fieldAddrE0 rfl rfl | exact D.fieldAddrE rfl rfl))) <;>
    (first | refine XL.skipF rfl rfl rfl rfl ?_ | (first | refine XL.skipF rfl rfl rfl rfl ?_ | (apply XL.detF rfl rfl rfl rfl; exact D.load1 rfl (fun w hw => (Rd.snapAt (hl.conf0 hw) hx).2.2)))) <;>
    (first | refine XL.skipF rfl rfl rfl rfl ?_ | (first | refine XL.skipF rfl rfl rfl rfl ?_ | ((refine XL.call rfl rfl rfl rfl (fun w hw => rNumber_spec x.u w) ?_; rintro v B' ⟨rfl, rfl⟩; refine XL.both ?_); (by_cases h15 : nmS x.u <;> first | rw [decide_eq_true h15] | rw [decide_eq_false h15])))) <;>
    (first | refine XL.skipF rfl rfl rfl rfl ?_ | ((apply XL.det0F rfl rfl rfl rfl; exact D.not rfl))) <;>
    ((apply XL.det0F rfl rfl rfl rfl; first | exact D.pickT rfl rfl | exact D.pickF rfl rfl | exact D.pick rfl rfl rfl)) <;>
    (refine XL.nil ?_)) <;> (first | refine Ex.then ?_ | (refine N.next ?_ <;> ((
    refine X.cond rfl ?_ ?_; rotate_left; (focus (
    intro hc; first | exact absurd hc (by decide) | (cases hc; done) | (refine X.skip ?_))); rotate_right; (focus (
    intro hc; first | exact absurd hc (by decide) | (cases hc; done) | (refine X.seq ?_ <;> (refine X.text (L := (.op .fin 0 .nil)) rfl (by kernel_rfl) ?_ <;>
    ((apply XL.det0F rfl rfl rfl rfl; exact D.assign rfl)) <;>
    (refine XL.nil ?_)) <;> (first | refine Ex.then ?_ | (refine N.next ?_ <;> ((refine X.ret ?_; (repeat (first | refine Rt.then ?_ | refine Rt.block ?_ | refine Rt.scope ?_)); (first | apply Rt.done (Res.r1 Try.results17 (RV.tmp rfl)) | apply Rt.doneM (Res.r1 Try.results17 (RV.tmp rfl))); (focus (first | exact ⟨0, rfl, .inr ⟨⟨hv, hbs, hnm⟩, .inr ⟨⟨hs, by omega, by omega, hnu⟩, .inr ⟨by omega, rfl⟩⟩⟩, rfl⟩ | exact ⟨32, rfl, .inr ⟨⟨hv, hbs, hnm⟩, .inr ⟨⟨hs, by omega, by omega, hnu⟩, .inl ⟨by omega, rfl⟩⟩⟩, rfl⟩ | exact ⟨31, rfl, .inr ⟨⟨hv, hbs, hnm⟩, .inl ⟨fun ⟨u1, u2, u3, u4⟩ => by first | exact hs u1 | omega | exact h14 (u4 _ _ hil hx).1 | exact h15 (u4 _ _ hil hx).2, rfl⟩⟩, rfl⟩ | exact ⟨1, rfl, .inl ⟨.inl hv, rfl⟩, rfl⟩ | exact ⟨1, rfl, .inl ⟨.inr (.inr fun hk => by have hh := hk i x hil hx; first | exact hh.1 h7 | (have := hh.2.1; omega) | exact h10 (hh.2.2 y (by omega) hy)), rfl⟩, rfl⟩ | exact ⟨1, rfl, .inl ⟨.inr (.inl fun hk => by rcases hk with ⟨u1, u2⟩ | ⟨u1, u2, u3⟩ <;> first | exact h0 u1 | exact h2 u1 | exact h1 u2 | exact h3 u1 | exact u2 h4 | exact h5 u3 | (have u4 := u1.2.1; rw [h0] at u4; simp at u4; done) | exact h2 h0), rfl⟩, rfl⟩)); exact fun w h => h.takes)))))))))))) <;> (first | refine N.block ?_ | refine Ex.here ?_ | refine Ex.out rfl ?_)) <;> (first | refine Ex.then ?_ | (refine N.next ?_ <;> (refine X.text (L := (.op .fin 0 (.op .fin 1 (.op .fin 2 .nil)))) rfl (by kernel_rfl) ?_ <;>
    ((apply XL.det0F rfl rfl rfl rfl; exact D.move rfl)) <;>
    ((apply XL.det0F rfl rfl rfl rfl; first | exact D.add64 rfl rfl (by omega) | exact D.int rfl rfl rfl)) <;>
    ((apply XL.det0F rfl rfl rfl rfl; exact D.assign rfl)) <;>
    (refine XL.nil ?_)))))))) <;> (first | refine Ex.then ?_ | ((refine N.again ((i + 1)) ?_ ?_ ?_ ?_; (focus (exact ⟨by omega, (NumsTo.step hx).2 ⟨hnu, h14, h15⟩⟩)); (focus (first | omega | (dsimp only; omega))); (focus (repeat (first | exact Sub.nil | refine Sub.cons rfl ?_))); exact (fun w h => h.takes))))) <;> (first | refine N.block ?_ | refine Ex.here ?_ | refine Ex.out rfl ?_))))) <;> (first | refine Ex.then ?_ | (refine N.next ?_ <;> (refine X.seq ?_ <;> (refine X.seq ?_ <;> (refine X.text (L := (.op .fin 0 (.op .fin 1 (.op .fin 2 (.op .fin 3 .nil))))) rfl (by kernel_rfl) ?_ <;>
    ((apply XL.det0F rfl rfl rfl rfl; first | exact D.fieldAddrB0 rfl rfl | exact D.fieldAddrB rfl rfl | exact D.fieldAddrE0 rfl rfl | exact D.fieldAddrE rfl rfl)) <;>
    ((apply XL.detF rfl rfl rfl rfl; first | exact D.load1 rfl (fun w h => h.cellAt (Loc.at_) rfl) | exact D.loadN rfl rfl (fun w h j u hu => by rw [at_add, Nat.zero_add]; exact h.cellAt (Loc.at_) hu) | exact D.loadP rfl rfl)) <;>
    ((apply XL.det0F rfl rfl rfl rfl; first | exact D.len rfl | exact D.lenL rfl | exact D.lenS rfl)) <;>
    ((obtain rfl : i = m.sn.length := (by omega)); refine XL.splitF rfl rfl rfl rfl (D.int rfl rfl rfl) (fun h16 => ?_) (fun h16 => ?_)) <;>
    (refine XL.nil ?_)) <;> (first | refine Ex.then ?_ | (refine N.next ?_ <;> ((
    refine X.cond rfl ?_ ?_; rotate_left; (focus (
    intro hc; first | exact absurd hc (by decide) | (cases hc; done) | (refine X.skip ?_))); rotate_right; (focus (
    intro hc; first | exact absurd hc (by decide) | (cases hc; done) | (refine X.seq ?_ <;> (refine X.text (L := (.op .fin 0 .nil)) rfl (by kernel_rfl) ?_ <;>
    ((apply XL.det0F rfl rfl rfl rfl; exact D.assign rfl)) <;>
    (refine XL.nil ?_)) <;> (first | refine Ex.then ?_ | (refine N.next ?_ <;> ((refine X.ret ?_; (repeat (first | refine Rt.then ?_ | refine Rt.block ?_ | refine Rt.scope ?_)); (first | apply Rt.done (Res.r1 Try.results17 (RV.tmp rfl)) | apply Rt.doneM (Res.r1 Try.results17 (RV.tmp rfl))); (focus (first | exact ⟨0, rfl, .inr ⟨⟨hv, hbs, hnm⟩, .inr ⟨⟨hs, by omega, by omega, hnu⟩, .inr ⟨by omega, rfl⟩⟩⟩, rfl⟩ | exact ⟨32, rfl, .inr ⟨⟨hv, hbs, hnm⟩, .inr ⟨⟨hs, by omega, by omega, hnu⟩, .inl ⟨by omega, rfl⟩⟩⟩, rfl⟩ | exact ⟨31, rfl, .inr ⟨⟨hv, hbs, hnm⟩, .inl ⟨fun ⟨u1, u2, u3, u4⟩ => by first | exact hs u1 | omega | exact h14 (u4 _ _ hil hx).1 | exact h15 (u4 _ _ hil hx).2, rfl⟩⟩, rfl⟩ | exact ⟨1, rfl, .inl ⟨.inl hv, rfl⟩, rfl⟩ | exact ⟨1, rfl, .inl ⟨.inr (.inr fun hk => by have hh := hk i x hil hx; first | exact hh.1 h7 | (have := hh.2.1; omega) | exact h10 (hh.2.2 y (by omega) hy)), rfl⟩, rfl⟩ | exact ⟨1, rfl, .inl ⟨.inr (.inl fun hk => by rcases hk with ⟨u1, u2⟩ | ⟨u1, u2, u3⟩ <;> first | exact h0 u1 | exact h2 u1 | exact h1 u2 | exact h3 u1 | exact u2 h4 | exact h5 u3 | (have u4 := u1.2.1; rw [h0] at u4; simp at u4; done) | exact h2 h0), rfl⟩, rfl⟩)); exact fun w h => h.takes)))))))))))) <;> (first | refine Ex.then ?_ | (refine N.next ?_ <;> (refine X.seq ?_ <;> (refine X.text (L := (.op .fin 0 .nil)) rfl (by kernel_rfl) ?_ <;>
    ((apply XL.det0F rfl rfl rfl rfl; exact D.assign rfl)) <;>
    (refine XL.nil ?_)) <;> (first | refine Ex.then ?_ | (refine N.next ?_ <;> ((refine X.ret ?_; (repeat (first | refine Rt.then ?_ | refine Rt.block ?_ | refine Rt.scope ?_)); (first | apply Rt.done (Res.r1 Try.results17 (RV.tmp rfl)) | apply Rt.doneM (Res.r1 Try.results17 (RV.tmp rfl))); (focus (first | exact ⟨0, rfl, .inr ⟨⟨hv, hbs, hnm⟩, .inr ⟨⟨hs, by omega, by omega, hnu⟩, .inr ⟨by omega, rfl⟩⟩⟩, rfl⟩ | exact ⟨32, rfl, .inr ⟨⟨hv, hbs, hnm⟩, .inr ⟨⟨hs, by omega, by omega, hnu⟩, .inl ⟨by omega, rfl⟩⟩⟩, rfl⟩ | exact ⟨31, rfl, .inr ⟨⟨hv, hbs, hnm⟩, .inl ⟨fun ⟨u1, u2, u3, u4⟩ => by first | exact hs u1 | omega | exact h14 (u4 _ _ hil hx).1 | exact h15 (u4 _ _ hil hx).2, rfl⟩⟩, rfl⟩ | exact ⟨1, rfl, .inl ⟨.inl hv, rfl⟩, rfl⟩ | exact ⟨1, rfl, .inl ⟨.inr (.inr fun hk => by have hh := hk i x hil hx; first | exact hh.1 h7 | (have := hh.2.1; omega) | exact h10 (hh.2.2 y (by omega) hy)), rfl⟩, rfl⟩ | exact ⟨1, rfl, .inl ⟨.inr (.inl fun hk => by rcases hk with ⟨u1, u2⟩ | ⟨u1, u2, u3⟩ <;> first | exact h0 u1 | exact h2 u1 | exact h1 u2 | exact h3 u1 | exact u2 h4 | exact h5 u3 | (have u4 := u1.2.1; rw [h0] at u4; simp at u4; done) | exact h2 h0), rfl⟩, rfl⟩)); exact fun w h => h.takes)))))))))))))))))))))))
end Go.Lx
