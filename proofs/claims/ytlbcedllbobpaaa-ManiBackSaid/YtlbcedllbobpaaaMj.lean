/- With, Without, Resize of the document's answer. -/
import Derived.Test.YtlbcedllbobpaaaMi
namespace Go.Lx
open Go.Proofs
set_option linter.unusedVariables false
set_option linter.unusedSimpArgs false
set_option maxRecDepth 20000
set_option maxHeartbeats 4000000
theorem refResize_spec (m : Man) (a : Option Addr) (c : Nat) (z : Int) (w : World) (hl : Rd w 3 a m.sn.length c (encQ m.sn)) (h9 : m.v.length ≤ 1000000000 ∧ m.b.length ≤ 1000000000) : Spec Try.prog 24 #[.agg #[.string ⟨List.toArray m.v⟩, .int .u64 ((m.k : Nat) : Int), .int .i64 m.s, .int .i64 m.z, .string ⟨List.toArray m.b⟩, .int .i64 m.bq, .slice a m.sn.length c], .int .i64 z] w (fun _ => False) (fun v A => ∃ (res : Man) (e : Int), ResR m z res e ∧ (∃ a' c', v = .tuple #[.agg #[.string ⟨List.toArray res.v⟩, .int .u64 ((res.k : Nat) : Int), .int .i64 res.s, .int .i64 res.z, .string ⟨List.toArray res.b⟩, .int .i64 res.bq, .slice a' res.sn.length c'], .int .i64 e] ∧ ∀ w', Rd w' 3 a m.sn.length c (encQ m.sn) → Rd w' 3 a' res.sn.length c' (encQ res.sn)) ∧ A = []) := by
  refine Spec.enter (args := [.agg #[.string ⟨List.toArray m.v⟩, .int .u64 ((m.k : Nat) : Int), .int .i64 m.s, .int .i64 m.z, .string ⟨List.toArray m.b⟩, .int .i64 m.bq, .slice a m.sn.length c], .int .i64 z]) (A := []) Try.func24 rfl Try.ntmps24 rfl (fun _ h => h) ?_
  (refine X.seq ?_ <;> (refine X.text (L := (.op .fin 0 (.op .fin 1 (.op .fin 2 .nil)))) rfl (by kernel_rfl) ?_ <;>
    (refine XL.boxN rfl rfl rfl rfl (by intro g; infer_instance) (fun g2 => ?_)) <;>
    (refine XL.alloc rfl rfl rfl (by intro g; infer_instance) (fun g4 => ?_)) <;>
    ((apply XL.det0F rfl rfl rfl rfl; exact D.assign rfl)) <;>
    (refine XL.nil ?_)) <;> (first | refine Ex.then ?_ | (refine N.next ?_ <;> (refine X.seq ?_ <;> (refine X.text (L := (.op .fin 0 (.op .fin 1 (.op .fin 2 .nil)))) rfl (by kernel_rfl) ?_ <;>
    ((apply XL.detF rfl rfl rfl rfl; first | exact D.load1 rfl (fun w h => h.cellAt (Loc.at_) rfl) | exact D.loadN rfl rfl (fun w h j u hu => by rw [at_add, Nat.zero_add]; exact h.cellAt (Loc.at_) hu) | exact D.loadP rfl rfl)) <;>
    ((refine XL.call rfl rfl rfl rfl (fun w hw => refCheck_spec m a c w (hl.conf0 hw) h9.1 h9.2) ?_; rintro v B' ⟨e, rfl, hq, rfl⟩; refine XL.both ?_)) <;>
    ((apply XL.det0F rfl rfl rfl rfl; exact D.assign rfl)) <;>
    (refine XL.nil ?_)) <;> (first | refine Ex.then ?_ | (refine N.next ?_ <;> (refine X.seq ?_ <;> (refine X.seq ?_ <;> (refine X.text (L := (.op .fin 0 (.op .fin 1 .nil))) rfl (by kernel_rfl) ?_ <;>
    ((apply XL.det0F rfl rfl rfl rfl; exact D.move rfl)) <;>
    (refine XL.splitF rfl rfl rfl rfl (D.int rfl rfl rfl) (fun h1 => ?_) (fun h1 => ?_)) <;>
    (refine XL.nil ?_)) <;> (first | refine Ex.then ?_ | (refine N.next ?_ <;> ((
    refine X.cond rfl ?_ ?_; rotate_left; (focus (
    intro hc; first | exact absurd hc (by decide) | (cases hc; done) | (refine X.skip ?_))); rotate_right; (focus (
    intro hc; first | exact absurd hc (by decide) | (cases hc; done) | (refine X.seq ?_ <;> (refine X.text (L := (.op .fin 0 (.op .fin 1 (.op .fin 2 (.op .fin 3 .nil))))) rfl (by kernel_rfl) ?_ <;>
    ((apply XL.det0F rfl rfl rfl rfl; exact D.build rfl)) <;>
    ((apply XL.det0F rfl rfl rfl rfl; exact D.move rfl)) <;>
    (first | refine XL.store1 rfl rfl rfl rfl rfl ?_ | refine XL.storeN rfl rfl rfl rfl rfl rfl ?_) <;>
    ((apply XL.det0F rfl rfl rfl rfl; exact D.assign rfl)) <;>
    (refine XL.nil ?_)) <;> (first | refine Ex.then ?_ | (refine N.next ?_ <;> ((refine X.ret ?_; (repeat (first | refine Rt.then ?_ | refine Rt.block ?_ | refine Rt.scope ?_)); (first | apply Rt.done (Res.r2 Try.results24 (by first | exact RV.cell rfl rfl | exact RV.cell1 rfl) (RV.tmp rfl)) | apply Rt.doneM (Res.r2 Try.results24 (by first | exact RV.cell rfl rfl | exact RV.cell1 rfl) (RV.tmp rfl))); (focus (first | exact ⟨zM, e, .inl ⟨hq, h1, rfl⟩, ⟨none, 0, rfl, fun w' _ => Rd.nil w' 3⟩, rfl⟩ | exact ⟨zM, e2, .inr ⟨hq, e2, hq2, .inl ⟨h2, rfl, rfl⟩⟩, ⟨none, 0, rfl, fun w' _ => Rd.nil w' 3⟩, rfl⟩ | ((obtain rfl : e2 = 0 := (by omega)); exact ⟨up { m with z := z }, 0, .inr ⟨hq, 0, hq2, .inr ⟨rfl, rfl, rfl⟩⟩, ⟨a, c, rfl, fun w' h => h⟩, rfl⟩))); exact fun w h => h.takes)))))))))))) <;> (first | refine Ex.then ?_ | (refine N.next ?_ <;> (refine X.seq ?_ <;> (refine X.text (L := (.op .fin 0 (.op .fin 1 (.op .fin 2 (.op .fin 3 (.op .fin 4 .nil)))))) rfl (by kernel_rfl) ?_ <;>
    ((apply XL.det0F rfl rfl rfl rfl; first | exact D.fieldAddrB0 rfl rfl | exact D.fieldAddrB rfl rfl | exact D.fieldAddrE0 rfl rfl | exact D.fieldAddrE rfl rfl)) <;>
    ((apply XL.detF rfl rfl rfl rfl; first | exact D.load1 rfl (fun w h => h.cellAt (Loc.at_) rfl) | exact D.loadN rfl rfl (fun w h j u hu => by rw [at_add, Nat.zero_add]; exact h.cellAt (Loc.at_) hu) | exact D.loadP rfl rfl)) <;>
    ((obtain rfl : e = 0 := (by omega)); have hck := hq.names; have hs := hck.2.2.2.1; unfold nmS at hs; (apply XL.det0F rfl rfl rfl rfl; exact D.add64 rfl rfl (by omega))) <;>
    ((apply XL.det0F rfl rfl rfl rfl; first | exact D.fieldAddrB0 rfl rfl | exact D.fieldAddrB rfl rfl | exact D.fieldAddrE0 rfl rfl | exact D.fieldAddrE rfl rfl)) <;>
    (first | refine XL.store1 rfl rfl rfl rfl rfl ?_ | refine XL.storeN rfl rfl rfl rfl rfl rfl ?_) <;>
    (refine XL.nil ?_)) <;> (first | refine Ex.then ?_ | (refine N.next ?_ <;> (refine X.seq ?_ <;> (refine X.text (L := (.op .fin 0 (.op .fin 1 (.op .fin 2 .nil)))) rfl (by kernel_rfl) ?_ <;>
    ((apply XL.det0F rfl rfl rfl rfl; exact D.move rfl)) <;>
    ((apply XL.det0F rfl rfl rfl rfl; first | exact D.fieldAddrB0 rfl rfl | exact D.fieldAddrB rfl rfl | exact D.fieldAddrE0 rfl rfl | exact D.fieldAddrE rfl rfl)) <;>
    (first | refine XL.store1 rfl rfl rfl rfl rfl ?_ | refine XL.storeN rfl rfl rfl rfl rfl rfl ?_) <;>
    (refine XL.nil ?_)) <;> (first | refine Ex.then ?_ | (refine N.next ?_ <;> (refine X.seq ?_ <;> (refine X.text (L := (.op .fin 0 (.op .fin 1 (.op .fin 2 .nil)))) rfl (by kernel_rfl) ?_ <;>
    ((apply XL.detF rfl rfl rfl rfl; first | exact D.load1 rfl (fun w h => h.cellAt (Loc.at_) rfl) | exact D.loadN rfl rfl (fun w h j u hu => by rw [at_add, Nat.zero_add]; exact h.cellAt (Loc.at_) hu) | exact D.loadP rfl rfl)) <;>
    ((refine XL.call rfl rfl rfl rfl (fun w hw => refCheck_spec (up { m with z := z }) a c w (hl.conf0 hw) h9.1 h9.2) ?_; rintro v B' ⟨e2, rfl, hq2, rfl⟩; refine XL.both ?_)) <;>
    ((apply XL.det0F rfl rfl rfl rfl; exact D.assign rfl)) <;>
    (refine XL.nil ?_)) <;> (first | refine Ex.then ?_ | (refine N.next ?_ <;> (refine X.seq ?_ <;> (refine X.seq ?_ <;> (refine X.text (L := (.op .fin 0 (.op .fin 1 .nil))) rfl (by kernel_rfl) ?_ <;>
    ((apply XL.det0F rfl rfl rfl rfl; exact D.move rfl)) <;>
    (refine XL.splitF rfl rfl rfl rfl (D.int rfl rfl rfl) (fun h2 => ?_) (fun h2 => ?_)) <;>
    (refine XL.nil ?_)) <;> (first | refine Ex.then ?_ | (refine N.next ?_ <;> ((
    refine X.cond rfl ?_ ?_; rotate_left; (focus (
    intro hc; first | exact absurd hc (by decide) | (cases hc; done) | (refine X.skip ?_))); rotate_right; (focus (
    intro hc; first | exact absurd hc (by decide) | (cases hc; done) | (refine X.seq ?_ <;> (refine X.text (L := (.op .fin 0 (.op .fin 1 (.op .fin 2 (.op .fin 3 .nil))))) rfl (by kernel_rfl) ?_ <;>
    ((apply XL.det0F rfl rfl rfl rfl; exact D.build rfl)) <;>
    ((apply XL.det0F rfl rfl rfl rfl; exact D.move rfl)) <;>
    (first | refine XL.store1 rfl rfl rfl rfl rfl ?_ | refine XL.storeN rfl rfl rfl rfl rfl rfl ?_) <;>
    ((apply XL.det0F rfl rfl rfl rfl; exact D.assign rfl)) <;>
    (refine XL.nil ?_)) <;> (first | refine Ex.then ?_ | (refine N.next ?_ <;> ((refine X.ret ?_; (repeat (first | refine Rt.then ?_ | refine Rt.block ?_ | refine Rt.scope ?_)); (first | apply Rt.done (Res.r2 Try.results24 (by first | exact RV.cell rfl rfl | exact RV.cell1 rfl) (RV.tmp rfl)) | apply Rt.doneM (Res.r2 Try.results24 (by first | exact RV.cell rfl rfl | exact RV.cell1 rfl) (RV.tmp rfl))); (focus (first | exact ⟨zM, e, .inl ⟨hq, h1, rfl⟩, ⟨none, 0, rfl, fun w' _ => Rd.nil w' 3⟩, rfl⟩ | exact ⟨zM, e2, .inr ⟨hq, e2, hq2, .inl ⟨h2, rfl, rfl⟩⟩, ⟨none, 0, rfl, fun w' _ => Rd.nil w' 3⟩, rfl⟩ | ((obtain rfl : e2 = 0 := (by omega)); exact ⟨up { m with z := z }, 0, .inr ⟨hq, 0, hq2, .inr ⟨rfl, rfl, rfl⟩⟩, ⟨a, c, rfl, fun w' h => h⟩, rfl⟩))); exact fun w h => h.takes)))))))))))) <;> (first | refine Ex.then ?_ | (refine N.next ?_ <;> (refine X.seq ?_ <;> (refine X.text (L := (.op .fin 0 (.op .fin 1 (.op .fin 2 .nil)))) rfl (by kernel_rfl) ?_ <;>
    ((apply XL.detF rfl rfl rfl rfl; first | exact D.load1 rfl (fun w h => h.cellAt (Loc.at_) rfl) | exact D.loadN rfl rfl (fun w h j u hu => by rw [at_add, Nat.zero_add]; exact h.cellAt (Loc.at_) hu) | exact D.loadP rfl rfl)) <;>
    (first | refine XL.store1 rfl rfl rfl rfl rfl ?_ | refine XL.storeN rfl rfl rfl rfl rfl rfl ?_) <;>
    ((apply XL.det0F rfl rfl rfl rfl; exact D.assign rfl)) <;>
    (refine XL.nil ?_)) <;> (first | refine Ex.then ?_ | (refine N.next ?_ <;> ((refine X.ret ?_; (repeat (first | refine Rt.then ?_ | refine Rt.block ?_ | refine Rt.scope ?_)); (first | apply Rt.done (Res.r2 Try.results24 (by first | exact RV.cell rfl rfl | exact RV.cell1 rfl) (RV.tmp rfl)) | apply Rt.doneM (Res.r2 Try.results24 (by first | exact RV.cell rfl rfl | exact RV.cell1 rfl) (RV.tmp rfl))); (focus (first | exact ⟨zM, e, .inl ⟨hq, h1, rfl⟩, ⟨none, 0, rfl, fun w' _ => Rd.nil w' 3⟩, rfl⟩ | exact ⟨zM, e2, .inr ⟨hq, e2, hq2, .inl ⟨h2, rfl, rfl⟩⟩, ⟨none, 0, rfl, fun w' _ => Rd.nil w' 3⟩, rfl⟩ | ((obtain rfl : e2 = 0 := (by omega)); exact ⟨up { m with z := z }, 0, .inr ⟨hq, 0, hq2, .inr ⟨rfl, rfl, rfl⟩⟩, ⟨a, c, rfl, fun w' h => h⟩, rfl⟩))); exact fun w h => h.takes))))))))))))))))))))))))))
theorem refWithout_spec (m : Man) (a : Option Addr) (c : Nat) (s : Bs) (w : World) (hl : Rd w 3 a m.sn.length c (encQ m.sn)) (hlen : m.sn.length ≤ 1000) (h9 : m.v.length ≤ 1000000000 ∧ m.b.length ≤ 1000000000) : Spec Try.prog 26 #[.agg #[.string ⟨List.toArray m.v⟩, .int .u64 ((m.k : Nat) : Int), .int .i64 m.s, .int .i64 m.z, .string ⟨List.toArray m.b⟩, .int .i64 m.bq, .slice a m.sn.length c], .string ⟨List.toArray s⟩] w (fun _ => False) (fun v A => ∃ (res : Man) (e : Int) (a' : Option Addr) (c' : Nat), v = .tuple #[.agg #[.string ⟨List.toArray res.v⟩, .int .u64 ((res.k : Nat) : Int), .int .i64 res.s, .int .i64 res.z, .string ⟨List.toArray res.b⟩, .int .i64 res.bq, .slice a' res.sn.length c'], .int .i64 e] ∧ OutR m s res e ∧ A = [own 84 3 (.slice a' (List.length res.sn) c') (List.length res.sn) (encQ res.sn)]) := by
  have hle := hl.le
  refine Spec.enter (args := [.agg #[.string ⟨List.toArray m.v⟩, .int .u64 ((m.k : Nat) : Int), .int .i64 m.s, .int .i64 m.z, .string ⟨List.toArray m.b⟩, .int .i64 m.bq, .slice a m.sn.length c], .string ⟨List.toArray s⟩]) (A := []) Try.func26 rfl Try.ntmps26 rfl (fun _ h => h) ?_
  refine X.mem (B := [own 84 3 (.slice none 0 0) 0 []]) (fun w h => h.nilOwn 84 3) ?_
  (refine X.seq ?_ <;> (refine X.text (L := (.op .fin 0 (.op .fin 1 (.op .fin 2 .nil)))) rfl (by kernel_rfl) ?_ <;>
    (refine XL.boxN rfl rfl rfl rfl (by intro g; infer_instance) (fun g2 => ?_)) <;>
    (refine XL.alloc rfl rfl rfl (by intro g; infer_instance) (fun g4 => ?_)) <;>
    ((apply XL.det0F rfl rfl rfl rfl; exact D.assign rfl)) <;>
    (refine XL.nil ?_)) <;> (first | refine Ex.then ?_ | (refine N.next ?_ <;> (refine X.seq ?_ <;> (refine X.text (L := (.op .fin 0 (.op .fin 1 (.op .fin 2 .nil)))) rfl (by kernel_rfl) ?_ <;>
    ((apply XL.detF rfl rfl rfl rfl; first | exact D.load1 rfl (fun w h => h.cellAt (Loc.at_) rfl) | exact D.loadN rfl rfl (fun w h j u hu => by rw [at_add, Nat.zero_add]; exact h.cellAt (Loc.at_) hu) | exact D.loadP rfl rfl)) <;>
    ((refine XL.call rfl rfl rfl rfl (fun w hw => refCheck_spec m a c w (hl.conf0 hw) h9.1 h9.2) ?_; rintro v B' ⟨e, rfl, hq, rfl⟩; refine XL.both ?_)) <;>
    ((apply XL.det0F rfl rfl rfl rfl; exact D.assign rfl)) <;>
    (refine XL.nil ?_)) <;> (first | refine Ex.then ?_ | (refine N.next ?_ <;> (refine X.seq ?_ <;> (refine X.seq ?_ <;> (refine X.text (L := (.op .fin 0 (.op .fin 1 .nil))) rfl (by kernel_rfl) ?_ <;>
    ((apply XL.det0F rfl rfl rfl rfl; exact D.move rfl)) <;>
    (refine XL.splitF rfl rfl rfl rfl (D.int rfl rfl rfl) (fun h1 => ?_) (fun h1 => ?_)) <;>
    (refine XL.nil ?_)) <;> (first | refine Ex.then ?_ | (refine N.next ?_ <;> ((
    refine X.cond rfl ?_ ?_; rotate_left; (focus (
    intro hc; first | exact absurd hc (by decide) | (cases hc; done) | (refine X.skip ?_))); rotate_right; (focus (
    intro hc; first | exact absurd hc (by decide) | (cases hc; done) | (refine X.seq ?_ <;> (refine X.text (L := (.op .fin 0 (.op .fin 1 (.op .fin 2 (.op .fin 3 .nil))))) rfl (by kernel_rfl) ?_ <;>
    ((apply XL.det0F rfl rfl rfl rfl; exact D.build rfl)) <;>
    ((apply XL.det0F rfl rfl rfl rfl; exact D.move rfl)) <;>
    (first | refine XL.store1 rfl rfl rfl rfl rfl ?_ | refine XL.storeN rfl rfl rfl rfl rfl rfl ?_) <;>
    ((apply XL.det0F rfl rfl rfl rfl; exact D.assign rfl)) <;>
    (refine XL.nil ?_)) <;> (first | refine Ex.then ?_ | (refine N.next ?_ <;> ((refine X.ret ?_; (repeat (first | refine Rt.then ?_ | refine Rt.block ?_ | refine Rt.scope ?_)); (first | apply Rt.done (Res.r2 Try.results26 (by first | exact RV.cell rfl rfl | exact RV.cell1 rfl) (RV.tmp rfl)) | apply Rt.doneM (Res.r2 Try.results26 (by first | exact RV.cell rfl rfl | exact RV.cell1 rfl) (RV.tmp rfl))); (focus (first | exact ⟨zM, e, none, 0, rfl, .inl ⟨hq, h1, rfl⟩, (rfl : [own 84 3 (.slice none 0 0) 0 []] = _)⟩ | exact ⟨zM, 15, none, 0, rfl, .inr (.inl ⟨hq, hf, rfl, rfl⟩), (rfl : [own 84 3 (.slice none 0 0) 0 []] = _)⟩ | exact ⟨zM, e2, none, 0, rfl, .inr (.inr ⟨hq, k, y, hf, e2, hq2, .inl ⟨h2, rfl, rfl⟩⟩), (rfl : [own 84 3 (.slice none 0 0) 0 []] = _)⟩ | ((obtain rfl : e2 = 0 := (by omega)); exact ⟨up { m with sn := m.sn.take k ++ m.sn.drop (k + 1) }, 0, a4, c4, rfl, .inr (.inr ⟨hq, k, y, hf, 0, hq2, .inr ⟨rfl, rfl, rfl⟩⟩), (rfl : [own 84 3 (.slice a4 (List.length (m.sn.take k ++ m.sn.drop (k + 1))) c4) (List.length (m.sn.take k ++ m.sn.drop (k + 1))) (encQ (m.sn.take k ++ m.sn.drop (k + 1)))] = _)⟩))); exact fun w h => h.takes)))))))))))) <;> (first | refine Ex.then ?_ | (refine N.next ?_ <;> (refine X.seq ?_ <;> (refine X.text (L := (.op .fin 0 (.op .fin 1 (.op .fin 2 (.op .fin 3 .nil))))) rfl (by kernel_rfl) ?_ <;>
    ((apply XL.detF rfl rfl rfl rfl; first | exact D.load1 rfl (fun w h => h.cellAt (Loc.at_) rfl) | exact D.loadN rfl rfl (fun w h j u hu => by rw [at_add, Nat.zero_add]; exact h.cellAt (Loc.at_) hu) | exact D.loadP rfl rfl)) <;>
    ((apply XL.det0F rfl rfl rfl rfl; exact D.move rfl)) <;>
    ((obtain rfl : e = 0 := (by omega)); have hck := hq.names; have hs := hck.2.2.2.1; unfold nmS at hs; (refine XL.call rfl rfl rfl rfl (fun w hw => refFind_spec w m a c s (hl.conf0 hw)) ?_; rintro v B' ⟨hf, rfl⟩; refine XL.both ?_); (rcases hf with ⟨k, y, rfl, hf⟩ | ⟨rfl, hf⟩)) <;>
    ((apply XL.det0F rfl rfl rfl rfl; exact D.assign rfl)) <;>
    (refine XL.nil ?_)) <;> (first | refine Ex.then ?_ | (refine N.next ?_ <;> (refine X.seq ?_ <;> (refine X.seq ?_ <;> (refine X.text (L := (.op .fin 0 (.op .fin 1 .nil))) rfl (by kernel_rfl) ?_ <;>
    ((apply XL.det0F rfl rfl rfl rfl; exact D.move rfl)) <;>
    (first | refine XL.cmpTFF rfl rfl rfl rfl (D.int rfl rfl rfl) (by omega) ?_ | refine XL.cmpFF rfl rfl rfl rfl (D.int rfl rfl rfl) (by omega) ?_ | refine XL.cmpTF rfl rfl rfl rfl (D.int rfl rfl rfl) (by omega) ?_) <;>
    (refine XL.nil ?_)) <;> (first | refine Ex.then ?_ | (refine N.next ?_ <;> ((
    refine X.cond rfl ?_ ?_; rotate_left; (focus (
    intro hc; first | exact absurd hc (by decide) | (cases hc; done) | (refine X.skip ?_))); rotate_right; (focus (
    intro hc; first | exact absurd hc (by decide) | (cases hc; done) | (refine X.seq ?_ <;> (refine X.text (L := (.op .fin 0 (.op .fin 1 (.op .fin 2 .nil)))) rfl (by kernel_rfl) ?_ <;>
    ((apply XL.det0F rfl rfl rfl rfl; exact D.build rfl)) <;>
    (first | refine XL.store1 rfl rfl rfl rfl rfl ?_ | refine XL.storeN rfl rfl rfl rfl rfl rfl ?_) <;>
    ((apply XL.det0F rfl rfl rfl rfl; exact D.assign rfl)) <;>
    (refine XL.nil ?_)) <;> (first | refine Ex.then ?_ | (refine N.next ?_ <;> ((refine X.ret ?_; (repeat (first | refine Rt.then ?_ | refine Rt.block ?_ | refine Rt.scope ?_)); (first | apply Rt.done (Res.r2 Try.results26 (by first | exact RV.cell rfl rfl | exact RV.cell1 rfl) (RV.tmp rfl)) | apply Rt.doneM (Res.r2 Try.results26 (by first | exact RV.cell rfl rfl | exact RV.cell1 rfl) (RV.tmp rfl))); (focus (first | exact ⟨zM, e, none, 0, rfl, .inl ⟨hq, h1, rfl⟩, (rfl : [own 84 3 (.slice none 0 0) 0 []] = _)⟩ | exact ⟨zM, 15, none, 0, rfl, .inr (.inl ⟨hq, hf, rfl, rfl⟩), (rfl : [own 84 3 (.slice none 0 0) 0 []] = _)⟩ | exact ⟨zM, e2, none, 0, rfl, .inr (.inr ⟨hq, k, y, hf, e2, hq2, .inl ⟨h2, rfl, rfl⟩⟩), (rfl : [own 84 3 (.slice none 0 0) 0 []] = _)⟩ | ((obtain rfl : e2 = 0 := (by omega)); exact ⟨up { m with sn := m.sn.take k ++ m.sn.drop (k + 1) }, 0, a4, c4, rfl, .inr (.inr ⟨hq, k, y, hf, 0, hq2, .inr ⟨rfl, rfl, rfl⟩⟩), (rfl : [own 84 3 (.slice a4 (List.length (m.sn.take k ++ m.sn.drop (k + 1))) c4) (List.length (m.sn.take k ++ m.sn.drop (k + 1))) (encQ (m.sn.take k ++ m.sn.drop (k + 1)))] = _)⟩))); exact fun w h => h.takes)))))))))))) <;> (first | refine Ex.then ?_ | (refine N.next ?_ <;> (refine X.seq ?_ <;> (refine X.text (L := (.op .fin 0 (.op .fin 1 (.op .fin 2 .nil)))) rfl (by kernel_rfl) ?_ <;>
    ((apply XL.detF rfl rfl rfl rfl; first | exact D.load1 rfl (fun w h => h.cellAt (Loc.at_) rfl) | exact D.loadN rfl rfl (fun w h j u hu => by rw [at_add, Nat.zero_add]; exact h.cellAt (Loc.at_) hu) | exact D.loadP rfl rfl)) <;>
    (refine XL.alloc rfl rfl rfl (by intro g; infer_instance) (fun g => ?_)) <;>
    (first | refine XL.store1 rfl rfl rfl rfl rfl ?_ | refine XL.storeN rfl rfl rfl rfl rfl rfl ?_) <;>
    (refine XL.nil ?_)) <;> (first | refine Ex.then ?_ | (refine N.next ?_ <;> (refine X.seq ?_ <;> (refine X.text (L := (.op .fin 0 (.op .fin 1 (.op .fin 2 (.op .fin 3 (.op .fin 4 .nil)))))) rfl (by kernel_rfl) ?_ <;>
    ((apply XL.det0F rfl rfl rfl rfl; first | exact D.fieldAddrB0 rfl rfl | exact D.fieldAddrB rfl rfl | exact D.fieldAddrE0 rfl rfl | exact D.fieldAddrE rfl rfl)) <;>
    ((apply XL.detF rfl rfl rfl rfl; first | exact D.load1 rfl (fun w h => h.cellAt (Loc.at_) rfl) | exact D.loadN rfl rfl (fun w h j u hu => by rw [at_add, Nat.zero_add]; exact h.cellAt (Loc.at_) hu) | exact D.loadP rfl rfl)) <;>
    ((apply XL.det0F rfl rfl rfl rfl; exact D.add64 rfl rfl (by omega))) <;>
    ((apply XL.det0F rfl rfl rfl rfl; first | exact D.fieldAddrB0 rfl rfl | exact D.fieldAddrB rfl rfl | exact D.fieldAddrE0 rfl rfl | exact D.fieldAddrE rfl rfl)) <;>
    (first | refine XL.store1 rfl rfl rfl rfl rfl ?_ | refine XL.storeN rfl rfl rfl rfl rfl rfl ?_) <;>
    (refine XL.nil ?_)) <;> (first | refine Ex.then ?_ | (refine N.next ?_ <;> (refine X.seq ?_ <;> (refine X.draw (.op .v0 1 (.op .v1 2 (.op .v0 3 (.op .v0 4 (.op .v0 6 (.op .v1 7 (.op .v0 8 (.op .v0 9 (.op .v0 10 (.op .ch 0 (.op .ch 5 (.op .ch 11 (.op .v0 12 (.op .fin 13 .nil)))))))))))))) mixed (by kernel_rfl) ?_ <;>
    ((apply XL.det0 rfl rfl rfl rfl; first | exact D.fieldAddrB0 rfl rfl | exact D.fieldAddrB rfl rfl | exact D.fieldAddrE0 rfl rfl | exact D.fieldAddrE rfl rfl)) <;>
    ((apply XL.det1 rfl rfl rfl rfl; first | exact D.load1 rfl (fun w h => h.cellAt (Loc.at_) rfl) | exact D.loadN rfl rfl (fun w h j u hu => by rw [at_add, Nat.zero_add]; exact h.cellAt (Loc.at_) hu) | exact D.loadP rfl rfl)) <;>
    ((apply XL.det0 rfl rfl rfl rfl; exact D.move rfl)) <;>
    (have hkl := lt_of_get' hf.1; (apply XL.det0 rfl rfl rfl rfl; exact D.sliceH (h := k) rfl rfl (by omega)); rw [subA_zero]) <;>
    ((apply XL.det0 rfl rfl rfl rfl; first | exact D.fieldAddrB0 rfl rfl | exact D.fieldAddrB rfl rfl | exact D.fieldAddrE0 rfl rfl | exact D.fieldAddrE rfl rfl)) <;>
    ((apply XL.det1 rfl rfl rfl rfl; first | exact D.load1 rfl (fun w h => h.cellAt (Loc.at_) rfl) | exact D.loadN rfl rfl (fun w h j u hu => by rw [at_add, Nat.zero_add]; exact h.cellAt (Loc.at_) hu) | exact D.loadP rfl rfl)) <;>
    ((apply XL.det0 rfl rfl rfl rfl; exact D.move rfl)) <;>
    ((apply XL.det0 rfl rfl rfl rfl; exact D.add64 rfl rfl (by omega)); rw [show (k : Int) + 1 = ((k + 1 : Nat) : Int) from (by omega)]) <;>
    ((apply XL.det0 rfl rfl rfl rfl; exact D.sliceL (l := k + 1) rfl rfl (by omega))) <;>
    (refine XL.slice0 rfl rfl rfl (by intro g; infer_instance) (fun g => ?_)) <;>
    ((refine XL.appendR (a2 := a) (m := k) (c2 := c) (news := encQ (m.sn.take k)) rfl rfl rfl rfl rfl (fun w hw => viewQH a c m.sn k (by omega) w (hl.conf0 hw)) (encQ_one _) (by unfold maxLen; omega) (fun _ _ => by infer_instance) (fun a3 c3 => ?_)); rw [List.nil_append, Nat.zero_add]) <;>
    ((refine XL.appendR (a2 := subA a 3 (k + 1) c) (m := m.sn.length - (k + 1)) (c2 := c - (k + 1)) (news := encQ (m.sn.drop (k + 1))) rfl rfl rfl rfl rfl (fun w hw => viewQL a c m.sn (k + 1) (by omega) w (hl.conf0 hw)) (encQ_one _) (by unfold maxLen; omega) (fun _ _ => by infer_instance) (fun a4 c4 => ?_)); rw [show encQ (m.sn.take k) ++ encQ (m.sn.drop (k + 1)) = encQ (m.sn.take k ++ m.sn.drop (k + 1)) from (by simp [encQ]), show k + (m.sn.length - (k + 1)) = (m.sn.take k ++ m.sn.drop (k + 1)).length from (by rw [List.length_append, List.length_take, List.length_drop]; omega)]) <;>
    ((apply XL.det0 rfl rfl rfl rfl; first | exact D.fieldAddrB0 rfl rfl | exact D.fieldAddrB rfl rfl | exact D.fieldAddrE0 rfl rfl | exact D.fieldAddrE rfl rfl)) <;>
    (first | refine XL.store1 rfl rfl rfl rfl rfl ?_ | refine XL.storeN rfl rfl rfl rfl rfl rfl ?_) <;>
    (refine XL.nil ?_)) <;> (first | refine Ex.then ?_ | (refine N.next ?_ <;> (refine X.seq ?_ <;> (refine X.text (L := (.op .fin 0 (.op .fin 1 (.op .fin 2 .nil)))) rfl (by kernel_rfl) ?_ <;>
    ((apply XL.detF rfl rfl rfl rfl; first | exact D.load1 rfl (fun w h => h.cellAt (Loc.at_) rfl) | exact D.loadN rfl rfl (fun w h j u hu => by rw [at_add, Nat.zero_add]; exact h.cellAt (Loc.at_) hu) | exact D.loadP rfl rfl)) <;>
    ((refine XL.call rfl rfl rfl rfl (fun w hw => refCheck_spec (up { m with sn := m.sn.take k ++ m.sn.drop (k + 1) }) a4 c4 w (hw.rd (a := a4)) h9.1 h9.2) ?_; rintro v B' ⟨e2, rfl, hq2, rfl⟩; refine XL.both ?_)) <;>
    ((apply XL.det0F rfl rfl rfl rfl; exact D.assign rfl)) <;>
    (refine XL.nil ?_)) <;> (first | refine Ex.then ?_ | (refine N.next ?_ <;> (refine X.seq ?_ <;> (refine X.seq ?_ <;> (refine X.text (L := (.op .fin 0 (.op .fin 1 .nil))) rfl (by kernel_rfl) ?_ <;>
    ((apply XL.det0F rfl rfl rfl rfl; exact D.move rfl)) <;>
    (refine XL.splitF rfl rfl rfl rfl (D.int rfl rfl rfl) (fun h2 => ?_) (fun h2 => ?_)) <;>
    (refine XL.nil ?_)) <;> (first | refine Ex.then ?_ | (refine N.next ?_ <;> ((
    refine X.cond rfl ?_ ?_; rotate_left; (focus (
    intro hc; first | exact absurd hc (by decide) | (cases hc; done) | (refine X.skip ?_))); rotate_right; (focus (
    intro hc; first | exact absurd hc (by decide) | (cases hc; done) | (refine X.seq ?_ <;> (refine X.text (L := (.op .fin 0 (.op .fin 1 (.op .fin 2 (.op .fin 3 .nil))))) rfl (by kernel_rfl) ?_ <;>
    ((apply XL.det0F rfl rfl rfl rfl; exact D.build rfl)) <;>
    ((apply XL.det0F rfl rfl rfl rfl; exact D.move rfl)) <;>
    (first | refine XL.store1 rfl rfl rfl rfl rfl ?_ | refine XL.storeN rfl rfl rfl rfl rfl rfl ?_) <;>
    ((apply XL.det0F rfl rfl rfl rfl; exact D.assign rfl)) <;>
    (refine XL.nil ?_)) <;> (first | refine Ex.then ?_ | (refine N.next ?_ <;> ((refine X.ret ?_; (repeat (first | refine Rt.then ?_ | refine Rt.block ?_ | refine Rt.scope ?_)); (first | apply Rt.done (Res.r2 Try.results26 (by first | exact RV.cell rfl rfl | exact RV.cell1 rfl) (RV.tmp rfl)) | apply Rt.doneM (Res.r2 Try.results26 (by first | exact RV.cell rfl rfl | exact RV.cell1 rfl) (RV.tmp rfl))); (focus (first | exact ⟨zM, e, none, 0, rfl, .inl ⟨hq, h1, rfl⟩, (rfl : [own 84 3 (.slice none 0 0) 0 []] = _)⟩ | exact ⟨zM, 15, none, 0, rfl, .inr (.inl ⟨hq, hf, rfl, rfl⟩), (rfl : [own 84 3 (.slice none 0 0) 0 []] = _)⟩ | exact ⟨zM, e2, none, 0, rfl, .inr (.inr ⟨hq, k, y, hf, e2, hq2, .inl ⟨h2, rfl, rfl⟩⟩), (rfl : [own 84 3 (.slice none 0 0) 0 []] = _)⟩ | ((obtain rfl : e2 = 0 := (by omega)); exact ⟨up { m with sn := m.sn.take k ++ m.sn.drop (k + 1) }, 0, a4, c4, rfl, .inr (.inr ⟨hq, k, y, hf, 0, hq2, .inr ⟨rfl, rfl, rfl⟩⟩), (rfl : [own 84 3 (.slice a4 (List.length (m.sn.take k ++ m.sn.drop (k + 1))) c4) (List.length (m.sn.take k ++ m.sn.drop (k + 1))) (encQ (m.sn.take k ++ m.sn.drop (k + 1)))] = _)⟩))); exact fun w h => h.takes)))))))))))) <;> (first | refine Ex.then ?_ | (refine N.next ?_ <;> (refine X.seq ?_ <;> (refine X.text (L := (.op .fin 0 (.op .fin 1 (.op .fin 2 .nil)))) rfl (by kernel_rfl) ?_ <;>
    ((apply XL.detF rfl rfl rfl rfl; first | exact D.load1 rfl (fun w h => h.cellAt (Loc.at_) rfl) | exact D.loadN rfl rfl (fun w h j u hu => by rw [at_add, Nat.zero_add]; exact h.cellAt (Loc.at_) hu) | exact D.loadP rfl rfl)) <;>
    (first | refine XL.store1 rfl rfl rfl rfl rfl ?_ | refine XL.storeN rfl rfl rfl rfl rfl rfl ?_) <;>
    ((apply XL.det0F rfl rfl rfl rfl; exact D.assign rfl)) <;>
    (refine XL.nil ?_)) <;> (first | refine Ex.then ?_ | (refine N.next ?_ <;> ((refine X.ret ?_; (repeat (first | refine Rt.then ?_ | refine Rt.block ?_ | refine Rt.scope ?_)); (first | apply Rt.done (Res.r2 Try.results26 (by first | exact RV.cell rfl rfl | exact RV.cell1 rfl) (RV.tmp rfl)) | apply Rt.doneM (Res.r2 Try.results26 (by first | exact RV.cell rfl rfl | exact RV.cell1 rfl) (RV.tmp rfl))); (focus (first | exact ⟨zM, e, none, 0, rfl, .inl ⟨hq, h1, rfl⟩, (rfl : [own 84 3 (.slice none 0 0) 0 []] = _)⟩ | exact ⟨zM, 15, none, 0, rfl, .inr (.inl ⟨hq, hf, rfl, rfl⟩), (rfl : [own 84 3 (.slice none 0 0) 0 []] = _)⟩ | exact ⟨zM, e2, none, 0, rfl, .inr (.inr ⟨hq, k, y, hf, e2, hq2, .inl ⟨h2, rfl, rfl⟩⟩), (rfl : [own 84 3 (.slice none 0 0) 0 []] = _)⟩ | ((obtain rfl : e2 = 0 := (by omega)); exact ⟨up { m with sn := m.sn.take k ++ m.sn.drop (k + 1) }, 0, a4, c4, rfl, .inr (.inr ⟨hq, k, y, hf, 0, hq2, .inr ⟨rfl, rfl, rfl⟩⟩), (rfl : [own 84 3 (.slice a4 (List.length (m.sn.take k ++ m.sn.drop (k + 1))) c4) (List.length (m.sn.take k ++ m.sn.drop (k + 1))) (encQ (m.sn.take k ++ m.sn.drop (k + 1)))] = _)⟩))); exact fun w h => h.takes)))))))))))))))))))))))))))))))))))

theorem viewQLN (a : Option Addr) (n c : Nat) (l : List Sn3) (m : Nat) (hn : l.length = n) (h1 : m ≤ n) : ∀ w', Rd w' 3 a n c (encQ l) → Rd w' 3 (subA a 3 m c) (n - m) (c - m) (encQ (l.drop m)) := by
  subst hn
  exact viewQL a c l m h1
theorem sixQ (a0 : Option Addr) (c0 : Nat) (l : List Sn3) : ∀ w', Rd w' 3 a0 l.length c0 (encQ l) → Rd w' 3 a0 l.length c0 (encQ l) := fun _ h => h
theorem refFind_specN (w : World) (m : Man) (l : List Sn3) (a : Option Addr) (n c : Nat) (s : Bs) (hn : l.length = n) (hl : Rd w 3 a n c (encQ l)) : Spec Try.prog 55 #[.agg #[.string ⟨List.toArray m.v⟩, .int .u64 ((m.k : Nat) : Int), .int .i64 (m.s + 1), .int .i64 m.z, .string ⟨List.toArray m.b⟩, .int .i64 m.bq, .slice a n c], .string ⟨List.toArray s⟩] w (fun _ => False) (fun v A => ((∃ i x, v = .int .i64 ((i : Nat) : Int) ∧ FirstAt l s i x) ∨ (v = .int .i64 (-1) ∧ NoneAt l s)) ∧ A = []) := by
  subst hn
  exact refFind_spec w (up { m with sn := l }) a c s hl
theorem refWith_spec (m : Man) (a0 : Option Addr) (c0 : Nat) (l : List Sn3) (b : Option Addr) (d : Nat) (w : World) (hl : Rd w 3 a0 m.sn.length c0 (encQ m.sn)) (hx : Rd w 3 b l.length d (encQ l)) (hlen : m.sn.length ≤ 1000 ∧ l.length ≤ 1000) (h9 : m.v.length ≤ 1000000000 ∧ m.b.length ≤ 1000000000) :
    Spec Try.prog 21 #[.agg #[.string ⟨List.toArray m.v⟩, .int .u64 ((m.k : Nat) : Int), .int .i64 m.s, .int .i64 m.z, .string ⟨List.toArray m.b⟩, .int .i64 m.bq, .slice a0 m.sn.length c0], .slice b l.length d] w (fun _ => False) (fun v A => ∃ (res : Man) (e : Int) (a' : Option Addr) (c' : Nat), v = .tuple #[.agg #[.string ⟨List.toArray res.v⟩, .int .u64 ((res.k : Nat) : Int), .int .i64 res.s, .int .i64 res.z, .string ⟨List.toArray res.b⟩, .int .i64 res.bq, .slice a' res.sn.length c'], .int .i64 e] ∧ WithR m l res e ∧ A = [vw 3 a0 m.sn.length c0 (encQ m.sn) 84 3 a' res.sn.length c' (encQ res.sn)]) := by
  refine Spec.enter (args := [.agg #[.string ⟨List.toArray m.v⟩, .int .u64 ((m.k : Nat) : Int), .int .i64 m.s, .int .i64 m.z, .string ⟨List.toArray m.b⟩, .int .i64 m.bq, .slice a0 m.sn.length c0], .slice b l.length d]) (A := []) Try.func21 rfl Try.ntmps21 rfl (fun _ h => h) ?_
  refine X.mem (B := [vw 3 a0 m.sn.length c0 (encQ m.sn) 84 3 none 0 0 (encQ (([] : List Sn3)))]) (fun w h => h.vwNew (fun w' _ => Rd.nil w' 3)) ?_
  (refine X.seq ?_ <;> (refine X.text (L := (.op .fin 0 (.op .fin 1 (.op .fin 2 .nil)))) rfl (by kernel_rfl) ?_ <;>
    (refine XL.boxN rfl rfl rfl rfl (by intro g; infer_instance) (fun g2 => ?_)) <;>
    (refine XL.alloc rfl rfl rfl (by intro g; infer_instance) (fun g4 => ?_)) <;>
    ((apply XL.det0F rfl rfl rfl rfl; exact D.assign rfl)) <;>
    (refine XL.nil ?_)) <;> (first | refine Ex.then ?_ | (refine N.next ?_ <;> (refine X.seq ?_ <;> (refine X.text (L := (.op .fin 0 (.op .fin 1 (.op .fin 2 .nil)))) rfl (by kernel_rfl) ?_ <;>
    ((apply XL.detF rfl rfl rfl rfl; first | exact D.load1 rfl (fun w h => h.cellAt (Loc.at_) rfl) | exact D.loadN rfl rfl (fun w h j u hu => by rw [at_add, Nat.zero_add]; exact h.cellAt (Loc.at_) hu) | exact D.loadP rfl rfl)) <;>
    ((refine XL.call rfl rfl rfl rfl (fun w hw => refCheck_spec m a0 c0 w (hl.conf0 hw) h9.1 h9.2) ?_; rintro v B' ⟨e, rfl, hq, rfl⟩; refine XL.both ?_)) <;>
    ((apply XL.det0F rfl rfl rfl rfl; exact D.assign rfl)) <;>
    (refine XL.nil ?_)) <;> (first | refine Ex.then ?_ | (refine N.next ?_ <;> (refine X.seq ?_ <;> (refine X.seq ?_ <;> (refine X.text (L := (.op .fin 0 (.op .fin 1 .nil))) rfl (by kernel_rfl) ?_ <;>
    ((apply XL.det0F rfl rfl rfl rfl; exact D.move rfl)) <;>
    (refine XL.splitF rfl rfl rfl rfl (D.int rfl rfl rfl) (fun h1 => ?_) (fun h1 => ?_)) <;>
    (refine XL.nil ?_)) <;> (first | refine Ex.then ?_ | (refine N.next ?_ <;> ((
    refine X.cond rfl ?_ ?_; rotate_left; (focus (
    intro hc; first | exact absurd hc (by decide) | (cases hc; done) | (refine X.skip ?_))); rotate_right; (focus (
    intro hc; first | exact absurd hc (by decide) | (cases hc; done) | (refine X.seq ?_ <;> (refine X.text (L := (.op .fin 0 (.op .fin 1 (.op .fin 2 (.op .fin 3 .nil))))) rfl (by kernel_rfl) ?_ <;>
    ((apply XL.det0F rfl rfl rfl rfl; exact D.build rfl)) <;>
    ((apply XL.det0F rfl rfl rfl rfl; exact D.move rfl)) <;>
    (first | refine XL.store1 rfl rfl rfl rfl rfl ?_ | refine XL.storeN rfl rfl rfl rfl rfl rfl ?_) <;>
    ((apply XL.det0F rfl rfl rfl rfl; exact D.assign rfl)) <;>
    (refine XL.nil ?_)) <;> (first | refine Ex.then ?_ | (refine N.next ?_ <;> ((refine X.ret ?_; (repeat (first | refine Rt.then ?_ | refine Rt.block ?_ | refine Rt.scope ?_)); (first | apply Rt.done (Res.r2 Try.results21 (by first | exact RV.cell rfl rfl | exact RV.cell1 rfl) (RV.tmp rfl)) | apply Rt.doneM (Res.r2 Try.results21 (by first | exact RV.cell rfl rfl | exact RV.cell1 rfl) (RV.tmp rfl))); (focus (first | exact ⟨zM, e, none, 0, rfl, .inl ⟨hq, h1, rfl⟩, (rfl : [vw 3 a0 m.sn.length c0 (encQ m.sn) 84 3 none 0 0 (encQ (([] : List Sn3)))] = _)⟩ | exact ⟨zM, 16, none, 0, rfl, .inr (.inl ⟨hq, fun hd => hd i x hxi y (hpm.mem_iff.1 (List.mem_of_getElem? hf.1)) hf.2.1, rfl, rfl⟩), (rfl : [vw 3 a0 m.sn.length c0 (encQ m.sn) 84 3 none 0 0 (encQ (([] : List Sn3)))] = _)⟩ | exact ⟨zM, e2, none, 0, rfl, .inr (.inr ⟨hq, hda, e2, hq2, .inl ⟨h5, rfl, rfl⟩⟩), (rfl : [vw 3 a0 m.sn.length c0 (encQ m.sn) 84 3 none 0 0 (encQ (([] : List Sn3)))] = _)⟩ | ((obtain rfl : e2 = 0 := (by omega)); exact ⟨up { m with sn := insAll m.sn l }, 0, a1, c1, rfl, .inr (.inr ⟨hq, hda, 0, hq2, .inr ⟨rfl, rfl, rfl⟩⟩), (rfl : [vw 3 a0 m.sn.length c0 (encQ m.sn) 84 3 a1 ((insAll m.sn l).length) c1 (encQ (insAll m.sn l))] = _)⟩))); exact fun w h => h.takes)))))))))))) <;> (first | refine Ex.then ?_ | (refine N.next ?_ <;> (refine X.seq ?_ <;> (refine X.text (L := (.op .fin 0 (.op .fin 1 (.op .fin 2 .nil)))) rfl (by kernel_rfl) ?_ <;>
    ((apply XL.detF rfl rfl rfl rfl; first | exact D.load1 rfl (fun w h => h.cellAt (Loc.at_) rfl) | exact D.loadN rfl rfl (fun w h j u hu => by rw [at_add, Nat.zero_add]; exact h.cellAt (Loc.at_) hu) | exact D.loadP rfl rfl)) <;>
    (refine XL.alloc rfl rfl rfl (by intro g; infer_instance) (fun g7 => ?_)) <;>
    (first | refine XL.store1 rfl rfl rfl rfl rfl ?_ | refine XL.storeN rfl rfl rfl rfl rfl rfl ?_) <;>
    (refine XL.nil ?_)) <;> (first | refine Ex.then ?_ | (refine N.next ?_ <;> (refine X.seq ?_ <;> (refine X.text (L := (.op .fin 0 (.op .fin 1 (.op .fin 2 (.op .fin 3 (.op .fin 4 .nil)))))) rfl (by kernel_rfl) ?_ <;>
    ((apply XL.det0F rfl rfl rfl rfl; first | exact D.fieldAddrB0 rfl rfl | exact D.fieldAddrB rfl rfl | exact D.fieldAddrE0 rfl rfl | exact D.fieldAddrE rfl rfl)) <;>
    ((apply XL.detF rfl rfl rfl rfl; first | exact D.load1 rfl (fun w h => h.cellAt (Loc.at_) rfl) | exact D.loadN rfl rfl (fun w h j u hu => by rw [at_add, Nat.zero_add]; exact h.cellAt (Loc.at_) hu) | exact D.loadP rfl rfl)) <;>
    ((obtain rfl : e = 0 := (by omega)); have hck := hq.names; have hst := StrictS.of_names hck.1; have hs := hck.2.2.2.1; unfold nmS at hs; (apply XL.det0F rfl rfl rfl rfl; exact D.add64 rfl rfl (by omega))) <;>
    ((apply XL.det0F rfl rfl rfl rfl; first | exact D.fieldAddrB0 rfl rfl | exact D.fieldAddrB rfl rfl | exact D.fieldAddrE0 rfl rfl | exact D.fieldAddrE rfl rfl)) <;>
    (first | refine XL.store1 rfl rfl rfl rfl rfl ?_ | refine XL.storeN rfl rfl rfl rfl rfl rfl ?_) <;>
    (refine XL.nil ?_)) <;> (first | refine Ex.then ?_ | (refine N.next ?_ <;> (refine X.seq ?_ <;> (refine X.seq ?_ <;> (refine X.text (L := (.op .fin 0 .nil)) rfl (by kernel_rfl) ?_ <;>
    (refine XL.mem (fun w h => h.vwNew (sixQ a0 c0 m.sn) (T := 84)) ?_; rw [show (Value.slice a0 m.sn.length c0) = .slice a0 (m.sn.length + 0) c0 from rfl, show vw 3 a0 m.sn.length c0 (encQ m.sn) 84 3 a0 m.sn.length c0 (encQ m.sn) = vw 3 a0 m.sn.length c0 (encQ m.sn) 84 3 a0 (m.sn.length + 0) c0 (encQ (insAll m.sn (l.take 0))) from rfl]; (apply XL.det0F rfl rfl rfl rfl; exact D.assign rfl)) <;>
    (refine XL.nil ?_)) <;> (first | refine Ex.then ?_ | (refine N.next ?_ <;> (refine X.block ?_ <;> ((refine X.loop (ι := Nat × Option Addr × Nat) (fun x => [(1, .slice b l.length d), (2, .pointer (some ⟨g2, 0, none⟩)), (4, .pointer (some ⟨g4, 0, none⟩)), (7, .pointer (some ⟨g7, 0, none⟩)), (8, .int .i64 x.1)]) (fun x => [cells g4 [.string ByteArray.empty, .int .u64 0, .int .i64 0, .int .i64 0, .string ByteArray.empty, .int .i64 0, .slice none 0 0] 35, cells g7 [.string ⟨List.toArray m.v⟩, .int .u64 ((m.k : Nat) : Int), .int .i64 (m.s + 1), .int .i64 m.z, .string ⟨List.toArray m.b⟩, .int .i64 m.bq, .slice x.2.1 (m.sn.length + x.1) x.2.2] 35, vw 3 a0 m.sn.length c0 (encQ m.sn) 84 3 x.2.1 (m.sn.length + x.1) x.2.2 (encQ (insAll m.sn (l.take x.1))), vw 3 a0 m.sn.length c0 (encQ m.sn) 84 3 none 0 0 (encQ (([] : List Sn3)))]) (fun x => x.1 ≤ l.length ∧ (∀ j y, j < x.1 → l[j]? = some y → ∀ z ∈ m.sn ++ l.take j, z.n ≠ y.n)) (fun x => l.length - x.1) ((0, a0, c0)) ?_ ?_ ?_ ?_; (focus (exact ⟨Nat.zero_le _, fun j y hj => absurd hj (Nat.not_lt_zero _)⟩)); (focus (repeat (first | exact Sub.nil | refine Sub.cons rfl ?_))); (focus (exact (fun w h => h.takes))); rintro ⟨i, a1, c1⟩ ⟨hi, hdis⟩; (dsimp only at *)) <;> (refine X.seq ?_ <;> (refine X.seq ?_ <;> (refine X.text (L := (.op .fin 0 (.op .fin 1 (.op .fin 2 (.op .fin 3 .nil))))) rfl (by kernel_rfl) ?_ <;>
    ((apply XL.det0F rfl rfl rfl rfl; exact D.move rfl)) <;>
    ((apply XL.det0F rfl rfl rfl rfl; exact D.move rfl)) <;>
    ((apply XL.det0F rfl rfl rfl rfl; first | exact D.len rfl | exact D.lenL rfl | exact D.lenS rfl)) <;>
    (refine XL.splitF rfl rfl rfl rfl (D.int rfl rfl rfl) (fun h2 => ?_) (fun h2 => ?_)) <;>
    (refine XL.nil ?_)) <;> (first | refine Ex.then ?_ | (refine N.next ?_ <;> ((
    refine X.cond rfl ?_ ?_; rotate_left; (focus (
    intro hc; first | exact absurd hc (by decide) | (cases hc; done) | (refine X.exit ?_))); rotate_right; (focus (
    intro hc; first | exact absurd hc (by decide) | (cases hc; done) | (refine X.skip ?_)))))))) <;> (first | refine Ex.then ?_ | (refine N.next ?_ <;> (refine X.seq ?_ <;> (refine X.block ?_ <;> (refine X.seq ?_ <;> (refine X.seq ?_ <;> (refine X.draw (.op .v1 0 (.op .v0 1 (.op .v0 2 (.op .v0 3 (.op .v0 4 (.op .v1 5 (.op .ch 6 (.op .v0 7 .nil)))))))) mixed (by kernel_rfl) ?_ <;>
    ((apply XL.det1 rfl rfl rfl rfl; first | exact D.load1 rfl (fun w h => h.cellAt (Loc.at_) rfl) | exact D.loadN rfl rfl (fun w h j u hu => by rw [at_add, Nat.zero_add]; exact h.cellAt (Loc.at_) hu) | exact D.loadP rfl rfl)) <;>
    ((apply XL.det0 rfl rfl rfl rfl; exact D.move rfl)) <;>
    ((apply XL.det0 rfl rfl rfl rfl; exact D.move rfl)) <;>
    (have hil : i < l.length := (by omega); obtain ⟨x, hxi⟩ := get_lt' hil; have hpm := insAll_perm m.sn (l.take i); have hLn : (insAll m.sn (l.take i)).length = m.sn.length + i := (by rw [hpm.length_eq, List.length_append, List.length_take]; omega); obtain ⟨L, hL⟩ : ∃ L, insAll m.sn (l.take i) = L := (⟨_, rfl⟩); rw [hL] at hpm hLn ⊢; (apply XL.det0 rfl rfl rfl rfl; exact D.indexAddr i rfl rfl rfl hil (hx.sm (by omega)))) <;>
    ((apply XL.det0 rfl rfl rfl rfl; first | exact D.fieldAddrB0 rfl rfl | exact D.fieldAddrB rfl rfl | exact D.fieldAddrE0 rfl rfl | exact D.fieldAddrE rfl rfl)) <;>
    ((apply XL.det1 rfl rfl rfl rfl; exact D.load1 rfl (fun w hw => (Rd.snapAt (hx.conf0 hw) hxi).1))) <;>
    ((refine XL.call rfl rfl rfl rfl (fun w hw => refFind_specN w m L a1 (m.sn.length + i) c1 x.n hLn (hw.vrd (a := a1) (hl.conf0 hw))) ?_; rintro v B' ⟨hf, rfl⟩; refine XL.both ?_); (rcases hf with ⟨k, y, rfl, hf⟩ | ⟨rfl, hf⟩)) <;>
    (first | refine XL.cmpT0 rfl rfl rfl rfl (D.int rfl rfl rfl) (by omega) ?_ | refine XL.cmpF0 rfl rfl rfl rfl (D.int rfl rfl rfl) (by omega) ?_) <;>
    (refine XL.nil ?_)) <;> (first | refine Ex.then ?_ | (refine N.next ?_ <;> ((
    refine X.cond rfl ?_ ?_; rotate_left; (focus (
    intro hc; first | exact absurd hc (by decide) | (cases hc; done) | (refine X.skip ?_))); rotate_right; (focus (
    intro hc; first | exact absurd hc (by decide) | (cases hc; done) | (refine X.seq ?_ <;> (refine X.text (L := (.op .fin 0 (.op .fin 1 (.op .fin 2 .nil)))) rfl (by kernel_rfl) ?_ <;>
    ((apply XL.det0F rfl rfl rfl rfl; exact D.build rfl)) <;>
    (first | refine XL.store1 rfl rfl rfl rfl rfl ?_ | refine XL.storeN rfl rfl rfl rfl rfl rfl ?_) <;>
    ((apply XL.det0F rfl rfl rfl rfl; exact D.assign rfl)) <;>
    (refine XL.nil ?_)) <;> (first | refine Ex.then ?_ | (refine N.next ?_ <;> ((refine X.ret ?_; (repeat (first | refine Rt.then ?_ | refine Rt.block ?_ | refine Rt.scope ?_)); (first | apply Rt.done (Res.r2 Try.results21 (by first | exact RV.cell rfl rfl | exact RV.cell1 rfl) (RV.tmp rfl)) | apply Rt.doneM (Res.r2 Try.results21 (by first | exact RV.cell rfl rfl | exact RV.cell1 rfl) (RV.tmp rfl))); (focus (first | exact ⟨zM, e, none, 0, rfl, .inl ⟨hq, h1, rfl⟩, (rfl : [vw 3 a0 m.sn.length c0 (encQ m.sn) 84 3 none 0 0 (encQ (([] : List Sn3)))] = _)⟩ | exact ⟨zM, 16, none, 0, rfl, .inr (.inl ⟨hq, fun hd => hd i x hxi y (hpm.mem_iff.1 (List.mem_of_getElem? hf.1)) hf.2.1, rfl, rfl⟩), (rfl : [vw 3 a0 m.sn.length c0 (encQ m.sn) 84 3 none 0 0 (encQ (([] : List Sn3)))] = _)⟩ | exact ⟨zM, e2, none, 0, rfl, .inr (.inr ⟨hq, hda, e2, hq2, .inl ⟨h5, rfl, rfl⟩⟩), (rfl : [vw 3 a0 m.sn.length c0 (encQ m.sn) 84 3 none 0 0 (encQ (([] : List Sn3)))] = _)⟩ | ((obtain rfl : e2 = 0 := (by omega)); exact ⟨up { m with sn := insAll m.sn l }, 0, a1, c1, rfl, .inr (.inr ⟨hq, hda, 0, hq2, .inr ⟨rfl, rfl, rfl⟩⟩), (rfl : [vw 3 a0 m.sn.length c0 (encQ m.sn) 84 3 a1 ((insAll m.sn l).length) c1 (encQ (insAll m.sn l))] = _)⟩))); exact fun w h => h.takes)))))))))))) <;> (first | refine Ex.then ?_ | (refine N.next ?_ <;> (refine X.seq ?_ <;> (refine X.text (L := (.op .fin 0 .nil)) rfl (by kernel_rfl) ?_ <;>
    ((apply XL.det0F rfl rfl rfl rfl; exact D.assign rfl)) <;>
    (refine XL.nil ?_)) <;> (first | refine Ex.then ?_ | (refine N.next ?_ <;> (refine X.seq ?_ <;> (refine X.text (L := (.op .fin 0 .nil)) rfl (by kernel_rfl) ?_ <;>
    (refine XL.mem (B := [own 84 3 (.slice none 0 0) 0 (encQ (L.take 0)), cells g4 [.string ByteArray.empty, .int .u64 0, .int .i64 0, .int .i64 0, .string ByteArray.empty, .int .i64 0, .slice none 0 0] 35, cells g7 [.string ⟨List.toArray m.v⟩, .int .u64 ((m.k : Nat) : Int), .int .i64 (m.s + 1), .int .i64 m.z, .string ⟨List.toArray m.b⟩, .int .i64 m.bq, .slice a1 (m.sn.length + i) c1] 35, vw 3 a0 m.sn.length c0 (encQ m.sn) 84 3 a1 (m.sn.length + i) c1 (encQ L), vw 3 a0 m.sn.length c0 (encQ m.sn) 84 3 none 0 0 (encQ (([] : List Sn3)))]) (fun w h => h.nilOwn 84 3) ?_; (apply XL.det0F rfl rfl rfl rfl; exact D.assign rfl)) <;>
    (refine XL.nil ?_)) <;> (first | refine Ex.then ?_ | (refine N.next ?_ <;> (refine X.seq ?_ <;> (refine X.block ?_ <;> ((refine X.loop (ι := Nat × Option Addr × Nat) (fun x => [(1, .slice b l.length d), (2, .pointer (some ⟨g2, 0, none⟩)), (4, .pointer (some ⟨g4, 0, none⟩)), (7, .pointer (some ⟨g7, 0, none⟩)), (8, .int .i64 i), (9, .slice x.2.1 x.1 x.2.2), (10, .int .i64 x.1)]) (fun x => [own 84 3 (.slice x.2.1 x.1 x.2.2) x.1 (encQ (L.take x.1)), cells g4 [.string ByteArray.empty, .int .u64 0, .int .i64 0, .int .i64 0, .string ByteArray.empty, .int .i64 0, .slice none 0 0] 35, cells g7 [.string ⟨List.toArray m.v⟩, .int .u64 ((m.k : Nat) : Int), .int .i64 (m.s + 1), .int .i64 m.z, .string ⟨List.toArray m.b⟩, .int .i64 m.bq, .slice a1 (m.sn.length + i) c1] 35, vw 3 a0 m.sn.length c0 (encQ m.sn) 84 3 a1 (m.sn.length + i) c1 (encQ L), vw 3 a0 m.sn.length c0 (encQ m.sn) 84 3 none 0 0 (encQ (([] : List Sn3)))]) (fun y => y.1 ≤ L.length ∧ (∀ j z, j < y.1 → L[j]? = some z → ltN z x)) (fun x => L.length - x.1) ((0, none, 0)) ?_ ?_ ?_ ?_; (focus (exact ⟨Nat.zero_le _, fun j z hj => absurd hj (Nat.not_lt_zero _)⟩)); (focus (repeat (first | exact Sub.nil | refine Sub.cons rfl ?_))); (focus (exact (fun w h => h.takes))); rintro ⟨k, a3, c3⟩ ⟨hk, hlt⟩; (dsimp only at *)) <;> (refine X.seq ?_ <;> (refine X.seq ?_ <;> (refine X.draw (.op .v0 0 (.op .v0 1 (.op .v1 2 (.op .v0 3 (.op .v0 4 (.op .v0 5 (.op .v0 6 (.op .v1 7 (.op .v0 8 (.op .v0 9 (.op .v0 10 (.op .v1 11 (.op .v0 12 (.op .v0 13 (.op .v0 14 (.op .v0 15 (.op .v1 16 (.op .v0 17 (.op .v0 18 .nil))))))))))))))))))) mixed (by kernel_rfl) ?_ <;>
    (refine XL.fact (p := 0 < m.sn.length + i → a1.isSome = true) (fun w hw => (hw.vrd (a := a1) (hl.conf0 hw)).sm) (fun hsm => ?_); (apply XL.det0 rfl rfl rfl rfl; exact D.move rfl)) <;>
    ((apply XL.det0 rfl rfl rfl rfl; first | exact D.fieldAddrB0 rfl rfl | exact D.fieldAddrB rfl rfl | exact D.fieldAddrE0 rfl rfl | exact D.fieldAddrE rfl rfl)) <;>
    ((apply XL.det1 rfl rfl rfl rfl; first | exact D.load1 rfl (fun w h => h.cellAt (Loc.at_) rfl) | exact D.loadN rfl rfl (fun w h j u hu => by rw [at_add, Nat.zero_add]; exact h.cellAt (Loc.at_) hu) | exact D.loadP rfl rfl)) <;>
    ((apply XL.det0 rfl rfl rfl rfl; first | exact D.len rfl | exact D.lenL rfl | exact D.lenS rfl)) <;>
    (refine XL.split0 rfl rfl rfl rfl (D.int rfl rfl rfl) (fun h3 => ?_) (fun h3 => ?_)) <;>
    ((apply XL.det0 rfl rfl rfl rfl; exact D.move rfl)) <;>
    (first | refine XL.skip0 rfl rfl rfl rfl ?_ | ((apply XL.det0 rfl rfl rfl rfl; first | exact D.fieldAddrB0 rfl rfl | exact D.fieldAddrB rfl rfl | exact D.fieldAddrE0 rfl rfl | exact D.fieldAddrE rfl rfl))) <;>
    (first | refine XL.skip1 rfl rfl rfl rfl ?_ | ((apply XL.det1 rfl rfl rfl rfl; first | exact D.load1 rfl (fun w h => h.cellAt (Loc.at_) rfl) | exact D.loadN rfl rfl (fun w h j u hu => by rw [at_add, Nat.zero_add]; exact h.cellAt (Loc.at_) hu) | exact D.loadP rfl rfl))) <;>
    (first | refine XL.skip0 rfl rfl rfl rfl ?_ | ((apply XL.det0 rfl rfl rfl rfl; exact D.move rfl))) <;>
    (first | refine XL.skip0 rfl rfl rfl rfl ?_ | (first | refine XL.skip0 rfl rfl rfl rfl ?_ | (obtain ⟨y, hy⟩ := get_lt' (l := L) (k := k) (by omega); (apply XL.det0 rfl rfl rfl rfl; exact D.indexAddr k rfl rfl rfl (by omega) (hsm (by omega)))))) <;>
    (first | refine XL.skip0 rfl rfl rfl rfl ?_ | ((apply XL.det0 rfl rfl rfl rfl; first | exact D.fieldAddrB0 rfl rfl | exact D.fieldAddrB rfl rfl | exact D.fieldAddrE0 rfl rfl | exact D.fieldAddrE rfl rfl))) <;>
    (first | refine XL.skip1 rfl rfl rfl rfl ?_ | (first | refine XL.skip1 rfl rfl rfl rfl ?_ | (apply XL.det1 rfl rfl rfl rfl; exact D.load1 rfl (fun w hw => (Rd.snapAt (hw.vrd (a := a1) (hl.conf0 hw)) hy).1)))) <;>
    (first | refine XL.skip0 rfl rfl rfl rfl ?_ | ((apply XL.det0 rfl rfl rfl rfl; exact D.move rfl))) <;>
    (first | refine XL.skip0 rfl rfl rfl rfl ?_ | ((apply XL.det0 rfl rfl rfl rfl; exact D.move rfl))) <;>
    (first | refine XL.skip0 rfl rfl rfl rfl ?_ | (first | refine XL.skip0 rfl rfl rfl rfl ?_ | (apply XL.det0 rfl rfl rfl rfl; exact D.indexAddr i rfl rfl rfl hil (hx.sm (by omega))))) <;>
    (first | refine XL.skip0 rfl rfl rfl rfl ?_ | ((apply XL.det0 rfl rfl rfl rfl; first | exact D.fieldAddrB0 rfl rfl | exact D.fieldAddrB rfl rfl | exact D.fieldAddrE0 rfl rfl | exact D.fieldAddrE rfl rfl))) <;>
    (first | refine XL.skip1 rfl rfl rfl rfl ?_ | (first | refine XL.skip1 rfl rfl rfl rfl ?_ | (apply XL.det1 rfl rfl rfl rfl; exact D.load1 rfl (fun w hw => (Rd.snapAt (hx.conf0 hw) hxi).1)))) <;>
    (first | refine XL.skip0 rfl rfl rfl rfl ?_ | (first | refine XL.skip0 rfl rfl rfl rfl ?_ | refine XL.split0 rfl rfl rfl rfl (D.strLt rfl rfl) (fun h4 => ?_) (fun h4 => ?_))) <;>
    ((apply XL.det0 rfl rfl rfl rfl; first | exact D.pickT rfl rfl | exact D.pickF rfl rfl | exact D.pick rfl rfl rfl)) <;>
    (refine XL.nil ?_)) <;> (first | refine Ex.then ?_ | (refine N.next ?_ <;> ((
    refine X.cond rfl ?_ ?_; rotate_left; (focus (
    intro hc; first | exact absurd hc (by decide) | (cases hc; done) | (refine X.exit ?_))); rotate_right; (focus (
    intro hc; first | exact absurd hc (by decide) | (cases hc; done) | (refine X.skip ?_)))))))) <;> (first | refine Ex.then ?_ | (refine N.next ?_ <;> (refine X.block ?_ <;> (refine X.seq ?_ <;> (refine X.text (L := (.op .fin 0 (.op .fin 1 (.op .fin 2 (.op .fin 3 (.op .fin 4 (.op .fin 5 (.op .fin 6 (.op .fin 7 (.op .fin 8 .nil)))))))))) rfl (by kernel_rfl) ?_ <;>
    ((apply XL.det0F rfl rfl rfl rfl; exact D.move rfl)) <;>
    ((apply XL.det0F rfl rfl rfl rfl; first | exact D.fieldAddrB0 rfl rfl | exact D.fieldAddrB rfl rfl | exact D.fieldAddrE0 rfl rfl | exact D.fieldAddrE rfl rfl)) <;>
    ((apply XL.detF rfl rfl rfl rfl; first | exact D.load1 rfl (fun w h => h.cellAt (Loc.at_) rfl) | exact D.loadN rfl rfl (fun w h j u hu => by rw [at_add, Nat.zero_add]; exact h.cellAt (Loc.at_) hu) | exact D.loadP rfl rfl)) <;>
    ((apply XL.det0F rfl rfl rfl rfl; exact D.move rfl)) <;>
    ((apply XL.det0F rfl rfl rfl rfl; exact D.indexAddr k rfl rfl rfl (by omega) (hsm (by omega)))) <;>
    ((apply XL.detF rfl rfl rfl rfl; exact D.loadN rfl rfl (fun w hw j u hu => Rd.snap (hw.vrd (a := a1) (hl.conf0 hw)) hy j u hu))) <;>
    (refine XL.slice1 rfl rfl rfl rfl rfl rfl (by intro g; infer_instance) (fun g_ => ?_)) <;>
    ((refine XL.append rfl rfl rfl rfl rfl rfl ?_ ?_ (fun a' c' => ?_); (focus (skip; unfold maxLen; omega)); (focus (intro _ _; infer_instance))); rw [encQ_snoc1, take_snoc' hy]) <;>
    ((apply XL.det0F rfl rfl rfl rfl; exact D.assign rfl)) <;>
    (refine XL.nil ?_)) <;> (first | refine Ex.then ?_ | (refine N.next ?_ <;> (refine X.text (L := (.op .fin 0 (.op .fin 1 (.op .fin 2 .nil)))) rfl (by kernel_rfl) ?_ <;>
    ((apply XL.det0F rfl rfl rfl rfl; exact D.move rfl)) <;>
    ((apply XL.det0F rfl rfl rfl rfl; first | exact D.add64 rfl rfl (by omega) | exact D.int rfl rfl rfl)) <;>
    ((apply XL.det0F rfl rfl rfl rfl; exact D.assign rfl)) <;>
    (refine XL.nil ?_))))) <;> (first | refine N.block ?_ | refine Ex.here ?_ | refine Ex.out rfl ?_))))) <;> (first | refine Ex.then ?_ | ((refine N.again ((k + 1, a', c')) ?_ ?_ ?_ ?_; (focus (exact ⟨by dsimp only; omega, fun j z hj hz => by rcases Nat.lt_or_ge j k with h | h; exact hlt j z h hz; (obtain rfl : j = k := by dsimp only at hj; omega); rw [hy] at hz; cases hz; exact h4⟩)); (focus (first | omega | (dsimp only; omega))); (focus (repeat (first | exact Sub.nil | refine Sub.cons rfl ?_))); exact (fun w h => h.takes))))) <;> (first | refine N.block ?_ | refine Ex.here ?_ | refine Ex.out rfl ?_)) <;> (first | refine Ex.then ?_ | (refine N.next ?_ <;> (refine X.seq ?_ <;> (refine X.text (L := (.op .fin 0 (.op .fin 1 (.op .fin 2 (.op .fin 3 (.op .fin 4 (.op .fin 5 (.op .fin 6 (.op .fin 7 .nil))))))))) rfl (by kernel_rfl) ?_ <;>
    ((apply XL.det0F rfl rfl rfl rfl; exact D.move rfl)) <;>
    ((apply XL.det0F rfl rfl rfl rfl; exact D.move rfl)) <;>
    ((apply XL.det0F rfl rfl rfl rfl; exact D.move rfl)) <;>
    (have hins : ins L x = L.take k ++ x :: L.drop k := (ins_at hk hlt (fun z hz => by first | (have := lt_of_get' hz; omega) | (rw [hy] at hz; cases hz; exact h4))); (apply XL.det0F rfl rfl rfl rfl; exact D.indexAddr i rfl rfl rfl hil (hx.sm (by omega)))) <;>
    ((apply XL.detF rfl rfl rfl rfl; exact D.loadN rfl rfl (fun w hw j u hu => Rd.snap (hx.conf0 hw) hxi j u hu))) <;>
    (refine XL.slice1 rfl rfl rfl rfl rfl rfl (by intro g; infer_instance) (fun g_ => ?_)) <;>
    ((refine XL.append rfl rfl rfl rfl rfl rfl ?_ ?_ (fun a' c' => ?_); (focus (skip; unfold maxLen; omega)); (focus (intro _ _; infer_instance))); rw [encQ_snoc1]) <;>
    ((apply XL.det0F rfl rfl rfl rfl; exact D.assign rfl)) <;>
    (refine XL.nil ?_)) <;> (first | refine Ex.then ?_ | (refine N.next ?_ <;> (refine X.text (L := (.op .fin 0 (.op .fin 1 (.op .fin 2 (.op .fin 3 (.op .fin 4 (.op .fin 5 (.op .fin 6 (.op .fin 7 .nil))))))))) rfl (by kernel_rfl) ?_ <;>
    ((apply XL.det0F rfl rfl rfl rfl; exact D.move rfl)) <;>
    ((apply XL.det0F rfl rfl rfl rfl; first | exact D.fieldAddrB0 rfl rfl | exact D.fieldAddrB rfl rfl | exact D.fieldAddrE0 rfl rfl | exact D.fieldAddrE rfl rfl)) <;>
    ((apply XL.detF rfl rfl rfl rfl; first | exact D.load1 rfl (fun w h => h.cellAt (Loc.at_) rfl) | exact D.loadN rfl rfl (fun w h j u hu => by rw [at_add, Nat.zero_add]; exact h.cellAt (Loc.at_) hu) | exact D.loadP rfl rfl)) <;>
    ((apply XL.det0F rfl rfl rfl rfl; exact D.move rfl)) <;>
    ((apply XL.det0F rfl rfl rfl rfl; exact D.sliceL (l := k) rfl rfl (by omega))) <;>
    ((refine XL.appendR (a2 := subA a1 3 k c1) (m := m.sn.length + i - k) (c2 := c1 - k) (news := encQ (L.drop k)) rfl rfl rfl rfl rfl (fun w hw => viewQLN a1 (m.sn.length + i) c1 L k hLn (by omega) w (hw.vrd (a := a1) (hl.conf0 hw))) (encQ_one _) (by unfold maxLen; omega) (fun _ _ => by infer_instance) (fun a5 c5 => ?_)); rw [show encQ (L.take k ++ [x]) ++ encQ (L.drop k) = encQ (insAll m.sn (l.take (i + 1))) from (by rw [← take_snoc' hxi, insAll_snoc, hL, hins]; simp [encQ]), show k + 1 + (m.sn.length + i - k) = m.sn.length + (i + 1) from (by omega)]; refine XL.mem (fun w h => h.vwOwn (sz0 := 3) (a0 := a0) (n0 := m.sn.length) (c0 := c0) (xs0 := encQ m.sn)) ?_) <;>
    ((apply XL.det0F rfl rfl rfl rfl; first | exact D.fieldAddrB0 rfl rfl | exact D.fieldAddrB rfl rfl | exact D.fieldAddrE0 rfl rfl | exact D.fieldAddrE rfl rfl)) <;>
    (first | refine XL.store1 rfl rfl rfl rfl rfl ?_ | refine XL.storeN rfl rfl rfl rfl rfl rfl ?_) <;>
    (refine XL.nil ?_))))))))))))))))) <;> (first | refine N.block ?_ | refine Ex.here ?_ | refine Ex.out rfl ?_)) <;> (first | refine Ex.then ?_ | (refine N.next ?_ <;> (refine X.text (L := (.op .fin 0 (.op .fin 1 (.op .fin 2 .nil)))) rfl (by kernel_rfl) ?_ <;>
    ((apply XL.det0F rfl rfl rfl rfl; exact D.move rfl)) <;>
    ((apply XL.det0F rfl rfl rfl rfl; first | exact D.add64 rfl rfl (by omega) | exact D.int rfl rfl rfl)) <;>
    ((apply XL.det0F rfl rfl rfl rfl; exact D.assign rfl)) <;>
    (refine XL.nil ?_)))))))) <;> (first | refine Ex.then ?_ | ((refine N.again ((i + 1, a5, c5)) ?_ ?_ ?_ ?_; (focus (exact ⟨by dsimp only; omega, fun j z hj hz => by rcases Nat.lt_or_ge j i with h | h; exact hdis j z h hz; (obtain rfl : j = i := by dsimp only at hj; omega); rw [hxi] at hz; cases hz; exact fun u hu => hf u (hpm.mem_iff.2 hu)⟩)); (focus (first | omega | (dsimp only; omega))); (focus (repeat (first | exact Sub.nil | refine Sub.cons rfl ?_))); exact (fun w h => h.takes))))) <;> (first | refine N.block ?_ | refine Ex.here ?_ | refine Ex.out rfl ?_))))) <;> (first | refine Ex.then ?_ | (refine N.next ?_ <;> (refine X.seq ?_ <;> (refine X.text (L := (.op .fin 0 (.op .fin 1 (.op .fin 2 .nil)))) rfl (by kernel_rfl) ?_ <;>
    ((obtain rfl : i = l.length := (by omega)); rw [List.take_length]; have hda : DistA m.sn l := (fun j y hy => hdis j y (lt_of_get' hy) hy); have hLn' : (insAll m.sn l).length = m.sn.length + l.length := (by rw [(insAll_perm m.sn l).length_eq, List.length_append]); rw [← hLn']; (apply XL.detF rfl rfl rfl rfl; exact D.loadN rfl rfl (fun w h j u hu => by rw [at_add, Nat.zero_add]; exact h.cellAt (Loc.at_) hu))) <;>
    ((refine XL.call rfl rfl rfl rfl (fun w hw => refCheck_spec (up { m with sn := insAll m.sn l }) a1 c1 w (hw.vrd (a := a1) (hl.conf0 hw)) h9.1 h9.2) ?_; rintro v B' ⟨e2, rfl, hq2, rfl⟩; refine XL.both ?_)) <;>
    ((apply XL.det0F rfl rfl rfl rfl; exact D.assign rfl)) <;>
    (refine XL.nil ?_)) <;> (first | refine Ex.then ?_ | (refine N.next ?_ <;> (refine X.seq ?_ <;> (refine X.seq ?_ <;> (refine X.text (L := (.op .fin 0 (.op .fin 1 .nil))) rfl (by kernel_rfl) ?_ <;>
    ((apply XL.det0F rfl rfl rfl rfl; exact D.move rfl)) <;>
    (refine XL.splitF rfl rfl rfl rfl (D.int rfl rfl rfl) (fun h5 => ?_) (fun h5 => ?_)) <;>
    (refine XL.nil ?_)) <;> (first | refine Ex.then ?_ | (refine N.next ?_ <;> ((
    refine X.cond rfl ?_ ?_; rotate_left; (focus (
    intro hc; first | exact absurd hc (by decide) | (cases hc; done) | (refine X.skip ?_))); rotate_right; (focus (
    intro hc; first | exact absurd hc (by decide) | (cases hc; done) | (refine X.seq ?_ <;> (refine X.text (L := (.op .fin 0 (.op .fin 1 (.op .fin 2 (.op .fin 3 .nil))))) rfl (by kernel_rfl) ?_ <;>
    ((apply XL.det0F rfl rfl rfl rfl; exact D.build rfl)) <;>
    ((apply XL.det0F rfl rfl rfl rfl; exact D.move rfl)) <;>
    (first | refine XL.store1 rfl rfl rfl rfl rfl ?_ | refine XL.storeN rfl rfl rfl rfl rfl rfl ?_) <;>
    ((apply XL.det0F rfl rfl rfl rfl; exact D.assign rfl)) <;>
    (refine XL.nil ?_)) <;> (first | refine Ex.then ?_ | (refine N.next ?_ <;> ((refine X.ret ?_; (repeat (first | refine Rt.then ?_ | refine Rt.block ?_ | refine Rt.scope ?_)); (first | apply Rt.done (Res.r2 Try.results21 (by first | exact RV.cell rfl rfl | exact RV.cell1 rfl) (RV.tmp rfl)) | apply Rt.doneM (Res.r2 Try.results21 (by first | exact RV.cell rfl rfl | exact RV.cell1 rfl) (RV.tmp rfl))); (focus (first | exact ⟨zM, e, none, 0, rfl, .inl ⟨hq, h1, rfl⟩, (rfl : [vw 3 a0 m.sn.length c0 (encQ m.sn) 84 3 none 0 0 (encQ (([] : List Sn3)))] = _)⟩ | exact ⟨zM, 16, none, 0, rfl, .inr (.inl ⟨hq, fun hd => hd i x hxi y (hpm.mem_iff.1 (List.mem_of_getElem? hf.1)) hf.2.1, rfl, rfl⟩), (rfl : [vw 3 a0 m.sn.length c0 (encQ m.sn) 84 3 none 0 0 (encQ (([] : List Sn3)))] = _)⟩ | exact ⟨zM, e2, none, 0, rfl, .inr (.inr ⟨hq, hda, e2, hq2, .inl ⟨h5, rfl, rfl⟩⟩), (rfl : [vw 3 a0 m.sn.length c0 (encQ m.sn) 84 3 none 0 0 (encQ (([] : List Sn3)))] = _)⟩ | ((obtain rfl : e2 = 0 := (by omega)); exact ⟨up { m with sn := insAll m.sn l }, 0, a1, c1, rfl, .inr (.inr ⟨hq, hda, 0, hq2, .inr ⟨rfl, rfl, rfl⟩⟩), (rfl : [vw 3 a0 m.sn.length c0 (encQ m.sn) 84 3 a1 ((insAll m.sn l).length) c1 (encQ (insAll m.sn l))] = _)⟩))); exact fun w h => h.takes)))))))))))) <;> (first | refine Ex.then ?_ | (refine N.next ?_ <;> (refine X.seq ?_ <;> (refine X.text (L := (.op .fin 0 (.op .fin 1 (.op .fin 2 .nil)))) rfl (by kernel_rfl) ?_ <;>
    ((apply XL.detF rfl rfl rfl rfl; first | exact D.load1 rfl (fun w h => h.cellAt (Loc.at_) rfl) | exact D.loadN rfl rfl (fun w h j u hu => by rw [at_add, Nat.zero_add]; exact h.cellAt (Loc.at_) hu) | exact D.loadP rfl rfl)) <;>
    (first | refine XL.store1 rfl rfl rfl rfl rfl ?_ | refine XL.storeN rfl rfl rfl rfl rfl rfl ?_) <;>
    ((apply XL.det0F rfl rfl rfl rfl; exact D.assign rfl)) <;>
    (refine XL.nil ?_)) <;> (first | refine Ex.then ?_ | (refine N.next ?_ <;> ((refine X.ret ?_; (repeat (first | refine Rt.then ?_ | refine Rt.block ?_ | refine Rt.scope ?_)); (first | apply Rt.done (Res.r2 Try.results21 (by first | exact RV.cell rfl rfl | exact RV.cell1 rfl) (RV.tmp rfl)) | apply Rt.doneM (Res.r2 Try.results21 (by first | exact RV.cell rfl rfl | exact RV.cell1 rfl) (RV.tmp rfl))); (focus (first | exact ⟨zM, e, none, 0, rfl, .inl ⟨hq, h1, rfl⟩, (rfl : [vw 3 a0 m.sn.length c0 (encQ m.sn) 84 3 none 0 0 (encQ (([] : List Sn3)))] = _)⟩ | exact ⟨zM, 16, none, 0, rfl, .inr (.inl ⟨hq, fun hd => hd i x hxi y (hpm.mem_iff.1 (List.mem_of_getElem? hf.1)) hf.2.1, rfl, rfl⟩), (rfl : [vw 3 a0 m.sn.length c0 (encQ m.sn) 84 3 none 0 0 (encQ (([] : List Sn3)))] = _)⟩ | exact ⟨zM, e2, none, 0, rfl, .inr (.inr ⟨hq, hda, e2, hq2, .inl ⟨h5, rfl, rfl⟩⟩), (rfl : [vw 3 a0 m.sn.length c0 (encQ m.sn) 84 3 none 0 0 (encQ (([] : List Sn3)))] = _)⟩ | ((obtain rfl : e2 = 0 := (by omega)); exact ⟨up { m with sn := insAll m.sn l }, 0, a1, c1, rfl, .inr (.inr ⟨hq, hda, 0, hq2, .inr ⟨rfl, rfl, rfl⟩⟩), (rfl : [vw 3 a0 m.sn.length c0 (encQ m.sn) 84 3 a1 ((insAll m.sn l).length) c1 (encQ (insAll m.sn l))] = _)⟩))); exact fun w h => h.takes)))))))))))))))))))))))))))))
end Go.Lx
