/- With, Without, Resize of package mani. -/
import Derived.Test.YtlbcedllbobpaaaMh
namespace Go.Lx
open Go.Proofs
set_option linter.unusedVariables false
set_option linter.unusedSimpArgs false
set_option maxRecDepth 20000
set_option maxHeartbeats 4000000
theorem encQ_snoc1 (l : List Sn3) (x : Sn3) : encQ l ++ encQ1 x = encQ (l ++ [x]) := by simp [encQ]
theorem next_spec (m : Man) (a : Option Addr) (c : Nat) (w : World) (hl : Rd w 3 a m.sn.length c (encQ m.sn)) (hs : nmS m.s) : Spec Try.prog 54 #[.agg #[.string ⟨List.toArray m.v⟩, .int .u64 ((m.k : Nat) : Int), .int .i64 m.s, .int .i64 m.z, .string ⟨List.toArray m.b⟩, .int .i64 m.bq, .slice a m.sn.length c]] w (fun _ => False) (fun v A => ((∃ e, IsChkM (up m) e ∧ e ≠ 0 ∧ v = .tuple #[.agg #[.string ⟨List.toArray zM.v⟩, .int .u64 ((zM.k : Nat) : Int), .int .i64 zM.s, .int .i64 zM.z, .string ⟨List.toArray zM.b⟩, .int .i64 zM.bq, .slice none zM.sn.length 0], .int .i64 e]) ∨ (IsChkM (up m) 0 ∧ v = .tuple #[.agg #[.string ⟨List.toArray ((up m).v)⟩, .int .u64 (((up m).k : Nat) : Int), .int .i64 (up m).s, .int .i64 (up m).z, .string ⟨List.toArray ((up m).b)⟩, .int .i64 (up m).bq, .slice a (up m).sn.length c], .int .i64 0])) ∧ A = []) := by
  unfold nmS at hs
  refine Spec.enter (args := [.agg #[.string ⟨List.toArray m.v⟩, .int .u64 ((m.k : Nat) : Int), .int .i64 m.s, .int .i64 m.z, .string ⟨List.toArray m.b⟩, .int .i64 m.bq, .slice a m.sn.length c]]) (A := []) Try.func54 rfl Try.ntmps54 rfl (fun _ h => h) ?_
  (refine X.seq ?_ <;> (refine X.text (L := (.op .fin 0 (.op .fin 1 (.op .fin 2 .nil)))) rfl (by kernel_rfl) ?_ <;>
    (refine XL.boxN rfl rfl rfl rfl (by intro g; infer_instance) (fun g1 => ?_)) <;>
    (refine XL.alloc rfl rfl rfl (by intro g; infer_instance) (fun g => ?_)) <;>
    ((apply XL.det0F rfl rfl rfl rfl; exact D.assign rfl)) <;>
    (refine XL.nil ?_)) <;> (first | refine Ex.then ?_ | (refine N.next ?_ <;> (refine X.seq ?_ <;> (refine X.text (L := (.op .fin 0 (.op .fin 1 (.op .fin 2 (.op .fin 3 (.op .fin 4 .nil)))))) rfl (by kernel_rfl) ?_ <;>
    ((apply XL.det0F rfl rfl rfl rfl; first | exact D.fieldAddrB0 rfl rfl | exact D.fieldAddrB rfl rfl | exact D.fieldAddrE0 rfl rfl | exact D.fieldAddrE rfl rfl)) <;>
    ((apply XL.detF rfl rfl rfl rfl; first | exact D.load1 rfl (fun w h => h.cellAt (Loc.at_) rfl) | exact D.loadN rfl rfl (fun w h j u hu => by rw [at_add, Nat.zero_add]; exact h.cellAt (Loc.at_) hu) | exact D.loadP rfl rfl)) <;>
    ((apply XL.det0F rfl rfl rfl rfl; exact D.add64 rfl rfl (by omega))) <;>
    ((apply XL.det0F rfl rfl rfl rfl; first | exact D.fieldAddrB0 rfl rfl | exact D.fieldAddrB rfl rfl | exact D.fieldAddrE0 rfl rfl | exact D.fieldAddrE rfl rfl)) <;>
    (first | refine XL.store1 rfl rfl rfl rfl rfl ?_ | refine XL.storeN rfl rfl rfl rfl rfl rfl ?_) <;>
    (refine XL.nil ?_)) <;> (first | refine Ex.then ?_ | (refine N.next ?_ <;> (refine X.seq ?_ <;> (refine X.seq ?_ <;> (refine X.text (L := (.op .fin 0 (.op .fin 1 (.op .fin 2 .nil)))) rfl (by kernel_rfl) ?_ <;>
    ((apply XL.detF rfl rfl rfl rfl; first | exact D.load1 rfl (fun w h => h.cellAt (Loc.at_) rfl) | exact D.loadN rfl rfl (fun w h j u hu => by rw [at_add, Nat.zero_add]; exact h.cellAt (Loc.at_) hu) | exact D.loadP rfl rfl)) <;>
    ((refine XL.call rfl rfl rfl rfl (fun w hw => Check_spec (up m) a c w (hl.conf0 hw)) ?_; rintro v B' ⟨e, rfl, hq, rfl⟩; refine XL.both ?_)) <;>
    ((apply XL.det0F rfl rfl rfl rfl; exact D.assign rfl)) <;>
    (refine XL.nil ?_)) <;> (first | refine Ex.then ?_ | (refine N.next ?_ <;> (refine X.seq ?_ <;> (refine X.text (L := (.op .fin 0 (.op .fin 1 .nil))) rfl (by kernel_rfl) ?_ <;>
    ((apply XL.det0F rfl rfl rfl rfl; exact D.move rfl)) <;>
    (refine XL.splitF rfl rfl rfl rfl (D.int rfl rfl rfl) (fun h1 => ?_) (fun h1 => ?_)) <;>
    (refine XL.nil ?_)) <;> (first | refine Ex.then ?_ | (refine N.next ?_ <;> ((
    refine X.cond rfl ?_ ?_; rotate_left; (focus (
    intro hc; first | exact absurd hc (by decide) | (cases hc; done) | (refine X.skip ?_))); rotate_right; (focus (
    intro hc; first | exact absurd hc (by decide) | (cases hc; done) | (refine X.seq ?_ <;> (refine X.text (L := (.op .fin 0 (.op .fin 1 (.op .fin 2 (.op .fin 3 .nil))))) rfl (by kernel_rfl) ?_ <;>
    ((apply XL.det0F rfl rfl rfl rfl; exact D.build rfl)) <;>
    ((apply XL.det0F rfl rfl rfl rfl; exact D.move rfl)) <;>
    (first | refine XL.store1 rfl rfl rfl rfl rfl ?_ | refine XL.storeN rfl rfl rfl rfl rfl rfl ?_) <;>
    ((apply XL.det0F rfl rfl rfl rfl; exact D.assign rfl)) <;>
    (refine XL.nil ?_)) <;> (first | refine Ex.then ?_ | (refine N.next ?_ <;> ((refine X.ret ?_; (repeat (first | refine Rt.then ?_ | refine Rt.block ?_ | refine Rt.scope ?_)); (first | apply Rt.done (Res.r2 Try.results54 (by first | exact RV.cell rfl rfl | exact RV.cell1 rfl) (RV.tmp rfl)) | apply Rt.doneM (Res.r2 Try.results54 (by first | exact RV.cell rfl rfl | exact RV.cell1 rfl) (RV.tmp rfl))); (focus (first | exact ⟨.inl ⟨e, hq, h1, rfl⟩, rfl⟩ | (obtain rfl : e = 0 := (by omega); exact ⟨.inr ⟨hq, rfl⟩, rfl⟩))); exact fun w h => h.takes))))))))))))))) <;> (first | refine Ex.then ?_ | (refine N.next ?_ <;> (refine X.seq ?_ <;> (refine X.text (L := (.op .fin 0 (.op .fin 1 (.op .fin 2 .nil)))) rfl (by kernel_rfl) ?_ <;>
    ((apply XL.detF rfl rfl rfl rfl; first | exact D.load1 rfl (fun w h => h.cellAt (Loc.at_) rfl) | exact D.loadN rfl rfl (fun w h j u hu => by rw [at_add, Nat.zero_add]; exact h.cellAt (Loc.at_) hu) | exact D.loadP rfl rfl)) <;>
    (first | refine XL.store1 rfl rfl rfl rfl rfl ?_ | refine XL.storeN rfl rfl rfl rfl rfl rfl ?_) <;>
    ((apply XL.det0F rfl rfl rfl rfl; exact D.assign rfl)) <;>
    (refine XL.nil ?_)) <;> (first | refine Ex.then ?_ | (refine N.next ?_ <;> ((refine X.ret ?_; (repeat (first | refine Rt.then ?_ | refine Rt.block ?_ | refine Rt.scope ?_)); (first | apply Rt.done (Res.r2 Try.results54 (by first | exact RV.cell rfl rfl | exact RV.cell1 rfl) (RV.tmp rfl)) | apply Rt.doneM (Res.r2 Try.results54 (by first | exact RV.cell rfl rfl | exact RV.cell1 rfl) (RV.tmp rfl))); (focus (first | exact ⟨.inl ⟨e, hq, h1, rfl⟩, rfl⟩ | (obtain rfl : e = 0 := (by omega); exact ⟨.inr ⟨hq, rfl⟩, rfl⟩))); exact fun w h => h.takes))))))))))))))
theorem place_specN (w : World) (a : Option Addr) (n c : Nat) (l : List Sn3) (s : Bs) (hn : l.length = n) (hl : Rd w 3 a n c (encQ l)) : Spec Try.prog 50 #[.slice a n c, .string ⟨List.toArray s⟩] w (fun _ => False) (fun v A => ((∃ i x, v = .tuple #[.int .i64 ((i : Nat) : Int), .bool true] ∧ FirstAt l s i x) ∨ (v = .tuple #[.int .i64 (-1), .bool false] ∧ NoneAt l s)) ∧ A = []) := by
  subst hn
  exact place_spec w a c l s hl
theorem With_spec (m : Man) (a : Option Addr) (c : Nat) (l : List Sn3) (b : Option Addr) (d : Nat) (w : World) (hl : Rd w 3 a m.sn.length c (encQ m.sn)) (hx : Rd w 3 b l.length d (encQ l)) (hlen : m.sn.length ≤ 1000 ∧ l.length ≤ 1000) : Spec Try.prog 20 #[.agg #[.string ⟨List.toArray m.v⟩, .int .u64 ((m.k : Nat) : Int), .int .i64 m.s, .int .i64 m.z, .string ⟨List.toArray m.b⟩, .int .i64 m.bq, .slice a m.sn.length c], .slice b l.length d] w (fun _ => False) (fun v A => ∃ (res : Man) (e : Int) (a' : Option Addr) (c' : Nat), v = .tuple #[.agg #[.string ⟨List.toArray res.v⟩, .int .u64 ((res.k : Nat) : Int), .int .i64 res.s, .int .i64 res.z, .string ⟨List.toArray res.b⟩, .int .i64 res.bq, .slice a' res.sn.length c'], .int .i64 e] ∧ WithR m l res e ∧ A = [own 56 3 (.slice a' (List.length res.sn) c') (List.length res.sn) (encQ res.sn)]) := by
  refine Spec.enter (args := [.agg #[.string ⟨List.toArray m.v⟩, .int .u64 ((m.k : Nat) : Int), .int .i64 m.s, .int .i64 m.z, .string ⟨List.toArray m.b⟩, .int .i64 m.bq, .slice a m.sn.length c], .slice b l.length d]) (A := []) Try.func20 rfl Try.ntmps20 rfl (fun _ h => h) ?_
  refine X.mem (B := [own 56 3 (.slice none 0 0) 0 []]) (fun w h => h.nilOwn 56 3) ?_
  (refine X.seq ?_ <;> (refine X.text (L := (.op .fin 0 (.op .fin 1 (.op .fin 2 .nil)))) rfl (by kernel_rfl) ?_ <;>
    (refine XL.boxN rfl rfl rfl rfl (by intro g; infer_instance) (fun g2 => ?_)) <;>
    (refine XL.alloc rfl rfl rfl (by intro g; infer_instance) (fun g4 => ?_)) <;>
    ((apply XL.det0F rfl rfl rfl rfl; exact D.assign rfl)) <;>
    (refine XL.nil ?_)) <;> (first | refine Ex.then ?_ | (refine N.next ?_ <;> (refine X.seq ?_ <;> (refine X.seq ?_ <;> (refine X.text (L := (.op .fin 0 (.op .fin 1 (.op .fin 2 .nil)))) rfl (by kernel_rfl) ?_ <;>
    ((apply XL.detF rfl rfl rfl rfl; first | exact D.load1 rfl (fun w h => h.cellAt (Loc.at_) rfl) | exact D.loadN rfl rfl (fun w h j u hu => by rw [at_add, Nat.zero_add]; exact h.cellAt (Loc.at_) hu) | exact D.loadP rfl rfl)) <;>
    ((refine XL.call rfl rfl rfl rfl (fun w hw => Check_spec m a c w (hl.conf0 hw)) ?_; rintro v B' ⟨e, rfl, hq, rfl⟩; refine XL.both ?_)) <;>
    ((apply XL.det0F rfl rfl rfl rfl; exact D.assign rfl)) <;>
    (refine XL.nil ?_)) <;> (first | refine Ex.then ?_ | (refine N.next ?_ <;> (refine X.seq ?_ <;> (refine X.text (L := (.op .fin 0 (.op .fin 1 .nil))) rfl (by kernel_rfl) ?_ <;>
    ((apply XL.det0F rfl rfl rfl rfl; exact D.move rfl)) <;>
    (refine XL.splitF rfl rfl rfl rfl (D.int rfl rfl rfl) (fun h1 => ?_) (fun h1 => ?_)) <;>
    (refine XL.nil ?_)) <;> (first | refine Ex.then ?_ | (refine N.next ?_ <;> ((
    refine X.cond rfl ?_ ?_; rotate_left; (focus (
    intro hc; first | exact absurd hc (by decide) | (cases hc; done) | (refine X.skip ?_))); rotate_right; (focus (
    intro hc; first | exact absurd hc (by decide) | (cases hc; done) | (refine X.seq ?_ <;> (refine X.text (L := (.op .fin 0 (.op .fin 1 (.op .fin 2 (.op .fin 3 .nil))))) rfl (by kernel_rfl) ?_ <;>
    ((apply XL.det0F rfl rfl rfl rfl; exact D.build rfl)) <;>
    ((apply XL.det0F rfl rfl rfl rfl; exact D.move rfl)) <;>
    (first | refine XL.store1 rfl rfl rfl rfl rfl ?_ | refine XL.storeN rfl rfl rfl rfl rfl rfl ?_) <;>
    ((apply XL.det0F rfl rfl rfl rfl; exact D.assign rfl)) <;>
    (refine XL.nil ?_)) <;> (first | refine Ex.then ?_ | (refine N.next ?_ <;> ((refine X.ret ?_; (repeat (first | refine Rt.then ?_ | refine Rt.block ?_ | refine Rt.scope ?_)); (first | apply Rt.done (Res.r2 Try.results20 (by first | exact RV.cell rfl rfl | exact RV.cell1 rfl) (RV.tmp rfl)) | apply Rt.doneM (Res.r2 Try.results20 (by first | exact RV.cell rfl rfl | exact RV.cell1 rfl) (RV.tmp rfl))); (focus (first | exact ⟨zM, e, none, 0, rfl, .inl ⟨hq, h1, rfl⟩, (rfl : [own 56 3 (.slice none 0 0) 0 []] = _)⟩ | exact ⟨zM, 16, none, 0, rfl, .inr (.inl ⟨hq, fun hd => hd i x hxi y (List.mem_of_getElem? hf.1) hf.2.1, rfl, rfl⟩), (rfl : [own 56 3 (.slice none 0 0) 0 []] = _)⟩ | exact ⟨zM, e2, none, 0, rfl, .inr (.inr ⟨hq, hda, e2, by rw [← hS]; exact hc2, .inl ⟨he2, rfl, rfl⟩⟩), (rfl : [own 56 3 (.slice none 0 0) 0 []] = _)⟩ | exact ⟨up { m with sn := S }, 0, a1, c1, rfl, .inr (.inr ⟨hq, hda, 0, by rw [← hS]; exact hc2, .inr ⟨rfl, rfl, by rw [← hS]⟩⟩), (rfl : [own 56 3 (.slice a1 (List.length S) c1) (List.length S) (encQ S)] = _)⟩)); exact fun w h => h.takes))))))))))))))) <;> (first | refine Ex.then ?_ | (refine N.next ?_ <;> (refine X.seq ?_ <;> (refine X.text (L := (.op .fin 0 (.op .fin 1 (.op .fin 2 (.op .fin 3 (.op .fin 4 .nil)))))) rfl (by kernel_rfl) ?_ <;>
    ((apply XL.det0F rfl rfl rfl rfl; first | exact D.fieldAddrB0 rfl rfl | exact D.fieldAddrB rfl rfl | exact D.fieldAddrE0 rfl rfl | exact D.fieldAddrE rfl rfl)) <;>
    ((apply XL.detF rfl rfl rfl rfl; first | exact D.load1 rfl (fun w h => h.cellAt (Loc.at_) rfl) | exact D.loadN rfl rfl (fun w h j u hu => by rw [at_add, Nat.zero_add]; exact h.cellAt (Loc.at_) hu) | exact D.loadP rfl rfl)) <;>
    ((obtain rfl : e = 0 := (by omega)); have hck := hq.names; have hst := StrictS.of_names hck.1; (refine XL.call rfl rfl rfl rfl (fun w hw => CloneQ_spec w a c m.sn (hl.conf0 hw) (by omega)) ?_; rintro v B' ⟨a0, c0, rfl, rfl⟩; refine XL.both ?_); rw [show (Value.slice a0 m.sn.length c0) = .slice a0 (m.sn.length + 0) c0 from rfl, show own 56 3 (.slice a0 (m.sn.length + 0) c0) m.sn.length (encQ m.sn) = own 56 3 (.slice a0 (m.sn.length + 0) c0) (m.sn.length + 0) (encQ (m.sn ++ l.take 0)) from (by simp)]) <;>
    ((apply XL.det0F rfl rfl rfl rfl; first | exact D.fieldAddrB0 rfl rfl | exact D.fieldAddrB rfl rfl | exact D.fieldAddrE0 rfl rfl | exact D.fieldAddrE rfl rfl)) <;>
    (first | refine XL.store1 rfl rfl rfl rfl rfl ?_ | refine XL.storeN rfl rfl rfl rfl rfl rfl ?_) <;>
    (refine XL.nil ?_)) <;> (first | refine Ex.then ?_ | (refine N.next ?_ <;> (refine X.seq ?_ <;> (refine X.seq ?_ <;> (refine X.text (L := (.op .fin 0 (.op .fin 1 (.op .fin 2 .nil)))) rfl (by kernel_rfl) ?_ <;>
    ((apply XL.det0F rfl rfl rfl rfl; exact D.move rfl)) <;>
    ((apply XL.det0F rfl rfl rfl rfl; first | exact D.len rfl | exact D.lenL rfl | exact D.lenS rfl)) <;>
    ((apply XL.det0F rfl rfl rfl rfl; exact D.move rfl)) <;>
    (refine XL.nil ?_)) <;> (first | refine Ex.then ?_ | (refine N.next ?_ <;> (refine X.block ?_ <;> ((refine X.loop (ι := Nat × Option Addr × Nat) (fun x => [(2, .pointer (some ⟨g2, 0, none⟩)), (4, .pointer (some ⟨g4, 0, none⟩)), (21, .slice b l.length d), (22, .int .i64 l.length), (23, .int .i64 x.1)]) (fun x => [cells g2 [.string ⟨List.toArray m.v⟩, .int .u64 ((m.k : Nat) : Int), .int .i64 m.s, .int .i64 m.z, .string ⟨List.toArray m.b⟩, .int .i64 m.bq, .slice x.2.1 (m.sn.length + x.1) x.2.2] 29, cells g4 [.string ByteArray.empty, .int .u64 0, .int .i64 0, .int .i64 0, .string ByteArray.empty, .int .i64 0, .slice none 0 0] 29, own 56 3 (.slice x.2.1 (m.sn.length + x.1) x.2.2) (m.sn.length + x.1) (encQ (m.sn ++ l.take x.1)), own 56 3 (.slice none 0 0) 0 []]) (fun x => x.1 ≤ l.length ∧ (∀ j y, j < x.1 → l[j]? = some y → ∀ z ∈ m.sn ++ l.take j, z.n ≠ y.n)) (fun x => l.length - x.1) ((0, a0, c0)) ?_ ?_ ?_ ?_; (focus (exact ⟨Nat.zero_le _, fun j y hj => absurd hj (Nat.not_lt_zero _)⟩)); (focus (repeat (first | exact Sub.nil | refine Sub.cons rfl ?_))); (focus (exact (fun w h => h.takes))); rintro ⟨i, a1, c1⟩ ⟨hi, hdis⟩; (dsimp only at *)) <;> (refine X.seq ?_ <;> (refine X.text (L := (.op .fin 0 .nil)) rfl (by kernel_rfl) ?_ <;>
    (refine XL.splitF rfl rfl rfl rfl (D.int rfl rfl rfl) (fun h2 => ?_) (fun h2 => ?_)) <;>
    (refine XL.nil ?_)) <;> (first | refine Ex.then ?_ | (refine N.next ?_ <;> (refine X.seq ?_ <;> ((
    refine X.cond rfl ?_ ?_; rotate_left; (focus (
    intro hc; first | exact absurd hc (by decide) | (cases hc; done) | (refine X.exit ?_))); rotate_right; (focus (
    intro hc; first | exact absurd hc (by decide) | (cases hc; done) | (refine X.skip ?_))))) <;> (first | refine Ex.then ?_ | (refine N.next ?_ <;> (refine X.seq ?_ <;> (refine X.block ?_ <;> (refine X.seq ?_ <;> (refine X.text (L := (.op .fin 0 (.op .fin 1 (.op .fin 2 (.op .fin 3 .nil))))) rfl (by kernel_rfl) ?_ <;>
    (have hil : i < l.length := (by omega); obtain ⟨x, hxi⟩ := get_lt' hil; (apply XL.det0F rfl rfl rfl rfl; exact D.indexAddr i rfl rfl rfl hil (hx.sm (by omega)))) <;>
    ((apply XL.detF rfl rfl rfl rfl; exact D.loadN rfl rfl (fun w hw j u hu => Rd.snap (hx.conf0 hw) hxi j u hu))) <;>
    (refine XL.alloc rfl rfl rfl (by intro g; infer_instance) (fun g => ?_)) <;>
    (first | refine XL.store1 rfl rfl rfl rfl rfl ?_ | refine XL.storeN rfl rfl rfl rfl rfl rfl ?_) <;>
    (refine XL.nil ?_)) <;> (first | refine Ex.then ?_ | (refine N.next ?_ <;> (refine X.seq ?_ <;> (refine X.seq ?_ <;> (refine X.text (L := (.op .fin 0 (.op .fin 1 (.op .fin 2 (.op .fin 3 (.op .fin 4 (.op .fin 5 (.op .fin 6 (.op .fin 7 (.op .fin 8 (.op .fin 9 .nil))))))))))) rfl (by kernel_rfl) ?_ <;>
    ((apply XL.det0F rfl rfl rfl rfl; first | exact D.fieldAddrB0 rfl rfl | exact D.fieldAddrB rfl rfl | exact D.fieldAddrE0 rfl rfl | exact D.fieldAddrE rfl rfl)) <;>
    ((apply XL.detF rfl rfl rfl rfl; first | exact D.load1 rfl (fun w h => h.cellAt (Loc.at_) rfl) | exact D.loadN rfl rfl (fun w h j u hu => by rw [at_add, Nat.zero_add]; exact h.cellAt (Loc.at_) hu) | exact D.loadP rfl rfl)) <;>
    ((apply XL.det0F rfl rfl rfl rfl; first | exact D.fieldAddrB0 rfl rfl | exact D.fieldAddrB rfl rfl | exact D.fieldAddrE0 rfl rfl | exact D.fieldAddrE rfl rfl)) <;>
    ((apply XL.detF rfl rfl rfl rfl; first | exact D.load1 rfl (fun w h => h.cellAt (Loc.at_) rfl) | exact D.loadN rfl rfl (fun w h j u hu => by rw [at_add, Nat.zero_add]; exact h.cellAt (Loc.at_) hu) | exact D.loadP rfl rfl)) <;>
    ((refine XL.call rfl rfl rfl rfl (fun w hw => place_specN w a1 (m.sn.length + i) c1 (m.sn ++ l.take i) x.n (by rw [List.length_append, List.length_take]; omega) (hw.rd (a := a1))) ?_; rintro v B' ⟨hf, rfl⟩; refine XL.both ?_); (rcases hf with ⟨k, y, rfl, hf⟩ | ⟨rfl, hf⟩)) <;>
    ((apply XL.det0F rfl rfl rfl rfl; exact D.move rfl)) <;>
    ((apply XL.det0F rfl rfl rfl rfl; exact D.extract rfl rfl)) <;>
    ((apply XL.det0F rfl rfl rfl rfl; exact D.extract rfl rfl)) <;>
    ((apply XL.det0F rfl rfl rfl rfl; exact D.assign rfl)) <;>
    ((apply XL.det0F rfl rfl rfl rfl; exact D.assign rfl)) <;>
    (refine XL.nil ?_)) <;> (first | refine Ex.then ?_ | (refine N.next ?_ <;> (refine X.seq ?_ <;> (refine X.text (L := (.op .fin 0 .nil)) rfl (by kernel_rfl) ?_ <;>
    ((apply XL.det0F rfl rfl rfl rfl; exact D.move rfl)) <;>
    (refine XL.nil ?_)) <;> (first | refine Ex.then ?_ | (refine N.next ?_ <;> ((
    refine X.cond rfl ?_ ?_; rotate_left; (focus (
    intro hc; first | exact absurd hc (by decide) | (cases hc; done) | (refine X.skip ?_))); rotate_right; (focus (
    intro hc; first | exact absurd hc (by decide) | (cases hc; done) | (refine X.seq ?_ <;> (refine X.text (L := (.op .fin 0 (.op .fin 1 (.op .fin 2 .nil)))) rfl (by kernel_rfl) ?_ <;>
    ((apply XL.det0F rfl rfl rfl rfl; exact D.build rfl)) <;>
    (first | refine XL.store1 rfl rfl rfl rfl rfl ?_ | refine XL.storeN rfl rfl rfl rfl rfl rfl ?_) <;>
    ((apply XL.det0F rfl rfl rfl rfl; exact D.assign rfl)) <;>
    (refine XL.nil ?_)) <;> (first | refine Ex.then ?_ | (refine N.next ?_ <;> ((refine X.ret ?_; (repeat (first | refine Rt.then ?_ | refine Rt.block ?_ | refine Rt.scope ?_)); (first | apply Rt.done (Res.r2 Try.results20 (by first | exact RV.cell rfl rfl | exact RV.cell1 rfl) (RV.tmp rfl)) | apply Rt.doneM (Res.r2 Try.results20 (by first | exact RV.cell rfl rfl | exact RV.cell1 rfl) (RV.tmp rfl))); (focus (first | exact ⟨zM, e, none, 0, rfl, .inl ⟨hq, h1, rfl⟩, (rfl : [own 56 3 (.slice none 0 0) 0 []] = _)⟩ | exact ⟨zM, 16, none, 0, rfl, .inr (.inl ⟨hq, fun hd => hd i x hxi y (List.mem_of_getElem? hf.1) hf.2.1, rfl, rfl⟩), (rfl : [own 56 3 (.slice none 0 0) 0 []] = _)⟩ | exact ⟨zM, e2, none, 0, rfl, .inr (.inr ⟨hq, hda, e2, by rw [← hS]; exact hc2, .inl ⟨he2, rfl, rfl⟩⟩), (rfl : [own 56 3 (.slice none 0 0) 0 []] = _)⟩ | exact ⟨up { m with sn := S }, 0, a1, c1, rfl, .inr (.inr ⟨hq, hda, 0, by rw [← hS]; exact hc2, .inr ⟨rfl, rfl, by rw [← hS]⟩⟩), (rfl : [own 56 3 (.slice a1 (List.length S) c1) (List.length S) (encQ S)] = _)⟩)); exact fun w h => h.takes))))))))))))))) <;> (first | refine Ex.then ?_ | (refine N.next ?_ <;> (refine X.text (L := (.op .fin 0 (.op .fin 1 (.op .fin 2 (.op .fin 3 (.op .fin 4 (.op .fin 5 (.op .fin 6 .nil)))))))) rfl (by kernel_rfl) ?_ <;>
    ((apply XL.det0F rfl rfl rfl rfl; first | exact D.fieldAddrB0 rfl rfl | exact D.fieldAddrB rfl rfl | exact D.fieldAddrE0 rfl rfl | exact D.fieldAddrE rfl rfl)) <;>
    ((apply XL.detF rfl rfl rfl rfl; first | exact D.load1 rfl (fun w h => h.cellAt (Loc.at_) rfl) | exact D.loadN rfl rfl (fun w h j u hu => by rw [at_add, Nat.zero_add]; exact h.cellAt (Loc.at_) hu) | exact D.loadP rfl rfl)) <;>
    ((apply XL.detF rfl rfl rfl rfl; first | exact D.load1 rfl (fun w h => h.cellAt (Loc.at_) rfl) | exact D.loadN rfl rfl (fun w h j u hu => by rw [at_add, Nat.zero_add]; exact h.cellAt (Loc.at_) hu) | exact D.loadP rfl rfl)) <;>
    (refine XL.slice1 rfl rfl rfl rfl rfl rfl (by intro g; infer_instance) (fun g_ => ?_)) <;>
    ((refine XL.append rfl rfl rfl rfl rfl rfl ?_ ?_ (fun a' c' => ?_); (focus (skip; unfold maxLen; omega)); (focus (intro _ _; infer_instance))); rw [encQ_snoc1, List.append_assoc, take_snoc' hxi, show m.sn.length + i + 1 = m.sn.length + (i + 1) from rfl]) <;>
    ((apply XL.det0F rfl rfl rfl rfl; first | exact D.fieldAddrB0 rfl rfl | exact D.fieldAddrB rfl rfl | exact D.fieldAddrE0 rfl rfl | exact D.fieldAddrE rfl rfl)) <;>
    (first | refine XL.store1 rfl rfl rfl rfl rfl ?_ | refine XL.storeN rfl rfl rfl rfl rfl rfl ?_) <;>
    (refine XL.nil ?_)))))))) <;> (first | refine N.block ?_ | refine Ex.here ?_ | refine Ex.out rfl ?_)) <;> (first | refine Ex.then ?_ | (refine N.next ?_ <;> (refine X.text (L := (.op .fin 0 (.op .fin 1 .nil))) rfl (by kernel_rfl) ?_ <;>
    ((apply XL.det0F rfl rfl rfl rfl; first | exact D.add64 rfl rfl (by omega) | exact D.int rfl rfl rfl)) <;>
    ((apply XL.det0F rfl rfl rfl rfl; exact D.move rfl)) <;>
    (refine XL.nil ?_))))))))))) <;> (first | refine Ex.then ?_ | ((refine N.again ((i + 1, a', c')) ?_ ?_ ?_ ?_; (focus (exact ⟨by dsimp only; omega, fun j y hj hy => by rcases Nat.lt_or_ge j i with h | h; exact hdis j y h hy; (obtain rfl : j = i := by dsimp only at hj; omega); rw [hxi] at hy; cases hy; exact hf⟩)); (focus (first | omega | (dsimp only; omega))); (focus (repeat (first | exact Sub.nil | refine Sub.cons rfl ?_))); exact (fun w h => h.takes))))) <;> (first | refine N.block ?_ | refine Ex.here ?_ | refine Ex.out rfl ?_))))) <;> (first | refine Ex.then ?_ | (refine N.next ?_ <;> (refine X.seq ?_ <;> (refine X.text (L := (.op .fin 0 (.op .fin 1 (.op .fin 2 .nil)))) rfl (by kernel_rfl) ?_ <;>
    ((apply XL.det0F rfl rfl rfl rfl; first | exact D.fieldAddrB0 rfl rfl | exact D.fieldAddrB rfl rfl | exact D.fieldAddrE0 rfl rfl | exact D.fieldAddrE rfl rfl)) <;>
    ((apply XL.detF rfl rfl rfl rfl; first | exact D.load1 rfl (fun w h => h.cellAt (Loc.at_) rfl) | exact D.loadN rfl rfl (fun w h j u hu => by rw [at_add, Nat.zero_add]; exact h.cellAt (Loc.at_) hu) | exact D.loadP rfl rfl)) <;>
    ((obtain rfl : i = l.length := (by omega)); rw [List.take_length, ← List.length_append]; have hda : DistA m.sn l := (fun j y hy => hdis j y (lt_of_get' hy) hy); (refine XL.callF [own 56 3 (.slice a1 (List.length (m.sn ++ l)) c1) (List.length (m.sn ++ l)) (encQ (m.sn ++ l))] rfl rfl rfl rfl (fun w F hF hm hw => SortQ_spec w F a1 c1 (m.sn ++ l) hF (by rw [List.length_append]; omega)) ?_; rintro v B' ⟨S, rfl, hpm, hso, rfl⟩; refine XL.both ?_); have hS := sorted_is hst hda hpm hso; rw [← hpm.length_eq]) <;>
    (refine XL.nil ?_)) <;> (first | refine Ex.then ?_ | (refine N.next ?_ <;> (refine X.seq ?_ <;> (refine X.text (L := (.op .fin 0 (.op .fin 1 (.op .fin 2 (.op .fin 3 (.op .fin 4 (.op .fin 5 .nil))))))) rfl (by kernel_rfl) ?_ <;>
    ((apply XL.detF rfl rfl rfl rfl; first | exact D.load1 rfl (fun w h => h.cellAt (Loc.at_) rfl) | exact D.loadN rfl rfl (fun w h j u hu => by rw [at_add, Nat.zero_add]; exact h.cellAt (Loc.at_) hu) | exact D.loadP rfl rfl)) <;>
    ((refine XL.call rfl rfl rfl rfl (fun w hw => next_spec { m with sn := S } a1 c1 w (hw.rd (a := a1)) hck.2.2.2.1) ?_; rintro v B' ⟨hn, rfl⟩; refine XL.both ?_); (rcases hn with ⟨e2, hc2, he2, rfl⟩ | ⟨hc2, rfl⟩)) <;>
    ((apply XL.det0F rfl rfl rfl rfl; exact D.extract rfl rfl)) <;>
    ((apply XL.det0F rfl rfl rfl rfl; exact D.extract rfl rfl)) <;>
    (first | refine XL.store1 rfl rfl rfl rfl rfl ?_ | refine XL.storeN rfl rfl rfl rfl rfl rfl ?_) <;>
    ((apply XL.det0F rfl rfl rfl rfl; exact D.assign rfl)) <;>
    (refine XL.nil ?_)) <;> (first | refine Ex.then ?_ | (refine N.next ?_ <;> ((refine X.ret ?_; (repeat (first | refine Rt.then ?_ | refine Rt.block ?_ | refine Rt.scope ?_)); (first | apply Rt.done (Res.r2 Try.results20 (by first | exact RV.cell rfl rfl | exact RV.cell1 rfl) (RV.tmp rfl)) | apply Rt.doneM (Res.r2 Try.results20 (by first | exact RV.cell rfl rfl | exact RV.cell1 rfl) (RV.tmp rfl))); (focus (first | exact ⟨zM, e, none, 0, rfl, .inl ⟨hq, h1, rfl⟩, (rfl : [own 56 3 (.slice none 0 0) 0 []] = _)⟩ | exact ⟨zM, 16, none, 0, rfl, .inr (.inl ⟨hq, fun hd => hd i x hxi y (List.mem_of_getElem? hf.1) hf.2.1, rfl, rfl⟩), (rfl : [own 56 3 (.slice none 0 0) 0 []] = _)⟩ | exact ⟨zM, e2, none, 0, rfl, .inr (.inr ⟨hq, hda, e2, by rw [← hS]; exact hc2, .inl ⟨he2, rfl, rfl⟩⟩), (rfl : [own 56 3 (.slice none 0 0) 0 []] = _)⟩ | exact ⟨up { m with sn := S }, 0, a1, c1, rfl, .inr (.inr ⟨hq, hda, 0, by rw [← hS]; exact hc2, .inr ⟨rfl, rfl, by rw [← hS]⟩⟩), (rfl : [own 56 3 (.slice a1 (List.length S) c1) (List.length S) (encQ S)] = _)⟩)); exact fun w h => h.takes))))))))))))))))))))
theorem Resize_spec (m : Man) (a : Option Addr) (c : Nat) (z : Int) (w : World) (hl : Rd w 3 a m.sn.length c (encQ m.sn)) (hlen : m.sn.length ≤ 1000) : Spec Try.prog 23 #[.agg #[.string ⟨List.toArray m.v⟩, .int .u64 ((m.k : Nat) : Int), .int .i64 m.s, .int .i64 m.z, .string ⟨List.toArray m.b⟩, .int .i64 m.bq, .slice a m.sn.length c], .int .i64 z] w (fun _ => False) (fun v A => ∃ (res : Man) (e : Int) (a' : Option Addr) (c' : Nat), v = .tuple #[.agg #[.string ⟨List.toArray res.v⟩, .int .u64 ((res.k : Nat) : Int), .int .i64 res.s, .int .i64 res.z, .string ⟨List.toArray res.b⟩, .int .i64 res.bq, .slice a' res.sn.length c'], .int .i64 e] ∧ ResR m z res e ∧ A = [own 56 3 (.slice a' (List.length res.sn) c') (List.length res.sn) (encQ res.sn)]) := by
  refine Spec.enter (args := [.agg #[.string ⟨List.toArray m.v⟩, .int .u64 ((m.k : Nat) : Int), .int .i64 m.s, .int .i64 m.z, .string ⟨List.toArray m.b⟩, .int .i64 m.bq, .slice a m.sn.length c], .int .i64 z]) (A := []) Try.func23 rfl Try.ntmps23 rfl (fun _ h => h) ?_
  refine X.mem (B := [own 56 3 (.slice none 0 0) 0 []]) (fun w h => h.nilOwn 56 3) ?_
  (refine X.seq ?_ <;> (refine X.text (L := (.op .fin 0 (.op .fin 1 (.op .fin 2 .nil)))) rfl (by kernel_rfl) ?_ <;>
    (refine XL.boxN rfl rfl rfl rfl (by intro g; infer_instance) (fun g2 => ?_)) <;>
    (refine XL.alloc rfl rfl rfl (by intro g; infer_instance) (fun g4 => ?_)) <;>
    ((apply XL.det0F rfl rfl rfl rfl; exact D.assign rfl)) <;>
    (refine XL.nil ?_)) <;> (first | refine Ex.then ?_ | (refine N.next ?_ <;> (refine X.seq ?_ <;> (refine X.seq ?_ <;> (refine X.text (L := (.op .fin 0 (.op .fin 1 (.op .fin 2 .nil)))) rfl (by kernel_rfl) ?_ <;>
    ((apply XL.detF rfl rfl rfl rfl; first | exact D.load1 rfl (fun w h => h.cellAt (Loc.at_) rfl) | exact D.loadN rfl rfl (fun w h j u hu => by rw [at_add, Nat.zero_add]; exact h.cellAt (Loc.at_) hu) | exact D.loadP rfl rfl)) <;>
    ((refine XL.call rfl rfl rfl rfl (fun w hw => Check_spec m a c w (hl.conf0 hw)) ?_; rintro v B' ⟨e, rfl, hq, rfl⟩; refine XL.both ?_)) <;>
    ((apply XL.det0F rfl rfl rfl rfl; exact D.assign rfl)) <;>
    (refine XL.nil ?_)) <;> (first | refine Ex.then ?_ | (refine N.next ?_ <;> (refine X.seq ?_ <;> (refine X.text (L := (.op .fin 0 (.op .fin 1 .nil))) rfl (by kernel_rfl) ?_ <;>
    ((apply XL.det0F rfl rfl rfl rfl; exact D.move rfl)) <;>
    (refine XL.splitF rfl rfl rfl rfl (D.int rfl rfl rfl) (fun h1 => ?_) (fun h1 => ?_)) <;>
    (refine XL.nil ?_)) <;> (first | refine Ex.then ?_ | (refine N.next ?_ <;> ((
    refine X.cond rfl ?_ ?_; rotate_left; (focus (
    intro hc; first | exact absurd hc (by decide) | (cases hc; done) | (refine X.skip ?_))); rotate_right; (focus (
    intro hc; first | exact absurd hc (by decide) | (cases hc; done) | (refine X.seq ?_ <;> (refine X.text (L := (.op .fin 0 (.op .fin 1 (.op .fin 2 (.op .fin 3 .nil))))) rfl (by kernel_rfl) ?_ <;>
    ((apply XL.det0F rfl rfl rfl rfl; exact D.build rfl)) <;>
    ((apply XL.det0F rfl rfl rfl rfl; exact D.move rfl)) <;>
    (first | refine XL.store1 rfl rfl rfl rfl rfl ?_ | refine XL.storeN rfl rfl rfl rfl rfl rfl ?_) <;>
    ((apply XL.det0F rfl rfl rfl rfl; exact D.assign rfl)) <;>
    (refine XL.nil ?_)) <;> (first | refine Ex.then ?_ | (refine N.next ?_ <;> ((refine X.ret ?_; (repeat (first | refine Rt.then ?_ | refine Rt.block ?_ | refine Rt.scope ?_)); (first | apply Rt.done (Res.r2 Try.results23 (by first | exact RV.cell rfl rfl | exact RV.cell1 rfl) (RV.tmp rfl)) | apply Rt.doneM (Res.r2 Try.results23 (by first | exact RV.cell rfl rfl | exact RV.cell1 rfl) (RV.tmp rfl))); (focus (first | exact ⟨zM, e, none, 0, rfl, .inl ⟨hq, h1, rfl⟩, (rfl : [own 56 3 (.slice none 0 0) 0 []] = _)⟩ | exact ⟨zM, e2, none, 0, rfl, .inr ⟨hq, e2, hc2, .inl ⟨he2, rfl, rfl⟩⟩, (rfl : [own 56 3 (.slice none 0 0) 0 []] = _)⟩ | exact ⟨up { m with z := z }, 0, a0, c0, rfl, .inr ⟨hq, 0, hc2, .inr ⟨rfl, rfl, rfl⟩⟩, (rfl : [own 56 3 (.slice a0 (List.length m.sn) c0) (List.length m.sn) (encQ m.sn)] = _)⟩)); exact fun w h => h.takes))))))))))))))) <;> (first | refine Ex.then ?_ | (refine N.next ?_ <;> (refine X.seq ?_ <;> (refine X.text (L := (.op .fin 0 (.op .fin 1 (.op .fin 2 (.op .fin 3 (.op .fin 4 (.op .fin 5 (.op .fin 6 (.op .fin 7 .nil))))))))) rfl (by kernel_rfl) ?_ <;>
    ((apply XL.det0F rfl rfl rfl rfl; exact D.move rfl)) <;>
    ((apply XL.det0F rfl rfl rfl rfl; first | exact D.fieldAddrB0 rfl rfl | exact D.fieldAddrB rfl rfl | exact D.fieldAddrE0 rfl rfl | exact D.fieldAddrE rfl rfl)) <;>
    ((apply XL.detF rfl rfl rfl rfl; first | exact D.load1 rfl (fun w h => h.cellAt (Loc.at_) rfl) | exact D.loadN rfl rfl (fun w h j u hu => by rw [at_add, Nat.zero_add]; exact h.cellAt (Loc.at_) hu) | exact D.loadP rfl rfl)) <;>
    ((obtain rfl : e = 0 := (by omega)); have hck := hq.names; (refine XL.call rfl rfl rfl rfl (fun w hw => CloneQ_spec w a c m.sn (hl.conf0 hw) (by omega)) ?_; rintro v B' ⟨a0, c0, rfl, rfl⟩; refine XL.both ?_)) <;>
    ((apply XL.det0F rfl rfl rfl rfl; first | exact D.fieldAddrB0 rfl rfl | exact D.fieldAddrB rfl rfl | exact D.fieldAddrE0 rfl rfl | exact D.fieldAddrE rfl rfl)) <;>
    (first | refine XL.store1 rfl rfl rfl rfl rfl ?_ | refine XL.storeN rfl rfl rfl rfl rfl rfl ?_) <;>
    ((apply XL.det0F rfl rfl rfl rfl; first | exact D.fieldAddrB0 rfl rfl | exact D.fieldAddrB rfl rfl | exact D.fieldAddrE0 rfl rfl | exact D.fieldAddrE rfl rfl)) <;>
    (first | refine XL.store1 rfl rfl rfl rfl rfl ?_ | refine XL.storeN rfl rfl rfl rfl rfl rfl ?_) <;>
    (refine XL.nil ?_)) <;> (first | refine Ex.then ?_ | (refine N.next ?_ <;> (refine X.seq ?_ <;> (refine X.text (L := (.op .fin 0 (.op .fin 1 (.op .fin 2 (.op .fin 3 (.op .fin 4 (.op .fin 5 .nil))))))) rfl (by kernel_rfl) ?_ <;>
    ((apply XL.detF rfl rfl rfl rfl; first | exact D.load1 rfl (fun w h => h.cellAt (Loc.at_) rfl) | exact D.loadN rfl rfl (fun w h j u hu => by rw [at_add, Nat.zero_add]; exact h.cellAt (Loc.at_) hu) | exact D.loadP rfl rfl)) <;>
    ((refine XL.call rfl rfl rfl rfl (fun w hw => next_spec { m with z := z } a0 c0 w (hw.rd (a := a0)) hck.2.2.2.1) ?_; rintro v B' ⟨hn, rfl⟩; refine XL.both ?_); (rcases hn with ⟨e2, hc2, he2, rfl⟩ | ⟨hc2, rfl⟩)) <;>
    ((apply XL.det0F rfl rfl rfl rfl; exact D.extract rfl rfl)) <;>
    ((apply XL.det0F rfl rfl rfl rfl; exact D.extract rfl rfl)) <;>
    (first | refine XL.store1 rfl rfl rfl rfl rfl ?_ | refine XL.storeN rfl rfl rfl rfl rfl rfl ?_) <;>
    ((apply XL.det0F rfl rfl rfl rfl; exact D.assign rfl)) <;>
    (refine XL.nil ?_)) <;> (first | refine Ex.then ?_ | (refine N.next ?_ <;> ((refine X.ret ?_; (repeat (first | refine Rt.then ?_ | refine Rt.block ?_ | refine Rt.scope ?_)); (first | apply Rt.done (Res.r2 Try.results23 (by first | exact RV.cell rfl rfl | exact RV.cell1 rfl) (RV.tmp rfl)) | apply Rt.doneM (Res.r2 Try.results23 (by first | exact RV.cell rfl rfl | exact RV.cell1 rfl) (RV.tmp rfl))); (focus (first | exact ⟨zM, e, none, 0, rfl, .inl ⟨hq, h1, rfl⟩, (rfl : [own 56 3 (.slice none 0 0) 0 []] = _)⟩ | exact ⟨zM, e2, none, 0, rfl, .inr ⟨hq, e2, hc2, .inl ⟨he2, rfl, rfl⟩⟩, (rfl : [own 56 3 (.slice none 0 0) 0 []] = _)⟩ | exact ⟨up { m with z := z }, 0, a0, c0, rfl, .inr ⟨hq, 0, hc2, .inr ⟨rfl, rfl, rfl⟩⟩, (rfl : [own 56 3 (.slice a0 (List.length m.sn) c0) (List.length m.sn) (encQ m.sn)] = _)⟩)); exact fun w h => h.takes))))))))))))))
theorem two_memQ {w : World} {s1 s2 : Slq} (h1 : Rd w 3 s1.a s1.l.length s1.c (encQ s1.l)) (h2 : Rd w 3 s2.a s2.l.length s2.c (encQ s2.l)) : ∀ s ∈ [s1, s2], Rd w 3 s.a s.l.length s.c (encQ s.l) := fun s hs => by
  rcases List.mem_cons.1 hs with rfl | hs
  · exact h1
  · rcases List.mem_cons.1 hs with rfl | hs
    · exact h2
    · cases hs
theorem viewQH (a : Option Addr) (c : Nat) (l : List Sn3) (k : Nat) (h1 : k ≤ l.length) : ∀ w', Rd w' 3 a l.length c (encQ l) → Rd w' 3 a k c (encQ (l.take k)) := fun w' h => by
  have := Rd.subT (f := encQ1) (l := 0) (h := k) (m := c) (fun _ => rfl) h (Nat.zero_le _) (Nat.le_trans h1 h.le) (Nat.le_refl _) h1
  rw [subA_zero] at this
  simpa [encQ] using this
theorem viewQL (a : Option Addr) (c : Nat) (l : List Sn3) (m : Nat) (h1 : m ≤ l.length) : ∀ w', Rd w' 3 a l.length c (encQ l) → Rd w' 3 (subA a 3 m c) (l.length - m) (c - m) (encQ (l.drop m)) := fun w' h => by
  have := Rd.subT (f := encQ1) (l := m) (h := l.length) (m := c) (fun _ => rfl) h h1 h.le (Nat.le_refl _) (Nat.le_refl _)
  rw [List.take_of_length_le (by simp)] at this
  simpa [encQ] using this
theorem Without_spec (m : Man) (a : Option Addr) (c : Nat) (s : Bs) (w : World) (hl : Rd w 3 a m.sn.length c (encQ m.sn)) (hlen : m.sn.length ≤ 1000) : Spec Try.prog 25 #[.agg #[.string ⟨List.toArray m.v⟩, .int .u64 ((m.k : Nat) : Int), .int .i64 m.s, .int .i64 m.z, .string ⟨List.toArray m.b⟩, .int .i64 m.bq, .slice a m.sn.length c], .string ⟨List.toArray s⟩] w (fun _ => False) (fun v A => ∃ (res : Man) (e : Int) (a' : Option Addr) (c' : Nat), v = .tuple #[.agg #[.string ⟨List.toArray res.v⟩, .int .u64 ((res.k : Nat) : Int), .int .i64 res.s, .int .i64 res.z, .string ⟨List.toArray res.b⟩, .int .i64 res.bq, .slice a' res.sn.length c'], .int .i64 e] ∧ OutR m s res e ∧ A = [own 56 3 (.slice a' (List.length res.sn) c') (List.length res.sn) (encQ res.sn)]) := by
  have hle := hl.le
  refine Spec.enter (args := [.agg #[.string ⟨List.toArray m.v⟩, .int .u64 ((m.k : Nat) : Int), .int .i64 m.s, .int .i64 m.z, .string ⟨List.toArray m.b⟩, .int .i64 m.bq, .slice a m.sn.length c], .string ⟨List.toArray s⟩]) (A := []) Try.func25 rfl Try.ntmps25 rfl (fun _ h => h) ?_
  refine X.mem (B := [own 56 3 (.slice none 0 0) 0 []]) (fun w h => h.nilOwn 56 3) ?_
  (refine X.seq ?_ <;> (refine X.text (L := (.op .fin 0 (.op .fin 1 (.op .fin 2 .nil)))) rfl (by kernel_rfl) ?_ <;>
    (refine XL.boxN rfl rfl rfl rfl (by intro g; infer_instance) (fun g2 => ?_)) <;>
    (refine XL.alloc rfl rfl rfl (by intro g; infer_instance) (fun g4 => ?_)) <;>
    ((apply XL.det0F rfl rfl rfl rfl; exact D.assign rfl)) <;>
    (refine XL.nil ?_)) <;> (first | refine Ex.then ?_ | (refine N.next ?_ <;> (refine X.seq ?_ <;> (refine X.seq ?_ <;> (refine X.text (L := (.op .fin 0 (.op .fin 1 (.op .fin 2 .nil)))) rfl (by kernel_rfl) ?_ <;>
    ((apply XL.detF rfl rfl rfl rfl; first | exact D.load1 rfl (fun w h => h.cellAt (Loc.at_) rfl) | exact D.loadN rfl rfl (fun w h j u hu => by rw [at_add, Nat.zero_add]; exact h.cellAt (Loc.at_) hu) | exact D.loadP rfl rfl)) <;>
    ((refine XL.call rfl rfl rfl rfl (fun w hw => Check_spec m a c w (hl.conf0 hw)) ?_; rintro v B' ⟨e, rfl, hq, rfl⟩; refine XL.both ?_)) <;>
    ((apply XL.det0F rfl rfl rfl rfl; exact D.assign rfl)) <;>
    (refine XL.nil ?_)) <;> (first | refine Ex.then ?_ | (refine N.next ?_ <;> (refine X.seq ?_ <;> (refine X.text (L := (.op .fin 0 (.op .fin 1 .nil))) rfl (by kernel_rfl) ?_ <;>
    ((apply XL.det0F rfl rfl rfl rfl; exact D.move rfl)) <;>
    (refine XL.splitF rfl rfl rfl rfl (D.int rfl rfl rfl) (fun h1 => ?_) (fun h1 => ?_)) <;>
    (refine XL.nil ?_)) <;> (first | refine Ex.then ?_ | (refine N.next ?_ <;> ((
    refine X.cond rfl ?_ ?_; rotate_left; (focus (
    intro hc; first | exact absurd hc (by decide) | (cases hc; done) | (refine X.skip ?_))); rotate_right; (focus (
    intro hc; first | exact absurd hc (by decide) | (cases hc; done) | (refine X.seq ?_ <;> (refine X.text (L := (.op .fin 0 (.op .fin 1 (.op .fin 2 (.op .fin 3 .nil))))) rfl (by kernel_rfl) ?_ <;>
    ((apply XL.det0F rfl rfl rfl rfl; exact D.build rfl)) <;>
    ((apply XL.det0F rfl rfl rfl rfl; exact D.move rfl)) <;>
    (first | refine XL.store1 rfl rfl rfl rfl rfl ?_ | refine XL.storeN rfl rfl rfl rfl rfl rfl ?_) <;>
    ((apply XL.det0F rfl rfl rfl rfl; exact D.assign rfl)) <;>
    (refine XL.nil ?_)) <;> (first | refine Ex.then ?_ | (refine N.next ?_ <;> ((refine X.ret ?_; (repeat (first | refine Rt.then ?_ | refine Rt.block ?_ | refine Rt.scope ?_)); (first | apply Rt.done (Res.r2 Try.results25 (by first | exact RV.cell rfl rfl | exact RV.cell1 rfl) (RV.tmp rfl)) | apply Rt.doneM (Res.r2 Try.results25 (by first | exact RV.cell rfl rfl | exact RV.cell1 rfl) (RV.tmp rfl))); (focus (first | exact ⟨zM, e, none, 0, rfl, .inl ⟨hq, h1, rfl⟩, (rfl : [own 56 3 (.slice none 0 0) 0 []] = _)⟩ | exact ⟨zM, 15, none, 0, rfl, .inr (.inl ⟨hq, hf, rfl, rfl⟩), (rfl : [own 56 3 (.slice none 0 0) 0 []] = _)⟩ | exact ⟨zM, e2, none, 0, rfl, .inr (.inr ⟨hq, k, y, hf, e2, hc2, .inl ⟨he2, rfl, rfl⟩⟩), (rfl : [own 56 3 (.slice none 0 0) 0 []] = _)⟩ | exact ⟨up { m with sn := m.sn.take k ++ m.sn.drop (k + 1) }, 0, a9, c9, rfl, .inr (.inr ⟨hq, k, y, hf, 0, hc2, .inr ⟨rfl, rfl, rfl⟩⟩), (rfl : [own 56 3 (.slice a9 (List.length (m.sn.take k ++ m.sn.drop (k + 1))) c9) (List.length (m.sn.take k ++ m.sn.drop (k + 1))) (encQ (m.sn.take k ++ m.sn.drop (k + 1)))] = _)⟩)); exact fun w h => h.takes))))))))))))))) <;> (first | refine Ex.then ?_ | (refine N.next ?_ <;> (refine X.seq ?_ <;> (refine X.text (L := (.op .fin 0 (.op .fin 1 (.op .fin 2 (.op .fin 3 (.op .fin 4 (.op .fin 5 (.op .fin 6 (.op .fin 7 (.op .fin 8 .nil)))))))))) rfl (by kernel_rfl) ?_ <;>
    ((apply XL.det0F rfl rfl rfl rfl; first | exact D.fieldAddrB0 rfl rfl | exact D.fieldAddrB rfl rfl | exact D.fieldAddrE0 rfl rfl | exact D.fieldAddrE rfl rfl)) <;>
    ((apply XL.detF rfl rfl rfl rfl; first | exact D.load1 rfl (fun w h => h.cellAt (Loc.at_) rfl) | exact D.loadN rfl rfl (fun w h j u hu => by rw [at_add, Nat.zero_add]; exact h.cellAt (Loc.at_) hu) | exact D.loadP rfl rfl)) <;>
    ((apply XL.det0F rfl rfl rfl rfl; exact D.move rfl)) <;>
    ((obtain rfl : e = 0 := (by omega)); have hck := hq.names; (refine XL.call rfl rfl rfl rfl (fun w hw => place_spec w a c m.sn s (hl.conf0 hw)) ?_; rintro v B' ⟨hf, rfl⟩; refine XL.both ?_); (rcases hf with ⟨k, y, rfl, hf⟩ | ⟨rfl, hf⟩)) <;>
    ((apply XL.det0F rfl rfl rfl rfl; exact D.move rfl)) <;>
    ((apply XL.det0F rfl rfl rfl rfl; exact D.extract rfl rfl)) <;>
    ((apply XL.det0F rfl rfl rfl rfl; exact D.extract rfl rfl)) <;>
    ((apply XL.det0F rfl rfl rfl rfl; exact D.assign rfl)) <;>
    ((apply XL.det0F rfl rfl rfl rfl; exact D.assign rfl)) <;>
    (refine XL.nil ?_)) <;> (first | refine Ex.then ?_ | (refine N.next ?_ <;> (refine X.seq ?_ <;> (refine X.seq ?_ <;> (refine X.text (L := (.op .fin 0 (.op .fin 1 .nil))) rfl (by kernel_rfl) ?_ <;>
    ((apply XL.det0F rfl rfl rfl rfl; exact D.move rfl)) <;>
    ((apply XL.det0F rfl rfl rfl rfl; exact D.not rfl)) <;>
    (refine XL.nil ?_)) <;> (first | refine Ex.then ?_ | (refine N.next ?_ <;> ((
    refine X.cond rfl ?_ ?_; rotate_left; (focus (
    intro hc; first | exact absurd hc (by decide) | (cases hc; done) | (refine X.skip ?_))); rotate_right; (focus (
    intro hc; first | exact absurd hc (by decide) | (cases hc; done) | (refine X.seq ?_ <;> (refine X.text (L := (.op .fin 0 (.op .fin 1 (.op .fin 2 .nil)))) rfl (by kernel_rfl) ?_ <;>
    ((apply XL.det0F rfl rfl rfl rfl; exact D.build rfl)) <;>
    (first | refine XL.store1 rfl rfl rfl rfl rfl ?_ | refine XL.storeN rfl rfl rfl rfl rfl rfl ?_) <;>
    ((apply XL.det0F rfl rfl rfl rfl; exact D.assign rfl)) <;>
    (refine XL.nil ?_)) <;> (first | refine Ex.then ?_ | (refine N.next ?_ <;> ((refine X.ret ?_; (repeat (first | refine Rt.then ?_ | refine Rt.block ?_ | refine Rt.scope ?_)); (first | apply Rt.done (Res.r2 Try.results25 (by first | exact RV.cell rfl rfl | exact RV.cell1 rfl) (RV.tmp rfl)) | apply Rt.doneM (Res.r2 Try.results25 (by first | exact RV.cell rfl rfl | exact RV.cell1 rfl) (RV.tmp rfl))); (focus (first | exact ⟨zM, e, none, 0, rfl, .inl ⟨hq, h1, rfl⟩, (rfl : [own 56 3 (.slice none 0 0) 0 []] = _)⟩ | exact ⟨zM, 15, none, 0, rfl, .inr (.inl ⟨hq, hf, rfl, rfl⟩), (rfl : [own 56 3 (.slice none 0 0) 0 []] = _)⟩ | exact ⟨zM, e2, none, 0, rfl, .inr (.inr ⟨hq, k, y, hf, e2, hc2, .inl ⟨he2, rfl, rfl⟩⟩), (rfl : [own 56 3 (.slice none 0 0) 0 []] = _)⟩ | exact ⟨up { m with sn := m.sn.take k ++ m.sn.drop (k + 1) }, 0, a9, c9, rfl, .inr (.inr ⟨hq, k, y, hf, 0, hc2, .inr ⟨rfl, rfl, rfl⟩⟩), (rfl : [own 56 3 (.slice a9 (List.length (m.sn.take k ++ m.sn.drop (k + 1))) c9) (List.length (m.sn.take k ++ m.sn.drop (k + 1))) (encQ (m.sn.take k ++ m.sn.drop (k + 1)))] = _)⟩)); exact fun w h => h.takes)))))))))))) <;> (first | refine Ex.then ?_ | (refine N.next ?_ <;> (refine X.seq ?_ <;> (refine X.draw (.op .v0 0 (.op .v1 1 (.op .v0 2 (.op .v0 3 (.op .v0 4 (.op .v1 5 (.op .v0 6 (.op .v0 7 (.op .v0 8 (.op .ch 9 (.op .ch 10 (.op .v0 11 (.op .fin 12 .nil))))))))))))) mixed (by kernel_rfl) ?_ <;>
    ((apply XL.det0 rfl rfl rfl rfl; first | exact D.fieldAddrB0 rfl rfl | exact D.fieldAddrB rfl rfl | exact D.fieldAddrE0 rfl rfl | exact D.fieldAddrE rfl rfl)) <;>
    ((apply XL.det1 rfl rfl rfl rfl; first | exact D.load1 rfl (fun w h => h.cellAt (Loc.at_) rfl) | exact D.loadN rfl rfl (fun w h j u hu => by rw [at_add, Nat.zero_add]; exact h.cellAt (Loc.at_) hu) | exact D.loadP rfl rfl)) <;>
    ((apply XL.det0 rfl rfl rfl rfl; exact D.move rfl)) <;>
    (have hkl := lt_of_get' hf.1; (apply XL.det0 rfl rfl rfl rfl; exact D.sliceH (h := k) rfl rfl (by omega)); rw [subA_zero]) <;>
    ((apply XL.det0 rfl rfl rfl rfl; first | exact D.fieldAddrB0 rfl rfl | exact D.fieldAddrB rfl rfl | exact D.fieldAddrE0 rfl rfl | exact D.fieldAddrE rfl rfl)) <;>
    ((apply XL.det1 rfl rfl rfl rfl; first | exact D.load1 rfl (fun w h => h.cellAt (Loc.at_) rfl) | exact D.loadN rfl rfl (fun w h j u hu => by rw [at_add, Nat.zero_add]; exact h.cellAt (Loc.at_) hu) | exact D.loadP rfl rfl)) <;>
    ((apply XL.det0 rfl rfl rfl rfl; exact D.move rfl)) <;>
    ((apply XL.det0 rfl rfl rfl rfl; exact D.add64 rfl rfl (by omega)); rw [show (k : Int) + 1 = ((k + 1 : Nat) : Int) from (by omega)]) <;>
    ((apply XL.det0 rfl rfl rfl rfl; exact D.sliceL (l := k + 1) rfl rfl (by omega))) <;>
    (rw [show (Value.slice a k c) = .slice a (m.sn.take k).length c from (by rw [List.length_take, Nat.min_eq_left (by omega)]), show (Value.slice (subA a 3 (k + 1) c) (m.sn.length - (k + 1)) (c - (k + 1))) = .slice (subA a 3 (k + 1) c) (m.sn.drop (k + 1)).length (c - (k + 1)) from (by rw [List.length_drop])]; (refine XL.sliceL valQ encLq1 [⟨a, c, m.sn.take k⟩, ⟨subA a 3 (k + 1) c, c - (k + 1), m.sn.drop (k + 1)⟩] (fun _ => rfl) (fun _ => rfl) rfl rfl rfl rfl rfl rfl (fun _ => by infer_instance) (fun gl3 => ?_))) <;>
    (have hsum : sumQ [⟨a, c, m.sn.take k⟩, ⟨subA a 3 (k + 1) c, c - (k + 1), m.sn.drop (k + 1)⟩] ≤ 1000000 := (by simp only [sumQ, List.length_take, List.length_drop]; omega); (refine XL.call rfl rfl rfl rfl (fun w hw => ConcatQ_spec w _ _ [⟨a, c, m.sn.take k⟩, ⟨subA a 3 (k + 1) c, c - (k + 1), m.sn.drop (k + 1)⟩] (hw.rd (a := some ⟨gl3, 0, none⟩)) (two_memQ (by have := viewQH a c m.sn k (by omega) w (hl.conf0 hw); rw [show (m.sn.take k).length = k from (by rw [List.length_take]; omega)]; exact this) (by have := viewQL a c m.sn (k + 1) (by omega) w (hl.conf0 hw); rw [List.length_drop]; exact this)) (by simp) hsum) ?_; rintro v B' ⟨a9, c9, rfl, rfl⟩; refine XL.both ?_); rw [show ([⟨a, c, m.sn.take k⟩, ⟨subA a 3 (k + 1) c, c - (k + 1), m.sn.drop (k + 1)⟩] : List Slq).flatMap (·.l) = m.sn.take k ++ m.sn.drop (k + 1) from (by simp)]) <;>
    ((apply XL.det0 rfl rfl rfl rfl; first | exact D.fieldAddrB0 rfl rfl | exact D.fieldAddrB rfl rfl | exact D.fieldAddrE0 rfl rfl | exact D.fieldAddrE rfl rfl)) <;>
    (first | refine XL.store1 rfl rfl rfl rfl rfl ?_ | refine XL.storeN rfl rfl rfl rfl rfl rfl ?_) <;>
    (refine XL.nil ?_)) <;> (first | refine Ex.then ?_ | (refine N.next ?_ <;> (refine X.seq ?_ <;> (refine X.text (L := (.op .fin 0 (.op .fin 1 (.op .fin 2 (.op .fin 3 (.op .fin 4 (.op .fin 5 .nil))))))) rfl (by kernel_rfl) ?_ <;>
    ((apply XL.detF rfl rfl rfl rfl; first | exact D.load1 rfl (fun w h => h.cellAt (Loc.at_) rfl) | exact D.loadN rfl rfl (fun w h j u hu => by rw [at_add, Nat.zero_add]; exact h.cellAt (Loc.at_) hu) | exact D.loadP rfl rfl)) <;>
    ((refine XL.call rfl rfl rfl rfl (fun w hw => next_spec { m with sn := m.sn.take k ++ m.sn.drop (k + 1) } a9 c9 w (hw.rd (a := a9)) hck.2.2.2.1) ?_; rintro v B' ⟨hn, rfl⟩; refine XL.both ?_); (rcases hn with ⟨e2, hc2, he2, rfl⟩ | ⟨hc2, rfl⟩)) <;>
    ((apply XL.det0F rfl rfl rfl rfl; exact D.extract rfl rfl)) <;>
    ((apply XL.det0F rfl rfl rfl rfl; exact D.extract rfl rfl)) <;>
    (first | refine XL.store1 rfl rfl rfl rfl rfl ?_ | refine XL.storeN rfl rfl rfl rfl rfl rfl ?_) <;>
    ((apply XL.det0F rfl rfl rfl rfl; exact D.assign rfl)) <;>
    (refine XL.nil ?_)) <;> (first | refine Ex.then ?_ | (refine N.next ?_ <;> ((refine X.ret ?_; (repeat (first | refine Rt.then ?_ | refine Rt.block ?_ | refine Rt.scope ?_)); (first | apply Rt.done (Res.r2 Try.results25 (by first | exact RV.cell rfl rfl | exact RV.cell1 rfl) (RV.tmp rfl)) | apply Rt.doneM (Res.r2 Try.results25 (by first | exact RV.cell rfl rfl | exact RV.cell1 rfl) (RV.tmp rfl))); (focus (first | exact ⟨zM, e, none, 0, rfl, .inl ⟨hq, h1, rfl⟩, (rfl : [own 56 3 (.slice none 0 0) 0 []] = _)⟩ | exact ⟨zM, 15, none, 0, rfl, .inr (.inl ⟨hq, hf, rfl, rfl⟩), (rfl : [own 56 3 (.slice none 0 0) 0 []] = _)⟩ | exact ⟨zM, e2, none, 0, rfl, .inr (.inr ⟨hq, k, y, hf, e2, hc2, .inl ⟨he2, rfl, rfl⟩⟩), (rfl : [own 56 3 (.slice none 0 0) 0 []] = _)⟩ | exact ⟨up { m with sn := m.sn.take k ++ m.sn.drop (k + 1) }, 0, a9, c9, rfl, .inr (.inr ⟨hq, k, y, hf, 0, hc2, .inr ⟨rfl, rfl, rfl⟩⟩), (rfl : [own 56 3 (.slice a9 (List.length (m.sn.take k ++ m.sn.drop (k + 1))) c9) (List.length (m.sn.take k ++ m.sn.drop (k + 1))) (encQ (m.sn.take k ++ m.sn.drop (k + 1)))] = _)⟩)); exact fun w h => h.takes))))))))))))))))))))
end Go.Lx
