/- Package dobj's walks: what is read. -/
import Derived.Test.YtkjhepgohacmiaaGreatDc
import Derived.Test.YtkjhepgohacmiaaGreatXo
namespace Go.Lx
open Go.Proofs
set_option linter.unusedVariables false
set_option linter.unusedSimpArgs false
set_option maxRecDepth 20000
set_option maxHeartbeats 4000000
theorem IRaw_spec (w : World) (H : Nat → Prop) (g p n : Nat) (e : Int) (s : Bs) (hown : Sep [cells g [.int .i64 p, .int .i64 e, .string ⟨List.toArray s⟩] 121] w H) (hp : p ≤ s.length) (hs : s.length ≤ 1000000000) (hn : n ≤ 9223372036854775807) : Spec Tryz.prog 65 #[.pointer (some ⟨g, 0, none⟩), .int .i64 n] w H (fun v A => ∃ x p' e', v = .string ⟨List.toArray x⟩ ∧ TakeR s p e n x p' e' ∧ A = [cells g [.int .i64 p', .int .i64 e', .string ⟨List.toArray s⟩] 121]) := by
  refine Spec.enter (args := [.pointer (some ⟨g, 0, none⟩), .int .i64 n]) (A := [cells g [.int .i64 p, .int .i64 e, .string ⟨List.toArray s⟩] 121]) Tryz.func65 rfl Tryz.ntmps65 rfl hown ?_
  (refine X.seq ?_ <;> (refine X.text (L := (.op .fin 0 .nil)) rfl (by kernel_rfl) ?_ <;>
    ((apply XL.det0F rfl rfl rfl rfl; exact D.assign rfl)) <;>
    (refine XL.nil ?_)) <;> (first | refine Ex.then ?_ | (refine N.next ?_ <;> (refine X.seq ?_ <;> (refine X.seq ?_ <;> (refine X.text (L := (.op .fin 0 (.op .fin 1 (.op .fin 2 (.op .fin 3 (.op .fin 4 (.op .fin 5 .nil))))))) rfl (by kernel_rfl) ?_ <;>
    ((apply XL.det0F rfl rfl rfl rfl; exact D.move rfl)) <;>
    ((refine XL.call rfl rfl rfl rfl (fun w hw => ready_spec w g e (hw.cellAt (Loc.at_) rfl)) ?_; rintro v B' ⟨rfl, rfl⟩; refine XL.both ?_); (by_cases he : e = 0 <;> first | rw [decide_eq_true he] | rw [decide_eq_false he])) <;>
    ((apply XL.det0F rfl rfl rfl rfl; exact D.move rfl)) <;>
    (first | refine XL.skipF rfl rfl rfl rfl ?_ | ((apply XL.det0F rfl rfl rfl rfl; exact D.move rfl))) <;>
    (first | refine XL.skipF rfl rfl rfl rfl ?_ | (first | refine XL.cmpTF rfl rfl rfl rfl (D.int rfl rfl rfl) (by omega) ?_ | refine XL.cmpFF rfl rfl rfl rfl (D.int rfl rfl rfl) (by omega) ?_ | refine XL.splitF rfl rfl rfl rfl (D.int rfl rfl rfl) (fun _ => ?_) (fun _ => ?_))) <;>
    ((apply XL.det0F rfl rfl rfl rfl; first | exact D.pickT rfl rfl | exact D.pickF rfl rfl | exact D.pick rfl rfl rfl)) <;>
    (refine XL.nil ?_)) <;> (first | refine Ex.then ?_ | (refine N.next ?_ <;> ((
    refine X.cond rfl ?_ ?_; rotate_left; (focus (
    intro hc; first | exact absurd hc (by decide) | (cases hc; done) | (refine X.skip ?_))); rotate_right; (focus (
    intro hc; first | exact absurd hc (by decide) | (cases hc; done) | (refine X.draw (.op .v0 0 (.op .v0 1 (.op .v0 2 (.op .v0 3 (.op .v0 4 (.op .v0 5 (.op .v0 6 (.op .v1 7 (.op .ch 8 .nil))))))))) mixed (by kernel_rfl) ?_ <;>
    ((apply XL.det0 rfl rfl rfl rfl; exact D.move rfl)) <;>
    ((apply XL.det0 rfl rfl rfl rfl; exact D.nilCheck rfl)) <;>
    ((apply XL.det0 rfl rfl rfl rfl; first | exact D.fieldAddrB0 rfl rfl | exact D.fieldAddrB rfl rfl | exact D.fieldAddrE0 rfl rfl | exact D.fieldAddrE rfl rfl)) <;>
    ((apply XL.det0 rfl rfl rfl rfl; exact D.move rfl)) <;>
    ((apply XL.det0 rfl rfl rfl rfl; exact D.nilCheck rfl)) <;>
    ((apply XL.det0 rfl rfl rfl rfl; first | exact D.fieldAddrB0 rfl rfl | exact D.fieldAddrB rfl rfl | exact D.fieldAddrE0 rfl rfl | exact D.fieldAddrE rfl rfl)) <;>
    ((apply XL.det0 rfl rfl rfl rfl; first | exact D.fieldAddrB0 rfl rfl | exact D.fieldAddrB rfl rfl | exact D.fieldAddrE0 rfl rfl | exact D.fieldAddrE rfl rfl)) <;>
    ((apply XL.det1 rfl rfl rfl rfl; first | exact D.load1 rfl (fun w h => h.cellAt (Loc.at_) rfl) | exact D.loadN rfl rfl (fun w h j u hu => by rw [at_add, Nat.zero_add]; exact h.cellAt (Loc.at_) hu) | exact D.loadP rfl rfl)) <;>
    (fail "op call") <;>
    (refine XL.nil ?_))))))))) <;> (first | refine Ex.then ?_ | (refine N.next ?_ <;> (refine X.seq ?_ <;> (refine X.text (L := (.op .fin 0 (.op .fin 1 (.op .fin 2 (.op .fin 3 .nil))))) rfl (by kernel_rfl) ?_ <;>
    ((apply XL.det0F rfl rfl rfl rfl; exact D.move rfl)) <;>
    ((apply XL.det0F rfl rfl rfl rfl; exact D.move rfl)) <;>
    ((refine XL.callF [cells g [.int .i64 p, .int .i64 e, .string ⟨List.toArray s⟩] 121] rfl rfl rfl rfl (fun w F hF hm hw => take_spec w F g p n e s hF hp hs hn) ?_; rintro v B' ⟨x, p', e', rfl, ht, rfl⟩; refine XL.both ?_)) <;>
    ((apply XL.det0F rfl rfl rfl rfl; exact D.assign rfl)) <;>
    (refine XL.nil ?_)) <;> (first | refine Ex.then ?_ | (refine N.next ?_ <;> ((refine X.ret ?_; (repeat (first | refine Rt.then ?_ | refine Rt.block ?_ | refine Rt.scope ?_)); (first | apply Rt.done (Res.r1 Tryz.results65 (RV.tmp rfl)) | apply Rt.doneM (Res.r1 Tryz.results65 (RV.tmp rfl))); (focus (exact ⟨x, p', e', rfl, ht, rfl⟩)); exact fun w h => h.takes)))))))))))
theorem dPart_spec (w : World) (H : Nat → Prop) (g p : Nat) (e : Int) (s : Bs) (hown : Sep [cells g [.int .i64 p, .int .i64 e, .string ⟨List.toArray s⟩] 121] w H) (hp : p ≤ s.length) (hs : s.length ≤ 1000000000) : Spec Tryz.prog 68 #[.pointer (some ⟨g, 0, none⟩)] w H (fun v A => ∃ (x : Ext) (p' : Nat) (e' : Int), v = .agg #[.int .i64 x.a, .int .i64 x.n, .int .i64 x.q, .int .i64 x.p] ∧ Stp ptB OkP (s.drop p) (e = 0) x (s.drop p') (e' = 0) ∧ p' ≤ s.length ∧ A = [cells g [.int .i64 p', .int .i64 e', .string ⟨List.toArray s⟩] 121]) := by
  refine Spec.enter (args := [.pointer (some ⟨g, 0, none⟩)]) (A := [cells g [.int .i64 p, .int .i64 e, .string ⟨List.toArray s⟩] 121]) Tryz.func68 rfl Tryz.ntmps68 rfl hown ?_
  (refine X.seq ?_ <;> (refine X.text (L := (.op .fin 0 .nil)) rfl (by kernel_rfl) ?_ <;>
    (refine XL.alloc rfl rfl rfl (by intro g; infer_instance) (fun g2 => ?_)) <;>
    (refine XL.nil ?_)) <;> (first | refine Ex.then ?_ | (refine N.next ?_ <;> (refine X.seq ?_ <;> (refine X.text (L := (.op .fin 0 .nil)) rfl (by kernel_rfl) ?_ <;>
    (refine XL.alloc rfl rfl rfl (by intro g; infer_instance) (fun g3 => ?_)) <;>
    (refine XL.nil ?_)) <;> (first | refine Ex.then ?_ | (refine N.next ?_ <;> (refine X.seq ?_ <;> (refine X.text (L := (.op .fin 0 (.op .fin 1 (.op .fin 2 (.op .fin 3 (.op .fin 4 (.op .fin 5 (.op .fin 6 (.op .fin 7 (.op .fin 8 (.op .fin 9 .nil))))))))))) rfl (by kernel_rfl) ?_ <;>
    ((apply XL.det0F rfl rfl rfl rfl; exact D.move rfl)) <;>
    ((refine XL.callF [cells g [.int .i64 p, .int .i64 e, .string ⟨List.toArray s⟩] 121] rfl rfl rfl rfl (fun w F hF hm hw => IInt_spec w F g p 1099511627776 e s hF hp hs (by decide)) ?_; rintro v B' ⟨x1, p1, e1, rfl, y1, z1, rfl⟩; refine XL.both ?_)) <;>
    ((apply XL.det0F rfl rfl rfl rfl; exact D.move rfl)) <;>
    ((refine XL.callF [cells g [.int .i64 p1, .int .i64 e1, .string ⟨List.toArray s⟩] 121] rfl rfl rfl rfl (fun w F hF hm hw => IInt_spec w F g p1 1099511627776 e1 s hF z1.1 hs (by decide)) ?_; rintro v B' ⟨x2, p2, e2, rfl, y2, z2, rfl⟩; refine XL.both ?_)) <;>
    ((apply XL.det0F rfl rfl rfl rfl; first | exact D.fieldAddrB0 rfl rfl | exact D.fieldAddrB rfl rfl | exact D.fieldAddrE0 rfl rfl | exact D.fieldAddrE rfl rfl)) <;>
    ((apply XL.det0F rfl rfl rfl rfl; first | exact D.fieldAddrB0 rfl rfl | exact D.fieldAddrB rfl rfl | exact D.fieldAddrE0 rfl rfl | exact D.fieldAddrE rfl rfl)) <;>
    (first | refine XL.store1 rfl rfl rfl rfl rfl ?_ | refine XL.storeN rfl rfl rfl rfl rfl rfl ?_ | refine XL.storeP rfl rfl rfl rfl rfl rfl ?_) <;>
    ((apply XL.det0F rfl rfl rfl rfl; first | exact D.fieldAddrB0 rfl rfl | exact D.fieldAddrB rfl rfl | exact D.fieldAddrE0 rfl rfl | exact D.fieldAddrE rfl rfl)) <;>
    ((apply XL.det0F rfl rfl rfl rfl; first | exact D.fieldAddrB0 rfl rfl | exact D.fieldAddrB rfl rfl | exact D.fieldAddrE0 rfl rfl | exact D.fieldAddrE rfl rfl)) <;>
    (first | refine XL.store1 rfl rfl rfl rfl rfl ?_ | refine XL.storeN rfl rfl rfl rfl rfl rfl ?_ | refine XL.storeP rfl rfl rfl rfl rfl rfl ?_) <;>
    (refine XL.nil ?_)) <;> (first | refine Ex.then ?_ | (refine N.next ?_ <;> (refine X.seq ?_ <;> (refine X.text (L := (.op .fin 0 (.op .fin 1 (.op .fin 2 (.op .fin 3 (.op .fin 4 (.op .fin 5 (.op .fin 6 (.op .fin 7 (.op .fin 8 (.op .fin 9 .nil))))))))))) rfl (by kernel_rfl) ?_ <;>
    ((apply XL.det0F rfl rfl rfl rfl; exact D.move rfl)) <;>
    ((refine XL.callF [cells g [.int .i64 p2, .int .i64 e2, .string ⟨List.toArray s⟩] 121] rfl rfl rfl rfl (fun w F hF hm hw => IInt_spec w F g p2 1099511627776 e2 s hF z2.1 hs (by decide)) ?_; rintro v B' ⟨x3, p3, e3, rfl, y3, z3, rfl⟩; refine XL.both ?_)) <;>
    ((apply XL.det0F rfl rfl rfl rfl; exact D.move rfl)) <;>
    ((refine XL.callF [cells g [.int .i64 p3, .int .i64 e3, .string ⟨List.toArray s⟩] 121] rfl rfl rfl rfl (fun w F hF hm hw => IInt_spec w F g p3 1099511627776 e3 s hF z3.1 hs (by decide)) ?_; rintro v B' ⟨x4, p4, e4, rfl, y4, z4, rfl⟩; refine XL.both ?_)) <;>
    ((apply XL.det0F rfl rfl rfl rfl; first | exact D.fieldAddrB0 rfl rfl | exact D.fieldAddrB rfl rfl | exact D.fieldAddrE0 rfl rfl | exact D.fieldAddrE rfl rfl)) <;>
    ((apply XL.det0F rfl rfl rfl rfl; first | exact D.fieldAddrB0 rfl rfl | exact D.fieldAddrB rfl rfl | exact D.fieldAddrE0 rfl rfl | exact D.fieldAddrE rfl rfl)) <;>
    (first | refine XL.store1 rfl rfl rfl rfl rfl ?_ | refine XL.storeN rfl rfl rfl rfl rfl rfl ?_ | refine XL.storeP rfl rfl rfl rfl rfl rfl ?_) <;>
    ((apply XL.det0F rfl rfl rfl rfl; first | exact D.fieldAddrB0 rfl rfl | exact D.fieldAddrB rfl rfl | exact D.fieldAddrE0 rfl rfl | exact D.fieldAddrE rfl rfl)) <;>
    ((apply XL.det0F rfl rfl rfl rfl; first | exact D.fieldAddrB0 rfl rfl | exact D.fieldAddrB rfl rfl | exact D.fieldAddrE0 rfl rfl | exact D.fieldAddrE rfl rfl)) <;>
    (first | refine XL.store1 rfl rfl rfl rfl rfl ?_ | refine XL.storeN rfl rfl rfl rfl rfl rfl ?_ | refine XL.storeP rfl rfl rfl rfl rfl rfl ?_) <;>
    (refine XL.nil ?_)) <;> (first | refine Ex.then ?_ | (refine N.next ?_ <;> (refine X.seq ?_ <;> (refine X.text (L := (.op .fin 0 (.op .fin 1 .nil))) rfl (by kernel_rfl) ?_ <;>
    ((apply XL.detF rfl rfl rfl rfl; first | exact D.load1 rfl (fun w h => h.cellAt (Loc.at_) rfl) | exact D.loadN rfl rfl (fun w h j u hu => by rw [at_add, Nat.zero_add]; exact h.cellAt (Loc.at_) hu) | exact D.loadP rfl rfl)) <;>
    (first | refine XL.store1 rfl rfl rfl rfl rfl ?_ | refine XL.storeN rfl rfl rfl rfl rfl rfl ?_ | refine XL.storeP rfl rfl rfl rfl rfl rfl ?_) <;>
    (refine XL.nil ?_)) <;> (first | refine Ex.then ?_ | (refine N.next ?_ <;> ((refine X.ret ?_; (repeat (first | refine Rt.then ?_ | refine Rt.block ?_ | refine Rt.scope ?_)); (first | apply Rt.done (Res.r1 Tryz.results68 (by first | exact RV.cell rfl rfl | exact RV.cell1 rfl)) | apply Rt.doneM (Res.r1 Tryz.results68 (by first | exact RV.cell rfl rfl | exact RV.cell1 rfl))); (focus (exact ⟨⟨x1, x2, x3, x4⟩, p4, e4, rfl, stpPt (dM.stp z1) (dM.stp z2) (dM.stp z3) (dM.stp z4), z4.1, rfl⟩)); exact fun w h => h.takes)))))))))))))))))
theorem fix_lt {n : Nat} {s : Bs} {p p' : Nat} {e e' : Int} {x : Nat} (h : RdR (fixF n) 0 s p e x p' e') : x < 256 ^ n := by
  obtain ⟨_, ⟨_, k, h, _⟩ | ⟨_, h, _⟩⟩ := h
  · exact ((codFix n).back h).2.2
  · rw [h]; exact Nat.pow_pos (by decide)
structure TJ where
  p : Nat
  e : Int
  a : Option Addr
  c : Nat
  l : List Ext
structure TK where
  p : Nat
  e : Int
  a : Option Addr
  c : Nat
  l : List Sp
theorem told_spec (w : World) (r d : Bs) (hr : r.length ≤ 1000000) : Spec Tryz.prog 31 #[.string ⟨List.toArray (kdD ++ r)⟩, .string ⟨List.toArray d⟩] w (fun _ => False) (fun v A => ∃ (z : Zh) (a b : Option Addr) (c dd : Nat) (q : Bs) (ee : Int) (f : Bool), v = .tuple #[.agg #[.int .u64 (((obO z d).k : Nat) : Int), .int .i64 (obO z d).ep, .int .i64 (obO z d).sq, .int .i64 (obO z d).up, .slice a (obO z d).ps.length c, .slice b (obO z d).cs.length dd, .string ⟨List.toArray ((obO z d).d)⟩], .int .u32 ((z.2 : Nat) : Int), .bool f] ∧ Stp hdE okZ r True z q (ee = 0) ∧ (f = true ↔ ee = 0 ∧ q = []) ∧ z.1.1.1.1.1.1 < 18446744073709551616 ∧ A = [own 64 4 (.slice a (List.length z.1.1.2) c) (List.length z.1.1.2) (encE z.1.1.2), own 62 2 (.slice b (List.length z.1.2) dd) (List.length z.1.2) (encS z.1.2)]) := by
  obtain ⟨h, hh⟩ : ∃ h, kdD ++ r = h := ⟨_, rfl⟩
  have hhl : h.length = r.length + 4 := by rw [← hh, List.length_append, Nat.add_comm]; rfl
  have hd4 : h.drop 4 = r := by rw [← hh]; rfl
  rw [hh]
  refine Spec.enter (args := [.string ⟨List.toArray h⟩, .string ⟨List.toArray d⟩]) (A := []) Tryz.func31 rfl Tryz.ntmps31 rfl (fun _ h => h) ?_
  refine X.mem (B := [own 64 4 (.slice none 0 0) 0 [], own 62 2 (.slice none 0 0) 0 []]) (fun w h => (h.nilOwn 62 2).nilOwn 64 4) ?_
  (refine X.seq ?_ <;> (refine X.text (L := (.op .fin 0 (.op .fin 1 (.op .fin 2 .nil)))) rfl (by kernel_rfl) ?_ <;>
    (refine XL.alloc rfl rfl rfl (by intro g; infer_instance) (fun g4 => ?_)) <;>
    ((apply XL.det0F rfl rfl rfl rfl; exact D.assign rfl)) <;>
    ((apply XL.det0F rfl rfl rfl rfl; exact D.assign rfl)) <;>
    (refine XL.nil ?_)) <;> (first | refine Ex.then ?_ | (refine N.next ?_ <;> (refine X.seq ?_ <;> (refine X.text (L := (.op .fin 0 (.op .fin 1 (.op .fin 2 .nil)))) rfl (by kernel_rfl) ?_ <;>
    ((apply XL.det0F rfl rfl rfl rfl; exact D.move rfl)) <;>
    ((refine XL.call rfl rfl rfl rfl (fun w hw => Read_spec w h) ?_; rintro v B' ⟨gi, rfl, rfl⟩; refine XL.both ?_)) <;>
    ((apply XL.det0F rfl rfl rfl rfl; exact D.assign rfl)) <;>
    (refine XL.nil ?_)) <;> (first | refine Ex.then ?_ | (refine N.next ?_ <;> (refine X.seq ?_ <;> (refine X.text (L := (.op .fin 0 (.op .fin 1 .nil))) rfl (by kernel_rfl) ?_ <;>
    ((apply XL.det0F rfl rfl rfl rfl; exact D.move rfl)) <;>
    ((refine XL.callF [cells gi [.int .i64 ((0 : Nat)), .int .i64 0, .string ⟨List.toArray h⟩] 121] rfl rfl rfl rfl (fun w F hF hm hw => IRaw_spec w F gi 0 4 0 h hF (Nat.zero_le _) (by omega) (by decide)) ?_; rintro v B' ⟨x0, p0, e0, rfl, ht, rfl⟩; refine XL.both ?_); (obtain ⟨rfl, rfl⟩ : p0 = 4 ∧ e0 = 0 := (by rcases ht with ⟨_, _, _, g1, g2⟩ | ⟨_, g, _⟩ | ⟨g, _⟩; exact ⟨by omega, g2⟩; omega; exact absurd rfl g))) <;>
    (refine XL.nil ?_)) <;> (first | refine Ex.then ?_ | (refine N.next ?_ <;> (refine X.seq ?_ <;> (refine X.text (L := (.op .fin 0 (.op .fin 1 (.op .fin 2 (.op .fin 3 (.op .fin 4 (.op .fin 5 (.op .fin 6 (.op .fin 7 (.op .fin 8 (.op .fin 9 (.op .fin 10 (.op .fin 11 .nil))))))))))))) rfl (by kernel_rfl) ?_ <;>
    ((apply XL.det0F rfl rfl rfl rfl; exact D.move rfl)) <;>
    ((refine XL.callF [cells gi [.int .i64 ((4 : Nat)), .int .i64 0, .string ⟨List.toArray h⟩] 121] rfl rfl rfl rfl (fun w F hF hm hw => IFixed_spec w F gi 4 8 0 h hF (by omega) (by omega) (by decide)) ?_; rintro v B' ⟨k, p1, e1, rfl, x1, rfl⟩; refine XL.both ?_)) <;>
    ((apply XL.det0F rfl rfl rfl rfl; exact D.move rfl)) <;>
    ((refine XL.callF [cells gi [.int .i64 p1, .int .i64 e1, .string ⟨List.toArray h⟩] 121] rfl rfl rfl rfl (fun w F hF hm hw => IInt_spec w F gi p1 1099511627776 e1 h hF x1.1 (by omega) (by decide)) ?_; rintro v B' ⟨ep, p2, e2, rfl, y2, x2, rfl⟩; refine XL.both ?_)) <;>
    ((apply XL.det0F rfl rfl rfl rfl; exact D.move rfl)) <;>
    ((refine XL.callF [cells gi [.int .i64 p2, .int .i64 e2, .string ⟨List.toArray h⟩] 121] rfl rfl rfl rfl (fun w F hF hm hw => IInt_spec w F gi p2 1099511627776 e2 h hF x2.1 (by omega) (by decide)) ?_; rintro v B' ⟨sq, p3, e3, rfl, y3, x3, rfl⟩; refine XL.both ?_)) <;>
    ((apply XL.det0F rfl rfl rfl rfl; exact D.move rfl)) <;>
    ((refine XL.callF [cells gi [.int .i64 p3, .int .i64 e3, .string ⟨List.toArray h⟩] 121] rfl rfl rfl rfl (fun w F hF hm hw => IInt_spec w F gi p3 1099511627776 e3 h hF x3.1 (by omega) (by decide)) ?_; rintro v B' ⟨up, p4, e4, rfl, y4, x4, rfl⟩; refine XL.both ?_)) <;>
    ((apply XL.det0F rfl rfl rfl rfl; exact D.move rfl)) <;>
    ((apply XL.det0F rfl rfl rfl rfl; exact D.build rfl)) <;>
    (refine XL.alloc rfl rfl rfl (by intro g; infer_instance) (fun g8 => ?_)) <;>
    (first | refine XL.store1 rfl rfl rfl rfl rfl ?_ | refine XL.storeN rfl rfl rfl rfl rfl rfl ?_ | refine XL.storeP rfl rfl rfl rfl rfl rfl ?_) <;>
    (refine XL.nil ?_)) <;> (first | refine Ex.then ?_ | (refine N.next ?_ <;> (refine X.seq ?_ <;> (refine X.text (L := (.op .fin 0 (.op .fin 1 (.op .fin 2 .nil)))) rfl (by kernel_rfl) ?_ <;>
    ((apply XL.det0F rfl rfl rfl rfl; exact D.move rfl)) <;>
    ((refine XL.callF [cells gi [.int .i64 p4, .int .i64 e4, .string ⟨List.toArray h⟩] 121] rfl rfl rfl rfl (fun w F hF hm hw => IInt_spec w F gi p4 1024 e4 h hF x4.1 (by omega) (by decide)) ?_; rintro v B' ⟨n, p5, e5, rfl, y5, x5, rfl⟩; refine XL.both ?_); have hk := fix_lt x1) <;>
    ((apply XL.det0F rfl rfl rfl rfl; exact D.assign rfl)) <;>
    (refine XL.nil ?_)) <;> (first | refine Ex.then ?_ | (refine N.next ?_ <;> (refine X.seq ?_ <;> (refine X.seq ?_ <;> (refine X.text (L := (.op .fin 0 .nil)) rfl (by kernel_rfl) ?_ <;>
    (obtain ⟨l0, hl0⟩ : ∃ l0 : List Ext, l0 = [] := (⟨_, rfl⟩); refine XL.mem (B := [cells gi [.int .i64 p5, .int .i64 e5, .string ⟨List.toArray h⟩] 121, cells g8 [.int .u64 ((k : Nat) : Int), .int .i64 ((ep : Nat) : Int), .int .i64 ((sq : Nat) : Int), .int .i64 ((up : Nat) : Int), .slice none l0.length 0, .slice none 0 0, .string ⟨List.toArray d⟩] 27, own 64 4 (.slice none (List.length l0) 0) (List.length l0) (encE l0), own 62 2 (.slice none 0 0) 0 [], cells g4 [.int .u64 0, .int .i64 0, .int .i64 0, .int .i64 0, .slice none 0 0, .slice none 0 0, .string ByteArray.empty] 27]) (fun w h9 => by subst hl0; exact (h9.takes : Conf _ [cells gi [.int .i64 p5, .int .i64 e5, .string ⟨List.toArray h⟩] 121, cells g8 [.int .u64 ((k : Nat) : Int), .int .i64 ((ep : Nat) : Int), .int .i64 ((sq : Nat) : Int), .int .i64 ((up : Nat) : Int), .slice none 0 0, .slice none 0 0, .string ⟨List.toArray d⟩] 27, own 64 4 (.slice none 0 0) 0 [], own 62 2 (.slice none 0 0) 0 [], cells g4 [.int .u64 0, .int .i64 0, .int .i64 0, .int .i64 0, .slice none 0 0, .slice none 0 0, .string ByteArray.empty] 27] w)) ?_; (apply XL.det0F (v := .int .i64 ((l0.length : Nat) : Int)) rfl rfl rfl rfl; exact D.assign (by rw [hl0]; rfl))) <;>
    (refine XL.nil ?_)) <;> (first | refine Ex.then ?_ | (refine N.next ?_ <;> (refine X.block ?_ <;> ((refine X.loop (ι := TJ) (fun y => [(1, .string ⟨List.toArray d⟩), (4, .pointer (some ⟨g4, 0, none⟩)), (7, .pointer (some ⟨gi, 0, none⟩)), (8, .pointer (some ⟨g8, 0, none⟩)), (9, .int .i64 ((n : Nat) : Int)), (10, .int .i64 ((y.l.length : Nat) : Int))]) (fun y => [cells gi [.int .i64 y.p, .int .i64 y.e, .string ⟨List.toArray h⟩] 121, cells g8 [.int .u64 ((k : Nat) : Int), .int .i64 ((ep : Nat) : Int), .int .i64 ((sq : Nat) : Int), .int .i64 ((up : Nat) : Int), .slice y.a y.l.length y.c, .slice none 0 0, .string ⟨List.toArray d⟩] 27, own 64 4 (.slice y.a (List.length y.l) y.c) (List.length y.l) (encE y.l), own 62 2 (.slice none 0 0) 0 [], cells g4 [.int .u64 0, .int .i64 0, .int .i64 0, .int .i64 0, .slice none 0 0, .slice none 0 0, .string ByteArray.empty] 27]) (fun y => y.l.length ≤ n ∧ Rws ptB OkP (h.drop p5) (e5 = 0) y.l (h.drop y.p) (y.e = 0) ∧ y.p ≤ h.length) (fun y => n - y.l.length) (⟨p5, e5, none, 0, l0⟩) ?_ ?_ ?_ ?_; (focus (exact ⟨by rw [hl0]; exact Nat.zero_le _, by rw [hl0]; exact Rws.nil, x5.1⟩)); (focus (repeat (first | exact Sub.nil | refine Sub.cons rfl ?_))); (focus (exact (fun w h => h.takes))); rintro ⟨p, e, a, c, l⟩ ⟨hl, hR, hpl⟩; (dsimp only at *)) <;> (refine X.seq ?_ <;> (refine X.seq ?_ <;> (refine X.text (L := (.op .fin 0 (.op .fin 1 (.op .fin 2 (.op .fin 3 (.op .fin 4 (.op .fin 5 (.op .fin 6 (.op .fin 7 .nil))))))))) rfl (by kernel_rfl) ?_ <;>
    ((apply XL.det0F rfl rfl rfl rfl; exact D.move rfl)) <;>
    ((apply XL.det0F rfl rfl rfl rfl; exact D.move rfl)) <;>
    (refine XL.splitF rfl rfl rfl rfl (D.int rfl rfl rfl) (fun h2 => ?_) (fun h2 => ?_)) <;>
    ((apply XL.det0F rfl rfl rfl rfl; exact D.move rfl)) <;>
    (first | refine XL.skipF rfl rfl rfl rfl ?_ | ((apply XL.det0F rfl rfl rfl rfl; exact D.move rfl))) <;>
    (first | refine XL.skipF rfl rfl rfl rfl ?_ | (first | refine XL.skipF rfl rfl rfl rfl ?_ | (refine XL.call rfl rfl rfl rfl (fun w hw => Err_spec w gi e (hw.cellAt (Loc.at_) rfl)) ?_; rintro v B' ⟨rfl, rfl⟩; refine XL.both ?_))) <;>
    (first | refine XL.skipF rfl rfl rfl rfl ?_ | (first | refine XL.skipF rfl rfl rfl rfl ?_ | refine XL.splitF rfl rfl rfl rfl (D.int rfl rfl rfl) (fun h3 => ?_) (fun h3 => ?_))) <;>
    ((apply XL.det0F rfl rfl rfl rfl; first | exact D.pickT rfl rfl | exact D.pickF rfl rfl | exact D.pick rfl rfl rfl)) <;>
    (refine XL.nil ?_)) <;> (first | refine Ex.then ?_ | (refine N.next ?_ <;> ((
    refine X.cond rfl ?_ ?_; rotate_left; (focus (
    intro hc; first | exact absurd hc (by decide) | (cases hc; done) | (refine X.exit ?_))); rotate_right; (focus (
    intro hc; first | exact absurd hc (by decide) | (cases hc; done) | (refine X.skip ?_)))))))) <;> (first | refine Ex.then ?_ | (refine N.next ?_ <;> (refine X.seq ?_ <;> (refine X.block ?_ <;> (refine X.drawS ([cells g8 [.int .u64 ((k : Nat) : Int), .int .i64 ((ep : Nat) : Int), .int .i64 ((sq : Nat) : Int), .int .i64 ((up : Nat) : Int), .slice a l.length c, .slice none 0 0, .string ⟨List.toArray d⟩] 27, own 64 4 (.slice a (List.length l) c) (List.length l) (encE l), own 62 2 (.slice none 0 0) 0 [], cells g4 [.int .u64 0, .int .i64 0, .int .i64 0, .int .i64 0, .slice none 0 0, .slice none 0 0, .string ByteArray.empty] 27]) (fun w h => h.takes) (.op .v0 0 (.op .v1 1 (.op .v0 2 (.op .ch 3 (.op .ch 4 (.op .fin 5 (.op .v0 6 (.op .fin 7 .nil)))))))) mixed (by kernel_rfl) ?_ <;>
    ((apply XL.det0 rfl rfl rfl rfl; first | exact D.fieldAddrB0 rfl rfl | exact D.fieldAddrB rfl rfl | exact D.fieldAddrE0 rfl rfl | exact D.fieldAddrE rfl rfl)) <;>
    ((apply XL.det1 rfl rfl rfl rfl; first | exact D.load1 rfl (fun w h => h.cellAt (Loc.at_) rfl) | exact D.loadN rfl rfl (fun w h j u hu => by rw [at_add, Nat.zero_add]; exact h.cellAt (Loc.at_) hu) | exact D.loadP rfl rfl)) <;>
    ((apply XL.det0 rfl rfl rfl rfl; exact D.move rfl)) <;>
    ((refine XL.callF [cells gi [.int .i64 p, .int .i64 e, .string ⟨List.toArray h⟩] 121] rfl rfl rfl rfl (fun w F hF hm hw => dPart_spec w F gi p e h hF hpl (by omega)) ?_; rintro v B' ⟨x, p6, e6, rfl, hx, hp6, rfl⟩; refine XL.both ?_)) <;>
    (refine XL.slice1 rfl rfl rfl rfl rfl rfl (by intro g; infer_instance) (fun g_ => ?_)) <;>
    ((refine XL.append rfl rfl rfl rfl rfl rfl ?_ ?_ (fun a' c' => ?_); (focus (skip; unfold maxLen; omega)); (focus (intro _ _; infer_instance))); rw [encE_snoc' l x, show l.length + 1 = (l ++ [x]).length from (by rw [List.length_append]; rfl)]) <;>
    ((apply XL.det0 rfl rfl rfl rfl; first | exact D.fieldAddrB0 rfl rfl | exact D.fieldAddrB rfl rfl | exact D.fieldAddrE0 rfl rfl | exact D.fieldAddrE rfl rfl)) <;>
    (first | refine XL.store1 rfl rfl rfl rfl rfl ?_ | refine XL.storeN rfl rfl rfl rfl rfl rfl ?_ | refine XL.storeP rfl rfl rfl rfl rfl rfl ?_) <;>
    (refine XL.nil ?_)) <;> (first | refine N.block ?_ | refine Ex.here ?_ | refine Ex.out rfl ?_)) <;> (first | refine Ex.then ?_ | (refine N.next ?_ <;> (refine X.text (L := (.op .fin 0 (.op .fin 1 (.op .fin 2 .nil)))) rfl (by kernel_rfl) ?_ <;>
    ((apply XL.det0F rfl rfl rfl rfl; exact D.move rfl)) <;>
    ((apply XL.det0F rfl rfl rfl rfl; exact D.add64 rfl rfl (by omega)); rw [show ((l.length : Nat) : Int) + 1 = (((l ++ [x]).length : Nat) : Int) from (by rw [List.length_append]; rfl)]) <;>
    ((apply XL.det0F rfl rfl rfl rfl; exact D.assign rfl)) <;>
    (refine XL.nil ?_)))))))) <;> (first | refine Ex.then ?_ | ((refine N.again (⟨p6, e6, a', c', l ++ [x]⟩) ?_ ?_ ?_ ?_; (focus (exact ⟨by simp only [List.length_append, List.length_singleton]; omega, hR.snoc hx, hp6⟩)); (focus (simp only [List.length_append, List.length_singleton]; omega)); (focus (repeat (first | exact Sub.nil | refine Sub.cons rfl ?_))); exact (fun w h => h.takes))))) <;> (first | refine N.block ?_ | refine Ex.here ?_ | refine Ex.out rfl ?_))))) <;> (first | refine Ex.then ?_ | (refine N.next ?_ <;> (refine X.seq ?_ <;> (refine X.text (L := (.op .fin 0 (.op .fin 1 (.op .fin 2 .nil)))) rfl (by kernel_rfl) ?_ <;>
    ((apply XL.det0F rfl rfl rfl rfl; exact D.move rfl)) <;>
    (have hC : Stp (cntB ptB) (fun l => l.length ≤ 1024 ∧ ∀ x ∈ l, OkP x) (h.drop p4) (e4 = 0) l (h.drop p) (e = 0) := hR.cnt (dC.stp x5) hl (fun he => by omega); (refine XL.callF [cells gi [.int .i64 p, .int .i64 e, .string ⟨List.toArray h⟩] 121] rfl rfl rfl rfl (fun w F hF hm hw => IInt_spec w F gi p 1024 e h hF hpl (by omega) (by decide)) ?_; rintro v B' ⟨m, p7, e7, rfl, y7, x7, rfl⟩; refine XL.both ?_)) <;>
    ((apply XL.det0F rfl rfl rfl rfl; exact D.assign rfl)) <;>
    (refine XL.nil ?_)) <;> (first | refine Ex.then ?_ | (refine N.next ?_ <;> (refine X.seq ?_ <;> (refine X.seq ?_ <;> (refine X.text (L := (.op .fin 0 .nil)) rfl (by kernel_rfl) ?_ <;>
    (obtain ⟨l1, hl1⟩ : ∃ l1 : List Sp, l1 = [] := (⟨_, rfl⟩); refine XL.mem (B := [cells gi [.int .i64 p7, .int .i64 e7, .string ⟨List.toArray h⟩] 121, cells g8 [.int .u64 ((k : Nat) : Int), .int .i64 ((ep : Nat) : Int), .int .i64 ((sq : Nat) : Int), .int .i64 ((up : Nat) : Int), .slice a l.length c, .slice none l1.length 0, .string ⟨List.toArray d⟩] 27, own 64 4 (.slice a (List.length l) c) (List.length l) (encE l), own 62 2 (.slice none (List.length l1) 0) (List.length l1) (encS l1), cells g4 [.int .u64 0, .int .i64 0, .int .i64 0, .int .i64 0, .slice none 0 0, .slice none 0 0, .string ByteArray.empty] 27]) (fun w h9 => by subst hl1; exact (h9.takes : Conf _ [cells gi [.int .i64 p7, .int .i64 e7, .string ⟨List.toArray h⟩] 121, cells g8 [.int .u64 ((k : Nat) : Int), .int .i64 ((ep : Nat) : Int), .int .i64 ((sq : Nat) : Int), .int .i64 ((up : Nat) : Int), .slice a l.length c, .slice none 0 0, .string ⟨List.toArray d⟩] 27, own 64 4 (.slice a (List.length l) c) (List.length l) (encE l), own 62 2 (.slice none 0 0) 0 [], cells g4 [.int .u64 0, .int .i64 0, .int .i64 0, .int .i64 0, .slice none 0 0, .slice none 0 0, .string ByteArray.empty] 27] w)) ?_; (apply XL.det0F (v := .int .i64 ((l1.length : Nat) : Int)) rfl rfl rfl rfl; exact D.assign (by rw [hl1]; rfl))) <;>
    (refine XL.nil ?_)) <;> (first | refine Ex.then ?_ | (refine N.next ?_ <;> (refine X.block ?_ <;> ((refine X.loop (ι := TK) (fun y => [(4, .pointer (some ⟨g4, 0, none⟩)), (7, .pointer (some ⟨gi, 0, none⟩)), (8, .pointer (some ⟨g8, 0, none⟩)), (9, .int .i64 ((m : Nat) : Int)), (11, .int .i64 ((y.l.length : Nat) : Int))]) (fun y => [cells gi [.int .i64 y.p, .int .i64 y.e, .string ⟨List.toArray h⟩] 121, cells g8 [.int .u64 ((k : Nat) : Int), .int .i64 ((ep : Nat) : Int), .int .i64 ((sq : Nat) : Int), .int .i64 ((up : Nat) : Int), .slice a l.length c, .slice y.a y.l.length y.c, .string ⟨List.toArray d⟩] 27, own 64 4 (.slice a (List.length l) c) (List.length l) (encE l), own 62 2 (.slice y.a (List.length y.l) y.c) (List.length y.l) (encS y.l), cells g4 [.int .u64 0, .int .i64 0, .int .i64 0, .int .i64 0, .slice none 0 0, .slice none 0 0, .string ByteArray.empty] 27]) (fun y => y.l.length ≤ m ∧ Rws csB OkC (h.drop p7) (e7 = 0) y.l (h.drop y.p) (y.e = 0) ∧ y.p ≤ h.length) (fun y => m - y.l.length) (⟨p7, e7, none, 0, l1⟩) ?_ ?_ ?_ ?_; (focus (exact ⟨by rw [hl1]; exact Nat.zero_le _, by rw [hl1]; exact Rws.nil, x7.1⟩)); (focus (repeat (first | exact Sub.nil | refine Sub.cons rfl ?_))); (focus (exact (fun w h => h.takes))); rintro ⟨p8, e8, a8, c8, l8⟩ ⟨hl8, hR8, hpl8⟩; (dsimp only at *)) <;> (refine X.seq ?_ <;> (refine X.seq ?_ <;> (refine X.text (L := (.op .fin 0 (.op .fin 1 (.op .fin 2 (.op .fin 3 (.op .fin 4 (.op .fin 5 (.op .fin 6 (.op .fin 7 .nil))))))))) rfl (by kernel_rfl) ?_ <;>
    ((apply XL.det0F rfl rfl rfl rfl; exact D.move rfl)) <;>
    ((apply XL.det0F rfl rfl rfl rfl; exact D.move rfl)) <;>
    (refine XL.splitF rfl rfl rfl rfl (D.int rfl rfl rfl) (fun h4 => ?_) (fun h4 => ?_)) <;>
    ((apply XL.det0F rfl rfl rfl rfl; exact D.move rfl)) <;>
    (first | refine XL.skipF rfl rfl rfl rfl ?_ | ((apply XL.det0F rfl rfl rfl rfl; exact D.move rfl))) <;>
    (first | refine XL.skipF rfl rfl rfl rfl ?_ | (first | refine XL.skipF rfl rfl rfl rfl ?_ | (refine XL.call rfl rfl rfl rfl (fun w hw => Err_spec w gi e8 (hw.cellAt (Loc.at_) rfl)) ?_; rintro v B' ⟨rfl, rfl⟩; refine XL.both ?_))) <;>
    (first | refine XL.skipF rfl rfl rfl rfl ?_ | (first | refine XL.skipF rfl rfl rfl rfl ?_ | refine XL.splitF rfl rfl rfl rfl (D.int rfl rfl rfl) (fun h5 => ?_) (fun h5 => ?_))) <;>
    ((apply XL.det0F rfl rfl rfl rfl; first | exact D.pickT rfl rfl | exact D.pickF rfl rfl | exact D.pick rfl rfl rfl)) <;>
    (refine XL.nil ?_)) <;> (first | refine Ex.then ?_ | (refine N.next ?_ <;> ((
    refine X.cond rfl ?_ ?_; rotate_left; (focus (
    intro hc; first | exact absurd hc (by decide) | (cases hc; done) | (refine X.exit ?_))); rotate_right; (focus (
    intro hc; first | exact absurd hc (by decide) | (cases hc; done) | (refine X.skip ?_)))))))) <;> (first | refine Ex.then ?_ | (refine N.next ?_ <;> (refine X.seq ?_ <;> (refine X.block ?_ <;> (refine X.drawS ([cells g8 [.int .u64 ((k : Nat) : Int), .int .i64 ((ep : Nat) : Int), .int .i64 ((sq : Nat) : Int), .int .i64 ((up : Nat) : Int), .slice a l.length c, .slice a8 l8.length c8, .string ⟨List.toArray d⟩] 27, own 64 4 (.slice a (List.length l) c) (List.length l) (encE l), own 62 2 (.slice a8 (List.length l8) c8) (List.length l8) (encS l8), cells g4 [.int .u64 0, .int .i64 0, .int .i64 0, .int .i64 0, .slice none 0 0, .slice none 0 0, .string ByteArray.empty] 27]) (fun w h => h.takes) (.op .v0 0 (.op .v1 1 (.op .v0 2 (.op .v0 4 (.op .ch 3 (.op .ch 5 (.op .v0 6 (.op .ch 7 (.op .fin 8 (.op .v0 9 (.op .fin 10 .nil))))))))))) mixed (by kernel_rfl) ?_ <;>
    ((apply XL.det0 rfl rfl rfl rfl; first | exact D.fieldAddrB0 rfl rfl | exact D.fieldAddrB rfl rfl | exact D.fieldAddrE0 rfl rfl | exact D.fieldAddrE rfl rfl)) <;>
    ((apply XL.det1 rfl rfl rfl rfl; first | exact D.load1 rfl (fun w h => h.cellAt (Loc.at_) rfl) | exact D.loadN rfl rfl (fun w h j u hu => by rw [at_add, Nat.zero_add]; exact h.cellAt (Loc.at_) hu) | exact D.loadP rfl rfl)) <;>
    ((apply XL.det0 rfl rfl rfl rfl; exact D.move rfl)) <;>
    ((apply XL.det0 rfl rfl rfl rfl; exact D.move rfl)) <;>
    ((refine XL.callF [cells gi [.int .i64 p8, .int .i64 e8, .string ⟨List.toArray h⟩] 121] rfl rfl rfl rfl (fun w F hF hm hw => IInt_spec w F gi p8 1099511627776 e8 h hF hpl8 (by omega) (by decide)) ?_; rintro v B' ⟨xa, p9, e9, rfl, y9, x9, rfl⟩; refine XL.both ?_)) <;>
    ((refine XL.callF [cells gi [.int .i64 p9, .int .i64 e9, .string ⟨List.toArray h⟩] 121] rfl rfl rfl rfl (fun w F hF hm hw => IInt_spec w F gi p9 1099511627776 e9 h hF x9.1 (by omega) (by decide)) ?_; rintro v B' ⟨xn, p10, e10, rfl, y10, x10, rfl⟩; refine XL.both ?_)) <;>
    ((apply XL.det0 rfl rfl rfl rfl; exact D.build rfl)) <;>
    (refine XL.slice1 rfl rfl rfl rfl rfl rfl (by intro g; infer_instance) (fun g_ => ?_)) <;>
    ((refine XL.append rfl rfl rfl rfl rfl rfl ?_ ?_ (fun a' c' => ?_); (focus (skip; unfold maxLen; omega)); (focus (intro _ _; infer_instance))); rw [encS_snoc l8 (((xa : Nat) : Int), ((xn : Nat) : Int)), show l8.length + 1 = (l8 ++ [((((xa : Nat) : Int), ((xn : Nat) : Int)) : Sp)]).length from (by rw [List.length_append]; rfl)]) <;>
    ((apply XL.det0 rfl rfl rfl rfl; first | exact D.fieldAddrB0 rfl rfl | exact D.fieldAddrB rfl rfl | exact D.fieldAddrE0 rfl rfl | exact D.fieldAddrE rfl rfl)) <;>
    (first | refine XL.store1 rfl rfl rfl rfl rfl ?_ | refine XL.storeN rfl rfl rfl rfl rfl rfl ?_ | refine XL.storeP rfl rfl rfl rfl rfl rfl ?_) <;>
    (refine XL.nil ?_)) <;> (first | refine N.block ?_ | refine Ex.here ?_ | refine Ex.out rfl ?_)) <;> (first | refine Ex.then ?_ | (refine N.next ?_ <;> (refine X.text (L := (.op .fin 0 (.op .fin 1 (.op .fin 2 .nil)))) rfl (by kernel_rfl) ?_ <;>
    ((apply XL.det0F rfl rfl rfl rfl; exact D.move rfl)) <;>
    ((apply XL.det0F rfl rfl rfl rfl; exact D.add64 rfl rfl (by omega)); rw [show ((l8.length : Nat) : Int) + 1 = (((l8 ++ [((((xa : Nat) : Int), ((xn : Nat) : Int)) : Sp)]).length : Nat) : Int) from (by rw [List.length_append]; rfl)]) <;>
    ((apply XL.det0F rfl rfl rfl rfl; exact D.assign rfl)) <;>
    (refine XL.nil ?_)))))))) <;> (first | refine Ex.then ?_ | ((refine N.again (⟨p10, e10, a', c', l8 ++ [((xa : Int), (xn : Int))]⟩) ?_ ?_ ?_ ?_; (focus (exact ⟨by simp only [List.length_append, List.length_singleton]; omega, hR8.snoc (stpCs (dM.stp x9) (dM.stp x10)), x10.1⟩)); (focus (simp only [List.length_append, List.length_singleton]; omega)); (focus (repeat (first | exact Sub.nil | refine Sub.cons rfl ?_))); exact (fun w h => h.takes))))) <;> (first | refine N.block ?_ | refine Ex.here ?_ | refine Ex.out rfl ?_))))) <;> (first | refine Ex.then ?_ | (refine N.next ?_ <;> (refine X.seq ?_ <;> (refine X.text (L := (.op .fin 0 (.op .fin 1 (.op .fin 2 (.op .fin 3 .nil))))) rfl (by kernel_rfl) ?_ <;>
    ((apply XL.det0F rfl rfl rfl rfl; exact D.move rfl)) <;>
    (have hD : Stp (cntB csB) (fun l => l.length ≤ 1024 ∧ ∀ x ∈ l, OkC x) (h.drop p) (e = 0) l8 (h.drop p8) (e8 = 0) := hR8.cnt (dC.stp x7) hl8 (fun he => by omega); (refine XL.callF [cells gi [.int .i64 p8, .int .i64 e8, .string ⟨List.toArray h⟩] 121] rfl rfl rfl rfl (fun w F hF hm hw => IFixed_spec w F gi p8 4 e8 h hF hpl8 (by omega) (by decide)) ?_; rintro v B' ⟨sm, p11, e11, rfl, x11, rfl⟩; refine XL.both ?_); have hsm := fix_lt x11; have hZ : Stp hdE okZ (h.drop 4) ((0 : Int) = 0) ((((((k, ep), sq), up), l), l8), sm) (h.drop p11) (e11 = 0) := (((((((codFix 8).stp x1).seq (dM.stp x2)).seq (dM.stp x3)).seq (dM.stp x4)).seq hC).seq hD).seq ((codFix 4).stp x11)) <;>
    ((apply XL.det0F rfl rfl rfl rfl; exact D.convN rfl rfl); rw [Nat.mod_eq_of_lt (show sm < 2 ^ IntKind.u32.bits from hsm)]) <;>
    ((apply XL.det0F rfl rfl rfl rfl; exact D.assign rfl)) <;>
    (refine XL.nil ?_)) <;> (first | refine Ex.then ?_ | (refine N.next ?_ <;> (refine X.seq ?_ <;> (refine X.draw (.op .v1 0 (.op .v0 1 (.op .v0 2 (.op .ch 3 (.op .v0 4 (.op .fin 5 (.op .v0 6 (.op .v0 7 .nil)))))))) mixed (by kernel_rfl) ?_ <;>
    ((apply XL.det1 rfl rfl rfl rfl; first | exact D.load1 rfl (fun w h => h.cellAt (Loc.at_) rfl) | exact D.loadN rfl rfl (fun w h j u hu => by rw [at_add, Nat.zero_add]; exact h.cellAt (Loc.at_) hu) | exact D.loadP rfl rfl)) <;>
    ((apply XL.det0 rfl rfl rfl rfl; exact D.move rfl)) <;>
    ((apply XL.det0 rfl rfl rfl rfl; exact D.move rfl)) <;>
    ((refine XL.call rfl rfl rfl rfl (fun w hw => Done_spec w gi p11 e11 h (hw.cellAt (Loc.at_) rfl) (hw.cellAt (Loc.at_) rfl) (hw.cellAt (Loc.at_) rfl) x11.1 (by omega)) ?_; rintro v B' ⟨f, rfl, hf, rfl⟩; refine XL.both ?_)) <;>
    (refine XL.split0 rfl rfl rfl rfl (D.int rfl rfl rfl) (fun h6 => ?_) (fun h6 => ?_)) <;>
    (first | refine XL.store1 rfl rfl rfl rfl rfl ?_ | refine XL.storeN rfl rfl rfl rfl rfl rfl ?_ | refine XL.storeP rfl rfl rfl rfl rfl rfl ?_) <;>
    ((apply XL.det0 rfl rfl rfl rfl; exact D.assign rfl)) <;>
    ((apply XL.det0 rfl rfl rfl rfl; exact D.assign rfl)) <;>
    (refine XL.nil ?_)) <;> (first | refine Ex.then ?_ | (refine N.next ?_ <;> ((refine X.ret ?_; (repeat (first | refine Rt.then ?_ | refine Rt.block ?_ | refine Rt.scope ?_)); (first | apply Rt.done (Res.r3 Tryz.results31 (by first | exact RV.cell rfl rfl | exact RV.cell1 rfl) (RV.tmp rfl) (RV.tmp rfl)) | apply Rt.doneM (Res.r3 Tryz.results31 (by first | exact RV.cell rfl rfl | exact RV.cell1 rfl) (RV.tmp rfl) (RV.tmp rfl))); (focus (rw [hd4] at hZ; have hq : h.drop p11 = [] ↔ p11 = h.length := (by have := x11.1; rw [List.drop_eq_nil_iff]; omega); first | exact ⟨((((((k, ep), sq), up), l), l8), sm), a, a8, c, c8, h.drop p11, e11, true, rfl, ⟨fun x => ⟨trivial, (hZ.back x).2⟩, fun y q _ => hZ.fwd y q rfl⟩, iff_of_true rfl (by rw [hq]; exact hf.1 h6), hk, rfl⟩ | exact ⟨((((((k, ep), sq), up), l), l8), sm), a, a8, c, c8, h.drop p11, e11, false, rfl, ⟨fun x => ⟨trivial, (hZ.back x).2⟩, fun y q _ => hZ.fwd y q rfl⟩, iff_of_false Bool.false_ne_true (fun g => h6 (hf.2 (by rw [hq] at g; exact g))), hk, rfl⟩)); exact fun w h => h.takes))))))))))))))))))))))))))))))))
end Go.Lx
