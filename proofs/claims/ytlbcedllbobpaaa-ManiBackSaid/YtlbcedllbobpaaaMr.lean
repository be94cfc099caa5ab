/- Decode of package mani. -/
import Derived.Test.YtlbcedllbobpaaaMq
import Derived.Test.YtlbcedllbobpaaaXo
import Derived.Test.YtlbcedllbobpaaaWf
namespace Go.Lx
open Go.Proofs
set_option linter.unusedVariables false
set_option linter.unusedSimpArgs false
set_option maxRecDepth 20000
set_option maxHeartbeats 4000000
theorem pre_iff {s p : Bs} (h : p.length ≤ s.length) : s.take p.length = p ↔ ∃ r, s = p ++ r :=
  ⟨fun e => ⟨s.drop p.length, by conv => lhs; rw [← List.take_append_drop p.length s, e]⟩, fun ⟨r, e⟩ => by rw [e, List.take_left]⟩
theorem iPrefix_spec (w : World) (s p : Bs) (hs : s.length ≤ 1000000000) (hp : p.length ≤ 1000000000) : Spec Try.prog 57 #[.string ⟨List.toArray s⟩, .string ⟨List.toArray p⟩] w (fun _ => False) (fun v A => ∃ b : Bool, v = .bool b ∧ (b = true ↔ ∃ r, s = p ++ r) ∧ A = []) := by
  refine Spec.enter (args := [.string ⟨List.toArray s⟩, .string ⟨List.toArray p⟩]) (A := []) Try.func57 rfl Try.ntmps57 rfl (fun _ h => h) ?_
  (refine X.seq ?_ <;> (refine X.text (L := (.op .fin 0 .nil)) rfl (by kernel_rfl) ?_ <;>
    ((apply XL.det0F rfl rfl rfl rfl; exact D.assign rfl)) <;>
    (refine XL.nil ?_)) <;> (first | refine Ex.then ?_ | (refine N.next ?_ <;> (refine X.seq ?_ <;> (refine X.text (L := (.op .fin 0 (.op .fin 1 (.op .fin 2 (.op .fin 3 (.op .fin 4 (.op .fin 5 (.op .fin 6 (.op .fin 7 (.op .fin 8 (.op .fin 9 (.op .fin 10 (.op .fin 11 (.op .fin 12 (.op .fin 13 .nil))))))))))))))) rfl (by kernel_rfl) ?_ <;>
    ((apply XL.det0F rfl rfl rfl rfl; exact D.move rfl)) <;>
    ((apply XL.det0F rfl rfl rfl rfl; first | exact D.len rfl | exact D.lenL rfl | exact D.lenS rfl)) <;>
    ((apply XL.det0F rfl rfl rfl rfl; exact D.move rfl)) <;>
    ((apply XL.det0F rfl rfl rfl rfl; first | exact D.len rfl | exact D.lenL rfl | exact D.lenS rfl)) <;>
    (refine XL.splitF rfl rfl rfl rfl (D.int rfl rfl rfl) (fun h1 => ?_) (fun h1 => ?_)) <;>
    ((apply XL.det0F rfl rfl rfl rfl; exact D.move rfl)) <;>
    (first | refine XL.skipF rfl rfl rfl rfl ?_ | ((apply XL.det0F rfl rfl rfl rfl; exact D.move rfl))) <;>
    (first | refine XL.skipF rfl rfl rfl rfl ?_ | ((apply XL.det0F rfl rfl rfl rfl; exact D.move rfl))) <;>
    (first | refine XL.skipF rfl rfl rfl rfl ?_ | ((apply XL.det0F rfl rfl rfl rfl; first | exact D.len rfl | exact D.lenL rfl | exact D.lenS rfl))) <;>
    (first | refine XL.skipF rfl rfl rfl rfl ?_ | (first | refine XL.skipF rfl rfl rfl rfl ?_ | (apply XL.det0F rfl rfl rfl rfl; exact D.cutH (h := p.length) rfl rfl (by omega)))) <;>
    (first | refine XL.skipF rfl rfl rfl rfl ?_ | ((apply XL.det0F rfl rfl rfl rfl; exact D.move rfl))) <;>
    (first | refine XL.skipF rfl rfl rfl rfl ?_ | (first | refine XL.skipF rfl rfl rfl rfl ?_ | refine XL.splitF rfl rfl rfl rfl (D.strEq rfl rfl) (fun h2 => ?_) (fun h2 => ?_))) <;>
    ((apply XL.det0F rfl rfl rfl rfl; first | exact D.pickT rfl rfl | exact D.pickF rfl rfl | exact D.pick rfl rfl rfl)) <;>
    ((apply XL.det0F rfl rfl rfl rfl; exact D.assign rfl)) <;>
    (refine XL.nil ?_)) <;> (first | refine Ex.then ?_ | (refine N.next ?_ <;> ((refine X.ret ?_; (repeat (first | refine Rt.then ?_ | refine Rt.block ?_ | refine Rt.scope ?_)); (first | apply Rt.done (Res.r1 Try.results57 (RV.tmp rfl)) | apply Rt.doneM (Res.r1 Try.results57 (RV.tmp rfl))); (focus (first | exact ⟨true, rfl, ⟨fun _ => (pre_iff (by omega)).1 h2, fun _ => rfl⟩, rfl⟩ | exact ⟨false, rfl, ⟨fun h => (by cases h), fun h => absurd ((pre_iff (by omega)).2 h) h2⟩, rfl⟩ | exact ⟨false, rfl, ⟨fun h => (by cases h), fun ⟨r, h⟩ => by rw [h, List.length_append] at h1; omega⟩, rfl⟩)); exact fun w h => h.takes))))))))
theorem Prefix_spec (w : World) (s p : Bs) (hs : s.length ≤ 1000000000) (hp : p.length ≤ 1000000000) : Spec Try.prog 29 #[.string ⟨List.toArray s⟩, .string ⟨List.toArray p⟩] w (fun _ => False) (fun v A => ∃ b : Bool, v = .bool b ∧ (b = true ↔ ∃ r, s = p ++ r) ∧ A = []) := by
  refine Spec.enter (args := [.string ⟨List.toArray s⟩, .string ⟨List.toArray p⟩]) (A := []) Try.func29 rfl Try.ntmps29 rfl (fun _ h => h) ?_
  (refine X.seq ?_ <;> (refine X.text (L := (.op .fin 0 .nil)) rfl (by kernel_rfl) ?_ <;>
    ((apply XL.det0F rfl rfl rfl rfl; exact D.assign rfl)) <;>
    (refine XL.nil ?_)) <;> (first | refine Ex.then ?_ | (refine N.next ?_ <;> (refine X.seq ?_ <;> (refine X.text (L := (.op .fin 0 (.op .fin 1 (.op .fin 2 (.op .fin 3 .nil))))) rfl (by kernel_rfl) ?_ <;>
    ((apply XL.det0F rfl rfl rfl rfl; exact D.move rfl)) <;>
    ((apply XL.det0F rfl rfl rfl rfl; exact D.move rfl)) <;>
    ((refine XL.call rfl rfl rfl rfl (fun w hw => iPrefix_spec w s p hs hp) ?_; rintro v B' ⟨b, rfl, hb, rfl⟩; refine XL.both ?_)) <;>
    ((apply XL.det0F rfl rfl rfl rfl; exact D.assign rfl)) <;>
    (refine XL.nil ?_)) <;> (first | refine Ex.then ?_ | (refine N.next ?_ <;> ((refine X.ret ?_; (repeat (first | refine Rt.then ?_ | refine Rt.block ?_ | refine Rt.scope ?_)); (first | apply Rt.done (Res.r1 Try.results29 (RV.tmp rfl)) | apply Rt.doneM (Res.r1 Try.results29 (RV.tmp rfl))); (focus (exact ⟨b, rfl, hb, rfl⟩)); exact fun w h => h.takes))))))))
structure DI where
  p : Nat
  e : Int
  a : Option Addr
  c : Nat
  l : List Sn3
theorem Decode_spec (w : World) (s : Bs) (hs : s.length ≤ 1000000) : Spec Try.prog 9 #[.string ⟨List.toArray s⟩] w (fun _ => False) (fun v A => ∃ (m : Man) (e : Int) (a : Option Addr) (c : Nat), v = .tuple #[.agg #[.string ⟨List.toArray m.v⟩, .int .u64 ((m.k : Nat) : Int), .int .i64 m.s, .int .i64 m.z, .string ⟨List.toArray m.b⟩, .int .i64 m.bq, .slice a m.sn.length c], .int .i64 e] ∧ DecR s m e ∧ A = [own 56 3 (.slice a (List.length m.sn) c) (List.length m.sn) (encQ m.sn)]) := by
  obtain ⟨t, eo, ho⟩ : ∃ t eo, openS s = (t, eo) := ⟨_, _, rfl⟩
  have ht : t.length ≤ s.length := by
    have : t = (openS s).1 := by rw [ho]
    rw [this]
    unfold openS
    split
    · simp
    · split <;> simp
  refine Spec.enter (args := [.string ⟨List.toArray s⟩]) (A := []) Try.func9 rfl Try.ntmps9 rfl (fun _ h => h) ?_
  refine X.mem (B := [own 56 3 (.slice none 0 0) 0 [], own 56 3 (.slice none 0 0) 0 []]) (fun w h => (h.nilOwn 56 3).nilOwn 56 3) ?_
  (refine X.seq ?_ <;> (refine X.text (L := (.op .fin 0 (.op .fin 1 .nil))) rfl (by kernel_rfl) ?_ <;>
    (refine XL.alloc rfl rfl rfl (by intro g; infer_instance) (fun g2 => ?_)) <;>
    ((apply XL.det0F rfl rfl rfl rfl; exact D.assign rfl)) <;>
    (refine XL.nil ?_)) <;> (first | refine Ex.then ?_ | (refine N.next ?_ <;> (refine X.seq ?_ <;> (refine X.text (L := (.op .fin 0 (.op .fin 1 (.op .fin 2 (.op .fin 3 (.op .fin 4 (.op .fin 5 (.op .fin 6 .nil)))))))) rfl (by kernel_rfl) ?_ <;>
    ((apply XL.det0F rfl rfl rfl rfl; exact D.move rfl)) <;>
    ((refine XL.call rfl rfl rfl rfl (fun w hw => Open_spec w s (by omega)) ?_; rintro v B' ⟨rfl, rfl⟩; refine XL.both ?_); rw [ho]) <;>
    ((apply XL.det0F rfl rfl rfl rfl; exact D.move rfl)) <;>
    ((apply XL.det0F rfl rfl rfl rfl; exact D.extract rfl rfl)) <;>
    ((apply XL.det0F rfl rfl rfl rfl; exact D.extract rfl rfl)) <;>
    ((apply XL.det0F rfl rfl rfl rfl; exact D.assign rfl)) <;>
    ((apply XL.det0F rfl rfl rfl rfl; exact D.assign rfl)) <;>
    (refine XL.nil ?_)) <;> (first | refine Ex.then ?_ | (refine N.next ?_ <;> (refine X.seq ?_ <;> (refine X.block ?_ <;> (refine X.seq ?_ <;> (refine X.text (L := (.op .fin 0 (.op .fin 1 (.op .fin 2 .nil)))) rfl (by kernel_rfl) ?_ <;>
    ((apply XL.det0F rfl rfl rfl rfl; exact D.move rfl)) <;>
    (refine XL.splitF rfl rfl rfl rfl (D.int rfl rfl rfl) (fun h1 => ?_) (fun h1 => ?_)) <;>
    ((apply XL.det0F rfl rfl rfl rfl; exact D.assign rfl)) <;>
    (refine XL.nil ?_)) <;> (first | refine Ex.then ?_ | (refine N.next ?_ <;> ((
    refine X.cond rfl ?_ ?_; rotate_left; (focus (
    intro hc; first | exact absurd hc (by decide) | (cases hc; done) | (refine X.seq ?_ <;> (refine X.text (L := (.op .fin 0 (.op .fin 1 (.op .fin 2 (.op .fin 3 .nil))))) rfl (by kernel_rfl) ?_ <;>
    ((apply XL.det0F rfl rfl rfl rfl; exact D.move rfl)) <;>
    ((refine XL.call rfl rfl rfl rfl (fun w hw => Prefix_spec w t mgc (by omega) (by decide)) ?_; rintro v B' ⟨b0, rfl, hb0, rfl⟩; refine XL.both ?_); cases b0) <;>
    ((apply XL.det0F rfl rfl rfl rfl; exact D.not rfl)) <;>
    ((apply XL.det0F rfl rfl rfl rfl; exact D.assign rfl)) <;>
    (refine XL.nil ?_)) <;> (first | refine Ex.then ?_ | (refine N.next ?_ <;> ((
    refine X.cond rfl ?_ ?_; rotate_left; (focus (
    intro hc; first | exact absurd hc (by decide) | (cases hc; done) | (refine X.skip ?_))); rotate_right; (focus (
    intro hc; first | exact absurd hc (by decide) | (cases hc; done) | (refine X.seq ?_ <;> (refine X.text (L := (.op .fin 0 (.op .fin 1 (.op .fin 2 .nil)))) rfl (by kernel_rfl) ?_ <;>
    ((apply XL.det0F rfl rfl rfl rfl; exact D.build rfl)) <;>
    (first | refine XL.store1 rfl rfl rfl rfl rfl ?_ | refine XL.storeN rfl rfl rfl rfl rfl rfl ?_ | refine XL.storeP rfl rfl rfl rfl rfl rfl ?_) <;>
    ((apply XL.det0F rfl rfl rfl rfl; exact D.assign rfl)) <;>
    (refine XL.nil ?_)) <;> (first | refine Ex.then ?_ | (refine N.next ?_ <;> ((refine X.ret ?_; (repeat (first | refine Rt.then ?_ | refine Rt.block ?_ | refine Rt.scope ?_)); (first | apply Rt.done (Res.r2 Try.results9 (by first | exact RV.cell rfl rfl | exact RV.cell1 rfl) (RV.tmp rfl)) | apply Rt.doneM (Res.r2 Try.results9 (by first | exact RV.cell rfl rfl | exact RV.cell1 rfl) (RV.tmp rfl))); (focus (first | exact ⟨zM, eo, none, 0, rfl, .inl ⟨by rw [ho]; exact h1, by rw [ho], rfl⟩, (rfl : [own 56 3 (.slice none 0 0) 0 []] = _)⟩ | exact ⟨zM, 14, none, 0, rfl, .inr (.inl ⟨by rw [ho]; simp only; omega, fun r hr => absurd (hb0.2 ⟨r, by rw [ho] at hr; exact hr⟩) (by simp), rfl, rfl⟩), (rfl : [own 56 3 (.slice none 0 0) 0 []] = _)⟩ | exact ⟨zM, 12, none, 0, rfl, .inr (.inr ⟨r, by rw [ho]; simp only; omega, by rw [ho]; exact hr, .inr ⟨dec_no hH hR hln (fun hh => h3 (hf.2 ⟨hh.1, hh.2.1⟩)), rfl, rfl⟩⟩), (rfl : [own 56 3 (.slice none 0 0) 0 []] = _)⟩ | exact ⟨zM, 12, none, 0, rfl, .inr (.inr ⟨r, by rw [ho]; simp only; omega, by rw [ho]; exact hr, .inr ⟨dec_no hH hR hln (fun hh => h4 (hq.unique hh.2.2)), rfl, rfl⟩⟩), (rfl : [own 56 3 (.slice none 0 0) 0 []] = _)⟩ | (have hok := dec_ok hH hR hln (hf.1 (by omega)); (obtain rfl : e9 = 0 := (by omega)); exact ⟨manOf ⟨v1, k, sr, sz, b, bq, n⟩ l, 0, a, c, rfl, .inr (.inr ⟨r, by rw [ho]; simp only; omega, by rw [ho]; exact hr, .inl ⟨hok.1, ⟨hq, hok.2⟩, rfl⟩⟩), (rfl : [own 56 3 (.slice a (List.length l) c) (List.length l) (encQ l)] = _)⟩))); exact fun w h => h.takes)))))))))))))); rotate_right; (focus (
    intro hc; first | exact absurd hc (by decide) | (cases hc; done) | (refine X.seq ?_ <;> (refine X.text (L := (.op .fin 0 (.op .fin 1 (.op .fin 2 (.op .fin 3 .nil))))) rfl (by kernel_rfl) ?_ <;>
    ((apply XL.det0F rfl rfl rfl rfl; exact D.build rfl)) <;>
    ((apply XL.det0F rfl rfl rfl rfl; exact D.move rfl)) <;>
    (first | refine XL.store1 rfl rfl rfl rfl rfl ?_ | refine XL.storeN rfl rfl rfl rfl rfl rfl ?_ | refine XL.storeP rfl rfl rfl rfl rfl rfl ?_) <;>
    ((apply XL.det0F rfl rfl rfl rfl; exact D.assign rfl)) <;>
    (refine XL.nil ?_)) <;> (first | refine Ex.then ?_ | (refine N.next ?_ <;> ((refine X.ret ?_; (repeat (first | refine Rt.then ?_ | refine Rt.block ?_ | refine Rt.scope ?_)); (first | apply Rt.done (Res.r2 Try.results9 (by first | exact RV.cell rfl rfl | exact RV.cell1 rfl) (RV.tmp rfl)) | apply Rt.doneM (Res.r2 Try.results9 (by first | exact RV.cell rfl rfl | exact RV.cell1 rfl) (RV.tmp rfl))); (focus (first | exact ⟨zM, eo, none, 0, rfl, .inl ⟨by rw [ho]; exact h1, by rw [ho], rfl⟩, (rfl : [own 56 3 (.slice none 0 0) 0 []] = _)⟩ | exact ⟨zM, 14, none, 0, rfl, .inr (.inl ⟨by rw [ho]; simp only; omega, fun r hr => absurd (hb0.2 ⟨r, by rw [ho] at hr; exact hr⟩) (by simp), rfl, rfl⟩), (rfl : [own 56 3 (.slice none 0 0) 0 []] = _)⟩ | exact ⟨zM, 12, none, 0, rfl, .inr (.inr ⟨r, by rw [ho]; simp only; omega, by rw [ho]; exact hr, .inr ⟨dec_no hH hR hln (fun hh => h3 (hf.2 ⟨hh.1, hh.2.1⟩)), rfl, rfl⟩⟩), (rfl : [own 56 3 (.slice none 0 0) 0 []] = _)⟩ | exact ⟨zM, 12, none, 0, rfl, .inr (.inr ⟨r, by rw [ho]; simp only; omega, by rw [ho]; exact hr, .inr ⟨dec_no hH hR hln (fun hh => h4 (hq.unique hh.2.2)), rfl, rfl⟩⟩), (rfl : [own 56 3 (.slice none 0 0) 0 []] = _)⟩ | (have hok := dec_ok hH hR hln (hf.1 (by omega)); (obtain rfl : e9 = 0 := (by omega)); exact ⟨manOf ⟨v1, k, sr, sz, b, bq, n⟩ l, 0, a, c, rfl, .inr (.inr ⟨r, by rw [ho]; simp only; omega, by rw [ho]; exact hr, .inl ⟨hok.1, ⟨hq, hok.2⟩, rfl⟩⟩), (rfl : [own 56 3 (.slice a (List.length l) c) (List.length l) (encQ l)] = _)⟩))); exact fun w h => h.takes)))))))))))) <;> (first | refine N.block ?_ | refine Ex.here ?_ | refine Ex.out rfl ?_)) <;> (first | refine Ex.then ?_ | (refine N.next ?_ <;> (refine X.seq ?_ <;> (refine X.text (L := (.op .fin 0 (.op .fin 1 (.op .fin 2 (.op .fin 3 .nil))))) rfl (by kernel_rfl) ?_ <;>
    ((apply XL.det0F rfl rfl rfl rfl; exact D.move rfl)) <;>
    ((obtain ⟨r, hr⟩ := hb0.1 rfl); have hrl : r.length ≤ 1000000 := (by have := congrArg List.length hr; rw [List.length_append] at this; omega); (apply XL.det0F rfl rfl rfl rfl; exact D.cutL (a := 4) rfl rfl (by rw [hr, List.length_append]; exact Nat.le_add_right 4 _)); rw [show t.drop 4 = r from (by rw [hr]; rfl)]) <;>
    ((refine XL.call rfl rfl rfl rfl (fun w hw => Read_spec w r) ?_; rintro v B' ⟨gi, rfl, rfl⟩; refine XL.both ?_)) <;>
    ((apply XL.det0F rfl rfl rfl rfl; exact D.assign rfl)) <;>
    (refine XL.nil ?_)) <;> (first | refine Ex.then ?_ | (refine N.next ?_ <;> (refine X.seq ?_ <;> (refine X.text (L := (.op .fin 0 (.op .fin 1 (.op .fin 2 (.op .fin 3 (.op .fin 4 (.op .fin 5 (.op .fin 6 (.op .fin 7 (.op .fin 8 (.op .fin 9 (.op .fin 10 .nil)))))))))))) rfl (by kernel_rfl) ?_ <;>
    ((apply XL.det0F rfl rfl rfl rfl; exact D.move rfl)) <;>
    ((refine XL.callF [cells gi [.int .i64 ((0 : Nat)), .int .i64 0, .string ⟨List.toArray r⟩] 106] rfl rfl rfl rfl (fun w F hF hm hw => IText_spec w F gi 0 64 0 r hF (Nat.zero_le _) (by omega) (by decide)) ?_; rintro v B' ⟨v1, p1, e1, rfl, x1, rfl⟩; refine XL.both ?_)) <;>
    ((apply XL.det0F rfl rfl rfl rfl; exact D.move rfl)) <;>
    ((refine XL.callF [cells gi [.int .i64 p1, .int .i64 e1, .string ⟨List.toArray r⟩] 106] rfl rfl rfl rfl (fun w F hF hm hw => IFixed_spec w F gi p1 8 e1 r hF x1.1 (by omega) (by decide)) ?_; rintro v B' ⟨k, p2, e2, rfl, x2, rfl⟩; refine XL.both ?_)) <;>
    ((apply XL.det0F rfl rfl rfl rfl; exact D.move rfl)) <;>
    ((refine XL.callF [cells gi [.int .i64 p2, .int .i64 e2, .string ⟨List.toArray r⟩] 106] rfl rfl rfl rfl (fun w F hF hm hw => IInt_spec w F gi p2 1099511627776 e2 r hF x2.1 (by omega) (by decide)) ?_; rintro v B' ⟨sr, p3, e3, rfl, y3, x3, rfl⟩; refine XL.both ?_)) <;>
    ((apply XL.det0F rfl rfl rfl rfl; exact D.move rfl)) <;>
    ((refine XL.callF [cells gi [.int .i64 p3, .int .i64 e3, .string ⟨List.toArray r⟩] 106] rfl rfl rfl rfl (fun w F hF hm hw => IInt_spec w F gi p3 65536 e3 r hF x3.1 (by omega) (by decide)) ?_; rintro v B' ⟨sz, p4, e4, rfl, y4, x4, rfl⟩; refine XL.both ?_)) <;>
    ((apply XL.det0F rfl rfl rfl rfl; exact D.build rfl)) <;>
    (refine XL.alloc rfl rfl rfl (by intro g; infer_instance) (fun g7 => ?_)) <;>
    (first | refine XL.store1 rfl rfl rfl rfl rfl ?_ | refine XL.storeN rfl rfl rfl rfl rfl rfl ?_ | refine XL.storeP rfl rfl rfl rfl rfl rfl ?_) <;>
    (refine XL.nil ?_)) <;> (first | refine Ex.then ?_ | (refine N.next ?_ <;> (refine X.seq ?_ <;> (refine X.text (L := (.op .fin 0 (.op .fin 1 (.op .fin 2 (.op .fin 3 (.op .fin 4 (.op .fin 5 (.op .fin 6 .nil)))))))) rfl (by kernel_rfl) ?_ <;>
    ((apply XL.det0F rfl rfl rfl rfl; exact D.move rfl)) <;>
    ((refine XL.callF [cells gi [.int .i64 p4, .int .i64 e4, .string ⟨List.toArray r⟩] 106] rfl rfl rfl rfl (fun w F hF hm hw => IText_spec w F gi p4 64 e4 r hF x4.1 (by omega) (by decide)) ?_; rintro v B' ⟨b, p5, e5, rfl, x5, rfl⟩; refine XL.both ?_)) <;>
    ((apply XL.det0F rfl rfl rfl rfl; exact D.move rfl)) <;>
    ((refine XL.callF [cells gi [.int .i64 p5, .int .i64 e5, .string ⟨List.toArray r⟩] 106] rfl rfl rfl rfl (fun w F hF hm hw => IInt_spec w F gi p5 1099511627776 e5 r hF x5.1 (by omega) (by decide)) ?_; rintro v B' ⟨bq, p6, e6, rfl, y6, x6, rfl⟩; refine XL.both ?_)) <;>
    ((apply XL.det0F rfl rfl rfl rfl; exact D.build rfl)) <;>
    ((apply XL.det0F rfl rfl rfl rfl; first | exact D.fieldAddrB0 rfl rfl | exact D.fieldAddrB rfl rfl | exact D.fieldAddrE0 rfl rfl | exact D.fieldAddrE rfl rfl)) <;>
    (first | refine XL.store1 rfl rfl rfl rfl rfl ?_ | refine XL.storeN rfl rfl rfl rfl rfl rfl ?_ | refine XL.storeP rfl rfl rfl rfl rfl rfl ?_) <;>
    (refine XL.nil ?_)) <;> (first | refine Ex.then ?_ | (refine N.next ?_ <;> (refine X.seq ?_ <;> (refine X.seq ?_ <;> (refine X.text (L := (.op .fin 0 (.op .fin 1 (.op .fin 2 .nil)))) rfl (by kernel_rfl) ?_ <;>
    ((apply XL.det0F rfl rfl rfl rfl; exact D.move rfl)) <;>
    ((refine XL.callF [cells gi [.int .i64 p6, .int .i64 e6, .string ⟨List.toArray r⟩] 106] rfl rfl rfl rfl (fun w F hF hm hw => IInt_spec w F gi p6 100 e6 r hF x6.1 (by omega) (by decide)) ?_; rintro v B' ⟨n, p7, e7, rfl, y7, x7, rfl⟩; refine XL.both ?_); have hH := rdgHead x1 x2 x3 x4 x5 x6 x7) <;>
    (obtain ⟨l0, hl0⟩ : ∃ l0 : List Sn3, l0 = [] := (⟨_, rfl⟩); refine XL.mem (B := [cells gi [.int .i64 p7, .int .i64 e7, .string ⟨List.toArray r⟩] 106, cells g7 [.string ⟨List.toArray v1⟩, .int .u64 ((k : Nat) : Int), .int .i64 ((sr : Nat) : Int), .int .i64 ((sz : Nat) : Int), .string ⟨List.toArray b⟩, .int .i64 ((bq : Nat) : Int), .slice none l0.length 0] 29, own 56 3 (.slice none (List.length l0) 0) (List.length l0) (encQ l0), own 56 3 (.slice none 0 0) 0 [], cells g2 [.string ByteArray.empty, .int .u64 0, .int .i64 0, .int .i64 0, .string ByteArray.empty, .int .i64 0, .slice none 0 0] 29]) (fun w h => by subst hl0; exact (h.takes : Conf _ [cells gi [.int .i64 p7, .int .i64 e7, .string ⟨List.toArray r⟩] 106, cells g7 [.string ⟨List.toArray v1⟩, .int .u64 ((k : Nat) : Int), .int .i64 ((sr : Nat) : Int), .int .i64 ((sz : Nat) : Int), .string ⟨List.toArray b⟩, .int .i64 ((bq : Nat) : Int), .slice none 0 0] 29, own 56 3 (.slice none 0 0) 0 [], own 56 3 (.slice none 0 0) 0 [], cells g2 [.string ByteArray.empty, .int .u64 0, .int .i64 0, .int .i64 0, .string ByteArray.empty, .int .i64 0, .slice none 0 0] 29] w)) ?_; (apply XL.det0F (v := .int .i64 ((l0.length : Nat) : Int)) rfl rfl rfl rfl; exact D.move (by rw [hl0]; rfl))) <;>
    (refine XL.nil ?_)) <;> (first | refine Ex.then ?_ | (refine N.next ?_ <;> (refine X.block ?_ <;> ((refine X.loop (ι := DI) (fun y => [(2, .pointer (some ⟨g2, 0, none⟩)), (3, .int .i64 0), (6, .pointer (some ⟨gi, 0, none⟩)), (7, .pointer (some ⟨g7, 0, none⟩)), (42, .int .i64 n), (43, .int .i64 y.l.length)]) (fun y => [cells gi [.int .i64 y.p, .int .i64 y.e, .string ⟨List.toArray r⟩] 106, cells g7 [.string ⟨List.toArray v1⟩, .int .u64 ((k : Nat) : Int), .int .i64 ((sr : Nat) : Int), .int .i64 ((sz : Nat) : Int), .string ⟨List.toArray b⟩, .int .i64 ((bq : Nat) : Int), .slice y.a y.l.length y.c] 29, own 56 3 (.slice y.a (List.length y.l) y.c) (List.length y.l) (encQ y.l), own 56 3 (.slice none 0 0) 0 [], cells g2 [.string ByteArray.empty, .int .u64 0, .int .i64 0, .int .i64 0, .string ByteArray.empty, .int .i64 0, .slice none 0 0] 29]) (fun y => y.l.length ≤ n ∧ Rows snB OkS r p7 e7 y.l y.p y.e) (fun y => n - y.l.length) (⟨p7, e7, none, 0, l0⟩) ?_ ?_ ?_ ?_; (focus (exact ⟨by rw [hl0]; exact Nat.zero_le _, by rw [hl0]; exact Rows.nil x7.1⟩)); (focus (repeat (first | exact Sub.nil | refine Sub.cons rfl ?_))); (focus (exact (fun w h => h.takes))); rintro ⟨p, e, a, c, l⟩ ⟨hl, hR⟩; (dsimp only at *)) <;> (refine X.seq ?_ <;> (refine X.text (L := (.op .fin 0 .nil)) rfl (by kernel_rfl) ?_ <;>
    (refine XL.splitF rfl rfl rfl rfl (D.int rfl rfl rfl) (fun h2 => ?_) (fun h2 => ?_)) <;>
    (refine XL.nil ?_)) <;> (first | refine Ex.then ?_ | (refine N.next ?_ <;> (refine X.seq ?_ <;> ((
    refine X.cond rfl ?_ ?_; rotate_left; (focus (
    intro hc; first | exact absurd hc (by decide) | (cases hc; done) | (refine X.exit ?_))); rotate_right; (focus (
    intro hc; first | exact absurd hc (by decide) | (cases hc; done) | (refine X.skip ?_))))) <;> (first | refine Ex.then ?_ | (refine N.next ?_ <;> (refine X.seq ?_ <;> (refine X.block ?_ <;> (refine X.drawS ([cells g7 [.string ⟨List.toArray v1⟩, .int .u64 ((k : Nat) : Int), .int .i64 ((sr : Nat) : Int), .int .i64 ((sz : Nat) : Int), .string ⟨List.toArray b⟩, .int .i64 ((bq : Nat) : Int), .slice a l.length c] 29, own 56 3 (.slice a (List.length l) c) (List.length l) (encQ l), own 56 3 (.slice none 0 0) 0 [], cells g2 [.string ByteArray.empty, .int .u64 0, .int .i64 0, .int .i64 0, .string ByteArray.empty, .int .i64 0, .slice none 0 0] 29]) (fun w h => h.takes) (.op .v0 0 (.op .v1 1 (.op .v0 2 (.op .v0 4 (.op .v0 6 (.op .ch 3 (.op .ch 5 (.op .ch 7 (.op .v0 8 (.op .ch 9 (.op .fin 10 (.op .v0 11 (.op .fin 12 .nil))))))))))))) mixed (by kernel_rfl) ?_ <;>
    ((apply XL.det0 rfl rfl rfl rfl; first | exact D.fieldAddrB0 rfl rfl | exact D.fieldAddrB rfl rfl | exact D.fieldAddrE0 rfl rfl | exact D.fieldAddrE rfl rfl)) <;>
    ((apply XL.det1 rfl rfl rfl rfl; first | exact D.load1 rfl (fun w h => h.cellAt (Loc.at_) rfl) | exact D.loadN rfl rfl (fun w h j u hu => by rw [at_add, Nat.zero_add]; exact h.cellAt (Loc.at_) hu) | exact D.loadP rfl rfl)) <;>
    ((apply XL.det0 rfl rfl rfl rfl; exact D.move rfl)) <;>
    ((apply XL.det0 rfl rfl rfl rfl; exact D.move rfl)) <;>
    ((apply XL.det0 rfl rfl rfl rfl; exact D.move rfl)) <;>
    (have hRl := hR.le; (refine XL.callF [cells gi [.int .i64 p, .int .i64 e, .string ⟨List.toArray r⟩] 106] rfl rfl rfl rfl (fun w F hF hm hw => IText_spec w F gi p 64 e r hF hRl (by omega) (by decide)) ?_; rintro v B' ⟨xn, q1, f1, rfl, z1, rfl⟩; refine XL.both ?_)) <;>
    ((refine XL.callF [cells gi [.int .i64 q1, .int .i64 f1, .string ⟨List.toArray r⟩] 106] rfl rfl rfl rfl (fun w F hF hm hw => IInt_spec w F gi q1 1099511627776 f1 r hF z1.1 (by omega) (by decide)) ?_; rintro v B' ⟨xq, q2, f2, rfl, w2, z2, rfl⟩; refine XL.both ?_)) <;>
    ((refine XL.callF [cells gi [.int .i64 q2, .int .i64 f2, .string ⟨List.toArray r⟩] 106] rfl rfl rfl rfl (fun w F hF hm hw => IInt_spec w F gi q2 1099511627776 f2 r hF z2.1 (by omega) (by decide)) ?_; rintro v B' ⟨xu, q3, f3, rfl, w3, z3, rfl⟩; refine XL.both ?_); have hx := rdgSn z1 z2 z3) <;>
    ((apply XL.det0 rfl rfl rfl rfl; exact D.build rfl)) <;>
    (refine XL.slice1 rfl rfl rfl rfl rfl rfl (by intro g; infer_instance) (fun g_ => ?_)) <;>
    ((refine XL.append rfl rfl rfl rfl rfl rfl ?_ ?_ (fun a' c' => ?_); (focus (skip; unfold maxLen; omega)); (focus (intro _ _; infer_instance))); rw [show encQ l ++ [.string ⟨List.toArray xn⟩, .int .i64 ((xq : Nat) : Int), .int .i64 ((xu : Nat) : Int)] = encQ (l ++ [⟨xn, xq, xu⟩]) from encQ_snoc l ⟨xn, xq, xu⟩, show l.length + 1 = (l ++ [(⟨xn, xq, xu⟩ : Sn3)]).length from (by rw [List.length_append]; rfl)]) <;>
    ((apply XL.det0 rfl rfl rfl rfl; first | exact D.fieldAddrB0 rfl rfl | exact D.fieldAddrB rfl rfl | exact D.fieldAddrE0 rfl rfl | exact D.fieldAddrE rfl rfl)) <;>
    (first | refine XL.store1 rfl rfl rfl rfl rfl ?_ | refine XL.storeN rfl rfl rfl rfl rfl rfl ?_ | refine XL.storeP rfl rfl rfl rfl rfl rfl ?_) <;>
    (refine XL.nil ?_)) <;> (first | refine N.block ?_ | refine Ex.here ?_ | refine Ex.out rfl ?_)) <;> (first | refine Ex.then ?_ | (refine N.next ?_ <;> (refine X.text (L := (.op .fin 0 (.op .fin 1 .nil))) rfl (by kernel_rfl) ?_ <;>
    ((apply XL.det0F rfl rfl rfl rfl; exact D.add64 rfl rfl (by omega)); rw [show ((l.length : Nat) : Int) + 1 = (((l ++ [(⟨xn, xq, xu⟩ : Sn3)]).length : Nat) : Int) from (by rw [List.length_append]; rfl)]) <;>
    ((apply XL.det0F rfl rfl rfl rfl; exact D.move rfl)) <;>
    (refine XL.nil ?_))))))))))) <;> (first | refine Ex.then ?_ | ((refine N.again (⟨q3, f3, a', c', l ++ [⟨xn, xq, xu⟩]⟩) ?_ ?_ ?_ ?_; (focus (exact ⟨by simp only [List.length_append, List.length_singleton]; omega, hR.snoc hx⟩)); (focus (simp only [List.length_append, List.length_singleton]; omega)); (focus (repeat (first | exact Sub.nil | refine Sub.cons rfl ?_))); exact (fun w h => h.takes))))) <;> (first | refine N.block ?_ | refine Ex.here ?_ | refine Ex.out rfl ?_))))) <;> (first | refine Ex.then ?_ | (refine N.next ?_ <;> (refine X.seq ?_ <;> (refine X.seq ?_ <;> (refine X.text (L := (.op .fin 0 (.op .fin 1 (.op .fin 2 (.op .fin 3 (.op .fin 4 (.op .fin 5 (.op .fin 6 (.op .fin 7 .nil))))))))) rfl (by kernel_rfl) ?_ <;>
    ((apply XL.det0F rfl rfl rfl rfl; exact D.move rfl)) <;>
    (have hln : l.length = n := (by omega); have hRl := hR.le; (refine XL.call rfl rfl rfl rfl (fun w hw => Done_spec w gi p e r (hw.cellAt (Loc.at_) rfl) (hw.cellAt (Loc.at_) rfl) (hw.cellAt (Loc.at_) rfl) hRl (by omega)) ?_; rintro v B' ⟨f, rfl, hf, rfl⟩; refine XL.both ?_)) <;>
    (refine XL.splitF rfl rfl rfl rfl (D.int rfl rfl rfl) (fun h3 => ?_) (fun h3 => ?_)) <;>
    ((apply XL.det0F rfl rfl rfl rfl; exact D.move rfl)) <;>
    (first | refine XL.skipF rfl rfl rfl rfl ?_ | ((apply XL.detF rfl rfl rfl rfl; first | exact D.load1 rfl (fun w h => h.cellAt (Loc.at_) rfl) | exact D.loadN rfl rfl (fun w h j u hu => by rw [at_add, Nat.zero_add]; exact h.cellAt (Loc.at_) hu) | exact D.loadP rfl rfl))) <;>
    (first | refine XL.skipF rfl rfl rfl rfl ?_ | (first | refine XL.skipF rfl rfl rfl rfl ?_ | (refine XL.call rfl rfl rfl rfl (fun w hw => Check_spec (manOf ⟨v1, k, sr, sz, b, bq, n⟩ l) a c w (hw.rd (a := a))) ?_; rintro v B' ⟨e9, rfl, hq, rfl⟩; refine XL.both ?_))) <;>
    (first | refine XL.skipF rfl rfl rfl rfl ?_ | (first | refine XL.skipF rfl rfl rfl rfl ?_ | refine XL.splitF rfl rfl rfl rfl (D.int rfl rfl rfl) (fun h4 => ?_) (fun h4 => ?_))) <;>
    ((apply XL.det0F rfl rfl rfl rfl; first | exact D.pickT rfl rfl | exact D.pickF rfl rfl | exact D.pick rfl rfl rfl)) <;>
    (refine XL.nil ?_)) <;> (first | refine Ex.then ?_ | (refine N.next ?_ <;> ((
    refine X.cond rfl ?_ ?_; rotate_left; (focus (
    intro hc; first | exact absurd hc (by decide) | (cases hc; done) | (refine X.skip ?_))); rotate_right; (focus (
    intro hc; first | exact absurd hc (by decide) | (cases hc; done) | (refine X.seq ?_ <;> (refine X.text (L := (.op .fin 0 (.op .fin 1 (.op .fin 2 .nil)))) rfl (by kernel_rfl) ?_ <;>
    ((apply XL.det0F rfl rfl rfl rfl; exact D.build rfl)) <;>
    (first | refine XL.store1 rfl rfl rfl rfl rfl ?_ | refine XL.storeN rfl rfl rfl rfl rfl rfl ?_ | refine XL.storeP rfl rfl rfl rfl rfl rfl ?_) <;>
    ((apply XL.det0F rfl rfl rfl rfl; exact D.assign rfl)) <;>
    (refine XL.nil ?_)) <;> (first | refine Ex.then ?_ | (refine N.next ?_ <;> ((refine X.ret ?_; (repeat (first | refine Rt.then ?_ | refine Rt.block ?_ | refine Rt.scope ?_)); (first | apply Rt.done (Res.r2 Try.results9 (by first | exact RV.cell rfl rfl | exact RV.cell1 rfl) (RV.tmp rfl)) | apply Rt.doneM (Res.r2 Try.results9 (by first | exact RV.cell rfl rfl | exact RV.cell1 rfl) (RV.tmp rfl))); (focus (first | exact ⟨zM, eo, none, 0, rfl, .inl ⟨by rw [ho]; exact h1, by rw [ho], rfl⟩, (rfl : [own 56 3 (.slice none 0 0) 0 []] = _)⟩ | exact ⟨zM, 14, none, 0, rfl, .inr (.inl ⟨by rw [ho]; simp only; omega, fun r hr => absurd (hb0.2 ⟨r, by rw [ho] at hr; exact hr⟩) (by simp), rfl, rfl⟩), (rfl : [own 56 3 (.slice none 0 0) 0 []] = _)⟩ | exact ⟨zM, 12, none, 0, rfl, .inr (.inr ⟨r, by rw [ho]; simp only; omega, by rw [ho]; exact hr, .inr ⟨dec_no hH hR hln (fun hh => h3 (hf.2 ⟨hh.1, hh.2.1⟩)), rfl, rfl⟩⟩), (rfl : [own 56 3 (.slice none 0 0) 0 []] = _)⟩ | exact ⟨zM, 12, none, 0, rfl, .inr (.inr ⟨r, by rw [ho]; simp only; omega, by rw [ho]; exact hr, .inr ⟨dec_no hH hR hln (fun hh => h4 (hq.unique hh.2.2)), rfl, rfl⟩⟩), (rfl : [own 56 3 (.slice none 0 0) 0 []] = _)⟩ | (have hok := dec_ok hH hR hln (hf.1 (by omega)); (obtain rfl : e9 = 0 := (by omega)); exact ⟨manOf ⟨v1, k, sr, sz, b, bq, n⟩ l, 0, a, c, rfl, .inr (.inr ⟨r, by rw [ho]; simp only; omega, by rw [ho]; exact hr, .inl ⟨hok.1, ⟨hq, hok.2⟩, rfl⟩⟩), (rfl : [own 56 3 (.slice a (List.length l) c) (List.length l) (encQ l)] = _)⟩))); exact fun w h => h.takes)))))))))))) <;> (first | refine Ex.then ?_ | (refine N.next ?_ <;> (refine X.seq ?_ <;> (refine X.text (L := (.op .fin 0 (.op .fin 1 (.op .fin 2 .nil)))) rfl (by kernel_rfl) ?_ <;>
    ((apply XL.detF rfl rfl rfl rfl; first | exact D.load1 rfl (fun w h => h.cellAt (Loc.at_) rfl) | exact D.loadN rfl rfl (fun w h j u hu => by rw [at_add, Nat.zero_add]; exact h.cellAt (Loc.at_) hu) | exact D.loadP rfl rfl)) <;>
    (first | refine XL.store1 rfl rfl rfl rfl rfl ?_ | refine XL.storeN rfl rfl rfl rfl rfl rfl ?_ | refine XL.storeP rfl rfl rfl rfl rfl rfl ?_) <;>
    ((apply XL.det0F rfl rfl rfl rfl; exact D.assign rfl)) <;>
    (refine XL.nil ?_)) <;> (first | refine Ex.then ?_ | (refine N.next ?_ <;> ((refine X.ret ?_; (repeat (first | refine Rt.then ?_ | refine Rt.block ?_ | refine Rt.scope ?_)); (first | apply Rt.done (Res.r2 Try.results9 (by first | exact RV.cell rfl rfl | exact RV.cell1 rfl) (RV.tmp rfl)) | apply Rt.doneM (Res.r2 Try.results9 (by first | exact RV.cell rfl rfl | exact RV.cell1 rfl) (RV.tmp rfl))); (focus (first | exact ⟨zM, eo, none, 0, rfl, .inl ⟨by rw [ho]; exact h1, by rw [ho], rfl⟩, (rfl : [own 56 3 (.slice none 0 0) 0 []] = _)⟩ | exact ⟨zM, 14, none, 0, rfl, .inr (.inl ⟨by rw [ho]; simp only; omega, fun r hr => absurd (hb0.2 ⟨r, by rw [ho] at hr; exact hr⟩) (by simp), rfl, rfl⟩), (rfl : [own 56 3 (.slice none 0 0) 0 []] = _)⟩ | exact ⟨zM, 12, none, 0, rfl, .inr (.inr ⟨r, by rw [ho]; simp only; omega, by rw [ho]; exact hr, .inr ⟨dec_no hH hR hln (fun hh => h3 (hf.2 ⟨hh.1, hh.2.1⟩)), rfl, rfl⟩⟩), (rfl : [own 56 3 (.slice none 0 0) 0 []] = _)⟩ | exact ⟨zM, 12, none, 0, rfl, .inr (.inr ⟨r, by rw [ho]; simp only; omega, by rw [ho]; exact hr, .inr ⟨dec_no hH hR hln (fun hh => h4 (hq.unique hh.2.2)), rfl, rfl⟩⟩), (rfl : [own 56 3 (.slice none 0 0) 0 []] = _)⟩ | (have hok := dec_ok hH hR hln (hf.1 (by omega)); (obtain rfl : e9 = 0 := (by omega)); exact ⟨manOf ⟨v1, k, sr, sz, b, bq, n⟩ l, 0, a, c, rfl, .inr (.inr ⟨r, by rw [ho]; simp only; omega, by rw [ho]; exact hr, .inl ⟨hok.1, ⟨hq, hok.2⟩, rfl⟩⟩), (rfl : [own 56 3 (.slice a (List.length l) c) (List.length l) (encQ l)] = _)⟩))); exact fun w h => h.takes)))))))))))))))))))))))))))))
end Go.Lx
