/- The document's check sums. -/
import Derived.Test.YtkjhepgohacmiaaGreatCb
namespace Go.Lx
open Go.Proofs
set_option linter.unusedVariables false
set_option linter.unusedSimpArgs false
set_option maxRecDepth 20000
set_option maxHeartbeats 4000000

theorem refMore_spec (w : World) (s : Bs) (x : Nat) (hx : x < 4294967296) (hs : s.length ≤ 1000000000) : Spec Tryz.prog 37 #[.int .u32 x, .string ⟨List.toArray s⟩] w (fun _ => False) (fun v A => v = .int .u32 ((4294967295 - cmore (4294967295 - x) s : Nat) : Int) ∧ A = []) := by
  have h0 : 4294967295 - x < 4294967296 := by omega
  refine Spec.enter (args := [.int .u32 x, .string ⟨List.toArray s⟩]) (A := []) Tryz.func37 rfl Tryz.ntmps37 rfl (fun _ h => h) ?_
  (refine X.seq ?_ <;> (refine X.text (L := (.op .fin 0 .nil)) rfl (by kernel_rfl) ?_ <;>
    ((apply XL.det0F rfl rfl rfl rfl; exact D.assign rfl)) <;>
    (refine XL.nil ?_)) <;> (first | refine Ex.then ?_ | (refine N.next ?_ <;> (refine X.seq ?_ <;> (refine X.text (L := (.op .fin 0 (.op .fin 1 (.op .fin 2 .nil)))) rfl (by kernel_rfl) ?_ <;>
    ((apply XL.det0F rfl rfl rfl rfl; exact D.move rfl)) <;>
    ((apply XL.det0F rfl rfl rfl rfl; exact D.subN (a := 4294967295) rfl rfl rfl ⟨by omega, by decide⟩); rw [show 4294967295 - x = cmore (4294967295 - x) (s.take 0) from rfl]) <;>
    ((apply XL.det0F rfl rfl rfl rfl; exact D.assign rfl)) <;>
    (refine XL.nil ?_)) <;> (first | refine Ex.then ?_ | (refine N.next ?_ <;> (refine X.seq ?_ <;> (refine X.seq ?_ <;> (refine X.text (L := (.op .fin 0 .nil)) rfl (by kernel_rfl) ?_ <;>
    ((apply XL.det0F rfl rfl rfl rfl; exact D.assign rfl)) <;>
    (refine XL.nil ?_)) <;> (first | refine Ex.then ?_ | (refine N.next ?_ <;> (refine X.block ?_ <;> ((refine X.loop (ι := Nat) (fun i => [(1, .string ⟨List.toArray s⟩), (5, .int .u32 ((cmore (4294967295 - x) (s.take i) : Nat) : Int)), (6, .int .i64 i)]) (fun _ => []) (fun i => i ≤ s.length) (fun i => s.length - i) (0) ?_ ?_ ?_ ?_; (focus (exact Nat.zero_le _)); (focus (repeat (first | exact Sub.nil | refine Sub.cons rfl ?_))); (focus (exact (fun w h => h.takes))); rintro i hi; (dsimp only at *)) <;> (refine X.seq ?_ <;> (refine X.seq ?_ <;> (refine X.text (L := (.op .fin 0 (.op .fin 1 (.op .fin 2 (.op .fin 3 .nil))))) rfl (by kernel_rfl) ?_ <;>
    ((apply XL.det0F rfl rfl rfl rfl; exact D.move rfl)) <;>
    ((apply XL.det0F rfl rfl rfl rfl; exact D.move rfl)) <;>
    ((apply XL.det0F rfl rfl rfl rfl; first | exact D.len rfl | exact D.lenL rfl | exact D.lenS rfl)) <;>
    (first | refine XL.splitF rfl rfl rfl rfl (D.int rfl rfl rfl) (fun h1 => ?_) (fun h1 => ?_)) <;>
    (refine XL.nil ?_)) <;> (first | refine Ex.then ?_ | (refine N.next ?_ <;> ((
    refine X.cond rfl ?_ ?_; rotate_left; (focus (
    intro hc; first | exact absurd hc (by decide) | (cases hc; done) | (refine X.exit ?_))); rotate_right; (focus (
    intro hc; first | exact absurd hc (by decide) | (cases hc; done) | (refine X.skip ?_)))))))) <;> (first | refine Ex.then ?_ | (refine N.next ?_ <;> (refine X.seq ?_ <;> (refine X.block ?_ <;> (refine X.seq ?_ <;> (refine X.text (L := (.op .fin 0 (.op .fin 1 (.op .fin 2 (.op .fin 3 (.op .fin 4 (.op .fin 5 (.op .fin 6 .nil)))))))) rfl (by kernel_rfl) ?_ <;>
    ((apply XL.det0F rfl rfl rfl rfl; exact D.move rfl)) <;>
    ((apply XL.det0F rfl rfl rfl rfl; exact D.move rfl)) <;>
    ((apply XL.det0F rfl rfl rfl rfl; exact D.move rfl)) <;>
    (have hil : i < s.length := (by omega); obtain ⟨b, hb⟩ : ∃ b, s[i]? = some b := (⟨s[i], List.getElem?_eq_getElem hil⟩); have hbl := byte_lt b; have hcl := cmore_lt (s.take i) h0; have hxl := xorb_lt hcl b; (apply XL.det0F rfl rfl rfl rfl; exact D.idx i rfl rfl rfl hb)) <;>
    ((apply XL.det0F rfl rfl rfl rfl; exact D.convN rfl rfl); rw [show b.toNat % 2 ^ IntKind.u32.bits = b.toNat from Nat.mod_eq_of_lt (Nat.lt_of_lt_of_le hbl (by decide))]) <;>
    ((apply XL.det0F rfl rfl rfl rfl; exact D.xorN rfl rfl rfl ⟨hcl, Nat.lt_of_lt_of_le hbl (by decide)⟩)) <;>
    ((apply XL.det0F rfl rfl rfl rfl; exact D.assign rfl)) <;>
    (refine XL.nil ?_)) <;> (first | refine Ex.then ?_ | (refine N.next ?_ <;> (refine X.seq ?_ <;> (refine X.text (L := (.op .fin 0 .nil)) rfl (by kernel_rfl) ?_ <;>
    ((apply XL.det0F rfl rfl rfl rfl; exact D.assign rfl)) <;>
    (refine XL.nil ?_)) <;> (first | refine Ex.then ?_ | (refine N.next ?_ <;> (refine X.block ?_ <;> ((refine X.loop (ι := Nat × Bool) (fun y => [(1, .string ⟨List.toArray s⟩), (5, .int .u32 ((cit (cmore (4294967295 - x) (s.take i) ^^^ b.toNat) y.1 : Nat) : Int)), (6, .int .i64 i), (7, .int .i64 y.1)]) (fun _ => []) (fun y => y.1 ≤ 8) (fun y => 8 - y.1) ((0, false)) ?_ ?_ ?_ ?_; (focus (exact Nat.zero_le _)); (focus (repeat (first | exact Sub.nil | refine Sub.cons rfl ?_))); (focus (exact (fun w h => h.takes))); rintro ⟨k, bo⟩ hk; (dsimp only at *)) <;> (refine X.seq ?_ <;> (refine X.seq ?_ <;> (refine X.text (L := (.op .fin 0 (.op .fin 1 .nil))) rfl (by kernel_rfl) ?_ <;>
    ((apply XL.det0F rfl rfl rfl rfl; exact D.move rfl)) <;>
    (first | refine XL.splitF rfl rfl rfl rfl (D.int rfl rfl rfl) (fun h2 => ?_) (fun h2 => ?_)) <;>
    (refine XL.nil ?_)) <;> (first | refine Ex.then ?_ | (refine N.next ?_ <;> ((
    refine X.cond rfl ?_ ?_; rotate_left; (focus (
    intro hc; first | exact absurd hc (by decide) | (cases hc; done) | (refine X.exit ?_))); rotate_right; (focus (
    intro hc; first | exact absurd hc (by decide) | (cases hc; done) | (refine X.skip ?_)))))))) <;> (first | refine Ex.then ?_ | (refine N.next ?_ <;> (refine X.seq ?_ <;> (refine X.block ?_ <;> (refine X.seq ?_ <;> (refine X.text (L := (.op .fin 0 (.op .fin 1 (.op .fin 2 (.op .fin 3 .nil))))) rfl (by kernel_rfl) ?_ <;>
    ((apply XL.det0F rfl rfl rfl rfl; exact D.move rfl)) <;>
    (have hkl := cit_lt hxl k; (apply XL.det0F rfl rfl rfl rfl; exact D.remN (b := 2) rfl rfl (by decide))) <;>
    (refine XL.splitF rfl rfl rfl rfl (D.int rfl rfl rfl) (fun h3 => ?_) (fun h3 => ?_)) <;>
    ((apply XL.det0F rfl rfl rfl rfl; exact D.assign rfl)) <;>
    (refine XL.nil ?_)) <;> (first | refine Ex.then ?_ | (refine N.next ?_ <;> (refine X.seq ?_ <;> (refine X.text (L := (.op .fin 0 (.op .fin 1 (.op .fin 2 .nil)))) rfl (by kernel_rfl) ?_ <;>
    ((apply XL.det0F rfl rfl rfl rfl; exact D.move rfl)) <;>
    ((apply XL.det0F rfl rfl rfl rfl; exact D.quoN (b := 2) rfl rfl rfl ⟨by decide, hkl⟩)) <;>
    ((apply XL.det0F rfl rfl rfl rfl; exact D.assign rfl)) <;>
    (refine XL.nil ?_)) <;> (first | refine Ex.then ?_ | (refine N.next ?_ <;> (refine X.seq ?_ <;> (refine X.text (L := (.op .fin 0 .nil)) rfl (by kernel_rfl) ?_ <;>
    ((apply XL.det0F rfl rfl rfl rfl; exact D.move rfl)) <;>
    (refine XL.nil ?_)) <;> (first | refine Ex.then ?_ | (refine N.next ?_ <;> ((
    refine X.cond rfl ?_ ?_; rotate_left; (focus (
    intro hc; first | exact absurd hc (by decide) | (cases hc; done) | (refine X.skip ?_))); rotate_right; (focus (
    intro hc; first | exact absurd hc (by decide) | (cases hc; done) | (refine X.text (L := (.op .fin 0 (.op .fin 1 (.op .fin 2 .nil)))) rfl (by kernel_rfl) ?_ <;>
    ((apply XL.det0F rfl rfl rfl rfl; exact D.move rfl)) <;>
    ((apply XL.det0F rfl rfl rfl rfl; exact D.xorN (b := 2197175160) rfl rfl rfl ⟨show _ / 2 < 4294967296 by omega, by decide⟩); rw [show cit (cmore (4294967295 - x) (s.take i) ^^^ b.toNat) k / 2 ^^^ 2197175160 = cit (cmore (4294967295 - x) (s.take i) ^^^ b.toNat) (k + 1) from (by rw [cit, cstep, if_pos (by omega)])]) <;>
    ((apply XL.det0F rfl rfl rfl rfl; exact D.assign rfl)) <;>
    (refine XL.nil ?_))))))))))))))) <;> (first | refine N.block ?_ | refine Ex.here ?_ | refine Ex.out rfl ?_)) <;> (first | refine Ex.then ?_ | (refine N.next ?_ <;> (refine X.text (L := (.op .fin 0 (.op .fin 1 (.op .fin 2 .nil)))) rfl (by kernel_rfl) ?_ <;>
    ((first | (have hq : ¬ ((cit (cmore (4294967295 - x) (s.take i) ^^^ b.toNat) k % 2 : Nat) : Int) = 1 := h3; rw [show cit (cmore (4294967295 - x) (s.take i) ^^^ b.toNat) k / 2 = cit (cmore (4294967295 - x) (s.take i) ^^^ b.toNat) (k + 1) from (by rw [cit, cstep, if_neg (by omega)])]) | (have hq := h3)); (apply XL.det0F rfl rfl rfl rfl; exact D.move rfl)) <;>
    ((apply XL.det0F rfl rfl rfl rfl; first | exact D.add64 rfl rfl (by omega) | exact D.int rfl rfl rfl)) <;>
    ((apply XL.det0F rfl rfl rfl rfl; exact D.assign rfl)) <;>
    (refine XL.nil ?_)))))))) <;> (first | refine Ex.then ?_ | ((refine N.again ((k + 1, false)) ?_ ?_ ?_ ?_; (focus (dsimp only; omega)); (focus (first | omega | (dsimp only; omega))); (focus (repeat (first | exact Sub.nil | refine Sub.cons rfl ?_))); exact (fun w h => h.takes))))) <;> (first | refine N.block ?_ | refine Ex.here ?_ | refine Ex.out rfl ?_)))))))) <;> (first | refine N.block ?_ | refine Ex.here ?_ | refine Ex.out rfl ?_)) <;> (first | refine Ex.then ?_ | (refine N.next ?_ <;> (refine X.text (L := (.op .fin 0 (.op .fin 1 (.op .fin 2 .nil)))) rfl (by kernel_rfl) ?_ <;>
    (obtain rfl : k = 8 := (by omega); rw [show cit (cmore (4294967295 - x) (s.take i) ^^^ b.toNat) 8 = cmore (4294967295 - x) (s.take (i + 1)) from (by rw [List.take_add_one, hb, cmore_append]; rfl)]; (apply XL.det0F rfl rfl rfl rfl; exact D.move rfl)) <;>
    ((apply XL.det0F rfl rfl rfl rfl; first | exact D.add64 rfl rfl (by omega) | exact D.int rfl rfl rfl)) <;>
    ((apply XL.det0F rfl rfl rfl rfl; exact D.assign rfl)) <;>
    (refine XL.nil ?_)))))))) <;> (first | refine Ex.then ?_ | ((refine N.again ((i + 1)) ?_ ?_ ?_ ?_; (focus (omega)); (focus (first | omega | (dsimp only; omega))); (focus (repeat (first | exact Sub.nil | refine Sub.cons rfl ?_))); exact (fun w h => h.takes))))) <;> (first | refine N.block ?_ | refine Ex.here ?_ | refine Ex.out rfl ?_))))) <;> (first | refine Ex.then ?_ | (refine N.next ?_ <;> (refine X.seq ?_ <;> (refine X.text (L := (.op .fin 0 (.op .fin 1 (.op .fin 2 .nil)))) rfl (by kernel_rfl) ?_ <;>
    (have hje : s.take i = s := (List.take_of_length_le (by omega)); rw [hje]; (apply XL.det0F rfl rfl rfl rfl; exact D.move rfl)) <;>
    ((apply XL.det0F rfl rfl rfl rfl; exact D.subN (a := 4294967295) rfl rfl rfl ⟨by have := cmore_lt s h0; omega, by decide⟩)) <;>
    ((apply XL.det0F rfl rfl rfl rfl; exact D.assign rfl)) <;>
    (refine XL.nil ?_)) <;> (first | refine Ex.then ?_ | (refine N.next ?_ <;> ((refine X.ret ?_; (repeat (first | refine Rt.then ?_ | refine Rt.block ?_ | refine Rt.scope ?_)); (first | apply Rt.done (Res.r1 Tryz.results37 (RV.tmp rfl)) | apply Rt.doneM (Res.r1 Tryz.results37 (RV.tmp rfl))); (focus (exact ⟨rfl, rfl⟩)); exact fun w h => h.takes))))))))))))))
theorem four_take (x i : Nat) (h : i < 4) : (four x).take (i + 1) = (four x).take i ++ [UInt8.ofNat (x / 256 ^ i)] := by
  rcases i with _ | _ | _ | _ | i
  · simp [four]
  · simp [four]
  · simp [four]
  · simp [four]
  · omega
theorem refFour_spec (w : World) (x : Nat) (hx : x < 4294967296) : Spec Tryz.prog 71 #[.int .u32 x] w (fun _ => False) (fun v A => v = .string ⟨List.toArray (four x)⟩ ∧ A = []) := by
  refine Spec.enter (args := [.int .u32 x]) (A := []) Tryz.func71 rfl Tryz.ntmps71 rfl (fun _ h => h) ?_
  (refine X.seq ?_ <;> (refine X.text (L := (.op .fin 0 .nil)) rfl (by kernel_rfl) ?_ <;>
    ((apply XL.det0F rfl rfl rfl rfl; exact D.assign rfl)) <;>
    (refine XL.nil ?_)) <;> (first | refine Ex.then ?_ | (refine N.next ?_ <;> (refine X.seq ?_ <;> (refine X.text (L := (.op .fin 0 .nil)) rfl (by kernel_rfl) ?_ <;>
    (refine XL.mem (B := [own 5 1 (.slice none 0 0) 0 (encY [])]) (fun w h => h.nilOwn 5 1) ?_; (apply XL.det0F rfl rfl rfl rfl; exact D.assign rfl); rw [show (Value.int IntKind.u32 (x : Int)) = .int .u32 ((x / 256 ^ 0 : Nat) : Int) from (by simp)]) <;>
    (refine XL.nil ?_)) <;> (first | refine Ex.then ?_ | (refine N.next ?_ <;> (refine X.seq ?_ <;> (refine X.seq ?_ <;> (refine X.text (L := (.op .fin 0 .nil)) rfl (by kernel_rfl) ?_ <;>
    ((apply XL.det0F rfl rfl rfl rfl; exact D.assign rfl)) <;>
    (refine XL.nil ?_)) <;> (first | refine Ex.then ?_ | (refine N.next ?_ <;> (refine X.block ?_ <;> ((refine X.loop (ι := Nat × Option Addr × Nat × Bs) (fun y => [(0, .int .u32 ((x / 256 ^ y.1 : Nat) : Int)), (3, .slice y.2.1 y.2.2.2.length y.2.2.1), (4, .int .i64 y.1)]) (fun y => [own 5 1 (.slice y.2.1 y.2.2.2.length y.2.2.1) y.2.2.2.length (encY y.2.2.2)]) (fun y => y.1 ≤ 4 ∧ y.2.2.2 = (four x).take y.1) (fun y => 4 - y.1) ((0, none, 0, [])) ?_ ?_ ?_ ?_; (focus (exact ⟨Nat.zero_le _, rfl⟩)); (focus (repeat (first | exact Sub.nil | refine Sub.cons rfl ?_))); (focus (exact (fun w h => h.takes))); rintro ⟨i, a', c', o⟩ ⟨hi, ho⟩; (dsimp only at *)) <;> (refine X.seq ?_ <;> (refine X.seq ?_ <;> (refine X.text (L := (.op .fin 0 (.op .fin 1 .nil))) rfl (by kernel_rfl) ?_ <;>
    ((apply XL.det0F rfl rfl rfl rfl; exact D.move rfl)) <;>
    (first | refine XL.splitF rfl rfl rfl rfl (D.int rfl rfl rfl) (fun h1 => ?_) (fun h1 => ?_)) <;>
    (refine XL.nil ?_)) <;> (first | refine Ex.then ?_ | (refine N.next ?_ <;> ((
    refine X.cond rfl ?_ ?_; rotate_left; (focus (
    intro hc; first | exact absurd hc (by decide) | (cases hc; done) | (refine X.exit ?_))); rotate_right; (focus (
    intro hc; first | exact absurd hc (by decide) | (cases hc; done) | (refine X.skip ?_)))))))) <;> (first | refine Ex.then ?_ | (refine N.next ?_ <;> (refine X.seq ?_ <;> (refine X.block ?_ <;> (refine X.seq ?_ <;> (refine X.text (L := (.op .fin 0 (.op .fin 1 (.op .fin 2 (.op .fin 3 (.op .fin 4 (.op .fin 5 (.op .fin 6 .nil)))))))) rfl (by kernel_rfl) ?_ <;>
    ((apply XL.det0F rfl rfl rfl rfl; exact D.move rfl)) <;>
    ((apply XL.det0F rfl rfl rfl rfl; exact D.move rfl)) <;>
    (have hol : o.length ≤ 4 := (by rw [ho, List.length_take]; omega); have hxi : x / 256 ^ i < 4294967296 := (Nat.lt_of_le_of_lt (Nat.div_le_self _ _) hx); (apply XL.det0F rfl rfl rfl rfl; exact D.remN (b := 256) rfl rfl (by decide))) <;>
    ((apply XL.det0F rfl rfl rfl rfl; exact D.convN rfl rfl); rw [show ((x / 256 ^ i % 256 % 2 ^ IntKind.u8.bits : Nat) : Int) = ((UInt8.ofNat (x / 256 ^ i)).toNat : Int) from (by have : x / 256 ^ i % 256 % 2 ^ IntKind.u8.bits = x / 256 ^ i % 256 := Nat.mod_eq_of_lt (Nat.mod_lt _ (by decide)); rw [this]; rfl)]) <;>
    (refine XL.slice1 rfl rfl rfl rfl rfl rfl (by intro g; infer_instance) (fun g_ => ?_)) <;>
    ((refine XL.append rfl rfl rfl rfl rfl rfl ?_ ?_ (fun a' c' => ?_); (focus (skip; unfold maxLen; omega)); (focus (intro _ _; infer_instance))); rw [encY_snoc o, show o.length + 1 = (o ++ [UInt8.ofNat (x / 256 ^ i)]).length from (by simp)]) <;>
    ((apply XL.det0F rfl rfl rfl rfl; exact D.assign rfl)) <;>
    (refine XL.nil ?_)) <;> (first | refine Ex.then ?_ | (refine N.next ?_ <;> (refine X.text (L := (.op .fin 0 (.op .fin 1 (.op .fin 2 .nil)))) rfl (by kernel_rfl) ?_ <;>
    ((apply XL.det0F rfl rfl rfl rfl; exact D.move rfl)) <;>
    ((apply XL.det0F rfl rfl rfl rfl; exact D.quoN (b := 256) rfl rfl rfl ⟨by decide, hxi⟩); rw [show x / 256 ^ i / 256 = x / 256 ^ (i + 1) from (by rw [Nat.pow_succ, Nat.div_div_eq_div_mul])]) <;>
    ((apply XL.det0F rfl rfl rfl rfl; exact D.assign rfl)) <;>
    (refine XL.nil ?_))))) <;> (first | refine N.block ?_ | refine Ex.here ?_ | refine Ex.out rfl ?_)) <;> (first | refine Ex.then ?_ | (refine N.next ?_ <;> (refine X.text (L := (.op .fin 0 (.op .fin 1 (.op .fin 2 .nil)))) rfl (by kernel_rfl) ?_ <;>
    ((apply XL.det0F rfl rfl rfl rfl; exact D.move rfl)) <;>
    ((apply XL.det0F rfl rfl rfl rfl; first | exact D.add64 rfl rfl (by omega) | exact D.int rfl rfl rfl)) <;>
    ((apply XL.det0F rfl rfl rfl rfl; exact D.assign rfl)) <;>
    (refine XL.nil ?_)))))))) <;> (first | refine Ex.then ?_ | ((refine N.again ((i + 1, a', c', o ++ [UInt8.ofNat (x / 256 ^ i)])) ?_ ?_ ?_ ?_; (focus (exact ⟨by dsimp only; omega, by dsimp only; rw [four_take x i (by omega), ho]⟩)); (focus (first | omega | (dsimp only; omega))); (focus (repeat (first | exact Sub.nil | refine Sub.cons rfl ?_))); exact (fun w h => h.takes))))) <;> (first | refine N.block ?_ | refine Ex.here ?_ | refine Ex.out rfl ?_))))) <;> (first | refine Ex.then ?_ | (refine N.next ?_ <;> (refine X.seq ?_ <;> (refine X.text (L := (.op .fin 0 (.op .fin 1 (.op .fin 2 .nil)))) rfl (by kernel_rfl) ?_ <;>
    (have ho4 : o = four x := (by rw [ho]; exact List.take_of_length_le (by rw [four_len]; omega)); (apply XL.det0F rfl rfl rfl rfl; exact D.move rfl)) <;>
    ((apply XL.detF rfl rfl rfl rfl; exact D.toStr (four x) rfl (by rw [ho4]) (fun w hw => by have := hw.rd (a := a'); rw [ho4] at this ⊢; exact this))) <;>
    ((apply XL.det0F rfl rfl rfl rfl; exact D.assign rfl)) <;>
    (refine XL.nil ?_)) <;> (first | refine Ex.then ?_ | (refine N.next ?_ <;> ((refine X.ret ?_; (repeat (first | refine Rt.then ?_ | refine Rt.block ?_ | refine Rt.scope ?_)); (first | apply Rt.done (Res.r1 Tryz.results71 (RV.tmp rfl)) | apply Rt.doneM (Res.r1 Tryz.results71 (RV.tmp rfl))); (focus (exact ⟨rfl, rfl⟩)); exact fun w h => h.takes))))))))))))))
theorem refOpen_spec (w : World) (s : Bs) (hs : s.length ≤ 1000000000) : Spec Tryz.prog 34 #[.string ⟨List.toArray s⟩] w (fun _ => False) (fun v A => v = .tuple #[.string ⟨List.toArray ((openS s).1)⟩, .int .i64 (openS s).2] ∧ A = []) := by
  refine Spec.enter (args := [.string ⟨List.toArray s⟩]) (A := []) Tryz.func34 rfl Tryz.ntmps34 rfl (fun _ h => h) ?_
  (refine X.seq ?_ <;> (refine X.text (L := (.op .fin 0 (.op .fin 1 .nil))) rfl (by kernel_rfl) ?_ <;>
    ((apply XL.det0F rfl rfl rfl rfl; exact D.assign rfl)) <;>
    ((apply XL.det0F rfl rfl rfl rfl; exact D.assign rfl)) <;>
    (refine XL.nil ?_)) <;> (first | refine Ex.then ?_ | (refine N.next ?_ <;> (refine X.seq ?_ <;> (refine X.text (L := (.op .fin 0 (.op .fin 1 (.op .fin 2 (.op .fin 3 .nil))))) rfl (by kernel_rfl) ?_ <;>
    ((apply XL.det0F rfl rfl rfl rfl; exact D.move rfl)) <;>
    ((apply XL.det0F rfl rfl rfl rfl; first | exact D.len rfl | exact D.lenL rfl | exact D.lenS rfl)) <;>
    ((apply XL.det0F rfl rfl rfl rfl; first | exact D.sub64 rfl rfl (by omega) | exact D.int rfl rfl rfl)) <;>
    ((apply XL.det0F rfl rfl rfl rfl; exact D.assign rfl)) <;>
    (refine XL.nil ?_)) <;> (first | refine Ex.then ?_ | (refine N.next ?_ <;> (refine X.seq ?_ <;> (refine X.seq ?_ <;> (refine X.text (L := (.op .fin 0 (.op .fin 1 .nil))) rfl (by kernel_rfl) ?_ <;>
    ((apply XL.det0F rfl rfl rfl rfl; exact D.move rfl)) <;>
    (first | refine XL.splitF rfl rfl rfl rfl (D.int rfl rfl rfl) (fun h0 => ?_) (fun h0 => ?_)) <;>
    (refine XL.nil ?_)) <;> (first | refine Ex.then ?_ | (refine N.next ?_ <;> ((
    refine X.cond rfl ?_ ?_; rotate_left; (focus (
    intro hc; first | exact absurd hc (by decide) | (cases hc; done) | (refine X.skip ?_))); rotate_right; (focus (
    intro hc; first | exact absurd hc (by decide) | (cases hc; done) | (refine X.seq ?_ <;> (refine X.text (L := (.op .fin 0 (.op .fin 1 .nil))) rfl (by kernel_rfl) ?_ <;>
    ((apply XL.det0F rfl rfl rfl rfl; exact D.assign rfl)) <;>
    ((apply XL.det0F rfl rfl rfl rfl; exact D.assign rfl)) <;>
    (refine XL.nil ?_)) <;> (first | refine Ex.then ?_ | (refine N.next ?_ <;> ((refine X.ret ?_; (repeat (first | refine Rt.then ?_ | refine Rt.block ?_ | refine Rt.scope ?_)); (first | apply Rt.done (Res.r2 Tryz.results34 (RV.tmp rfl) (RV.tmp rfl)) | apply Rt.doneM (Res.r2 Tryz.results34 (RV.tmp rfl) (RV.tmp rfl))); (focus (refine ⟨?_, rfl⟩; first | (rw [show openS s = ([], 10) from (by unfold openS; rw [if_pos (by omega)])]; done) | (rw [show openS s = ([], 13) from (by unfold openS; rw [if_neg (by omega)]; exact if_pos h1)]; done) | (rw [show openS s = (s.take (s.length - 4), 0) from (by unfold openS; rw [if_neg (by omega)]; exact if_neg h1)]))); exact fun w h => h.takes)))))))))))) <;> (first | refine Ex.then ?_ | (refine N.next ?_ <;> (refine X.seq ?_ <;> (refine X.seq ?_ <;> (refine X.draw (.op .v0 0 (.op .v0 1 (.op .v0 2 (.op .v0 5 (.op .v0 6 (.op .v0 7 (.op .ch 3 (.op .ch 4 (.op .v0 8 .nil))))))))) mixed (by kernel_rfl) ?_ <;>
    ((apply XL.det0 rfl rfl rfl rfl; exact D.move rfl)) <;>
    ((apply XL.det0 rfl rfl rfl rfl; exact D.move rfl); rw [show (s.length : Int) - 4 = ((s.length - 4 : Nat) : Int) from (by omega)]) <;>
    ((apply XL.det0 rfl rfl rfl rfl; exact D.cutH (h := s.length - 4) rfl rfl (by omega))) <;>
    ((apply XL.det0 rfl rfl rfl rfl; exact D.move rfl)) <;>
    ((apply XL.det0 rfl rfl rfl rfl; exact D.move rfl)) <;>
    ((apply XL.det0 rfl rfl rfl rfl; exact D.cutL (a := s.length - 4) rfl rfl (by omega))) <;>
    ((refine XL.call rfl rfl rfl rfl (fun w hw => refMore_spec w (s.take (s.length - 4)) 0 (by decide) (by rw [List.length_take]; omega)) ?_; rintro v B' ⟨rfl, rfl⟩; refine XL.both ?_)) <;>
    ((refine XL.call rfl rfl rfl rfl (fun w hw => refFour_spec w _ (crc_lt (s.take (s.length - 4)))) ?_; rintro v B' ⟨rfl, rfl⟩; refine XL.both ?_)) <;>
    (refine XL.split0 rfl rfl rfl rfl (D.strNe rfl rfl) (fun h1 => ?_) (fun h1 => ?_)) <;>
    (refine XL.nil ?_)) <;> (first | refine Ex.then ?_ | (refine N.next ?_ <;> ((
    refine X.cond rfl ?_ ?_; rotate_left; (focus (
    intro hc; first | exact absurd hc (by decide) | (cases hc; done) | (refine X.skip ?_))); rotate_right; (focus (
    intro hc; first | exact absurd hc (by decide) | (cases hc; done) | (refine X.seq ?_ <;> (refine X.text (L := (.op .fin 0 (.op .fin 1 .nil))) rfl (by kernel_rfl) ?_ <;>
    ((apply XL.det0F rfl rfl rfl rfl; exact D.assign rfl)) <;>
    ((apply XL.det0F rfl rfl rfl rfl; exact D.assign rfl)) <;>
    (refine XL.nil ?_)) <;> (first | refine Ex.then ?_ | (refine N.next ?_ <;> ((refine X.ret ?_; (repeat (first | refine Rt.then ?_ | refine Rt.block ?_ | refine Rt.scope ?_)); (first | apply Rt.done (Res.r2 Tryz.results34 (RV.tmp rfl) (RV.tmp rfl)) | apply Rt.doneM (Res.r2 Tryz.results34 (RV.tmp rfl) (RV.tmp rfl))); (focus (refine ⟨?_, rfl⟩; first | (rw [show openS s = ([], 10) from (by unfold openS; rw [if_pos (by omega)])]; done) | (rw [show openS s = ([], 13) from (by unfold openS; rw [if_neg (by omega)]; exact if_pos h1)]; done) | (rw [show openS s = (s.take (s.length - 4), 0) from (by unfold openS; rw [if_neg (by omega)]; exact if_neg h1)]))); exact fun w h => h.takes)))))))))))) <;> (first | refine Ex.then ?_ | (refine N.next ?_ <;> (refine X.seq ?_ <;> (refine X.text (L := (.op .fin 0 (.op .fin 1 (.op .fin 2 (.op .fin 3 (.op .fin 4 .nil)))))) rfl (by kernel_rfl) ?_ <;>
    ((apply XL.det0F rfl rfl rfl rfl; exact D.move rfl)) <;>
    ((apply XL.det0F rfl rfl rfl rfl; exact D.move rfl)) <;>
    ((apply XL.det0F rfl rfl rfl rfl; exact D.cutH (h := s.length - 4) rfl rfl (by omega))) <;>
    ((apply XL.det0F rfl rfl rfl rfl; exact D.assign rfl)) <;>
    ((apply XL.det0F rfl rfl rfl rfl; exact D.assign rfl)) <;>
    (refine XL.nil ?_)) <;> (first | refine Ex.then ?_ | (refine N.next ?_ <;> ((refine X.ret ?_; (repeat (first | refine Rt.then ?_ | refine Rt.block ?_ | refine Rt.scope ?_)); (first | apply Rt.done (Res.r2 Tryz.results34 (RV.tmp rfl) (RV.tmp rfl)) | apply Rt.doneM (Res.r2 Tryz.results34 (RV.tmp rfl) (RV.tmp rfl))); (focus (refine ⟨?_, rfl⟩; first | (rw [show openS s = ([], 10) from (by unfold openS; rw [if_pos (by omega)])]; done) | (rw [show openS s = ([], 13) from (by unfold openS; rw [if_neg (by omega)]; exact if_pos h1)]; done) | (rw [show openS s = (s.take (s.length - 4), 0) from (by unfold openS; rw [if_neg (by omega)]; exact if_neg h1)]))); exact fun w h => h.takes)))))))))))))))))
end Go.Lx
