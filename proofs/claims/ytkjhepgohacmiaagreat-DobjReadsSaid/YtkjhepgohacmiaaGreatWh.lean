/- The document's numbers and texts that are read, at the beginning of bytes. -/
import Derived.Test.YtkjhepgohacmiaaGreatWg
namespace Go.Lx
open Go.Proofs
set_option linter.unusedVariables false
set_option linter.unusedSimpArgs false
set_option maxRecDepth 20000
set_option maxHeartbeats 4000000

theorem hd_facts : ∀ n : Nat, n < 10 → 1 ≤ n → (hd 1 = 0 ∧ hd 9 = 255 ∧ (n ≤ 8 → hd (n + 1) = hd n + 2 ^ (8 - n))) := by decide +kernel
theorem wid_loop {b : UInt8} {n : Nat} (hn : 1 ≤ n ∧ n ≤ 9) (hlo : n = 1 ∨ hd n ≤ b.toNat) (hhi : n = 9 ∨ b.toNat < hd (n + 1)) : wid b = n := by
  have hf := hd_facts n (by omega) hn.1
  have hb := b.toNat_lt
  by_cases h : n = 9
  · subst h
    exact wid_255 (by omega)
  · exact wid_of ⟨hn.1, by omega⟩ (by rcases hlo with rfl | h'; omega; exact h') (by have := hf.2.2 (by omega); omega)
/-- A number's beginning has room. -/
theorem numS_room {n v j : Nat} (hn : 1 ≤ n ∧ n ≤ 9) (hv : v < 2 ^ (8 - n) ∨ n = 9 ∧ v = 0) (hj : j ≤ n - 1) {l : Bs} (hl : l.length = j) : numS v l < 18446744073709551616 := by
  have hm := num_lt l
  rw [numS_eq, hl]
  rw [hl] at hm
  have hp : 256 ^ j ≤ 256 ^ (n - 1) := Nat.pow_le_pow_right (by decide) hj
  have hp0 : 0 < 256 ^ j := Nat.pow_pos (by decide)
  rcases hv with hv | ⟨rfl, rfl⟩
  · have h1 : (v + 1) * 256 ^ j ≤ 2 ^ (8 - n) * 256 ^ (n - 1) := Nat.mul_le_mul hv hp
    rw [Nat.add_mul, Nat.one_mul] at h1
    have e2 : n = 1 ∨ n = 2 ∨ n = 3 ∨ n = 4 ∨ n = 5 ∨ n = 6 ∨ n = 7 ∨ n = 8 ∨ n = 9 := by omega
    have h2 : 2 ^ (8 - n) * 256 ^ (n - 1) ≤ 18446744073709551616 := by rcases e2 with rfl | rfl | rfl | rfl | rfl | rfl | rfl | rfl | rfl <;> decide
    omega
  · have h2 : 256 ^ (9 - 1) = 18446744073709551616 := by decide
    omega
theorem wid_v (b : UInt8) : b.toNat - hd (wid b) < 2 ^ (8 - wid b) ∨ wid b = 9 ∧ b.toNat - hd (wid b) = 0 := by
  have hwr := wid_range (b := b) rfl
  by_cases h9 : wid b = 9
  · exact .inr ⟨h9, by rw [hwr.2.2 h9, h9]; decide⟩
  · have h1 := hwr.2.1
    rw [if_neg h9] at h1
    exact .inl (by omega)
theorem refFew_spec (w : World) (s : Bs) (hs : s.length ≤ 1000000000) : Spec Tryz.prog 72 #[.string ⟨List.toArray s⟩] w (fun _ => False) (fun v A => ∃ (x n : Nat) (e : Int), v = .tuple #[.int .u64 x, .int .i64 n, .int .i64 e] ∧ (fewF s = some (x, n) ∧ e = 0 ∨ fewF s = none ∧ e ≠ 0 ∧ x = 0 ∧ n = 0) ∧ A = []) := by
  refine Spec.enter (args := [.string ⟨List.toArray s⟩]) (A := []) Tryz.func72 rfl Tryz.ntmps72 rfl (fun _ h => h) ?_
  (refine X.seq ?_ <;> (refine X.text (L := (.op .fin 0 (.op .fin 1 (.op .fin 2 .nil)))) rfl (by kernel_rfl) ?_ <;>
    ((apply XL.det0F rfl rfl rfl rfl; exact D.assign rfl)) <;>
    ((apply XL.det0F rfl rfl rfl rfl; exact D.assign rfl)) <;>
    ((apply XL.det0F rfl rfl rfl rfl; exact D.assign rfl)) <;>
    (refine XL.nil ?_)) <;> (first | refine Ex.then ?_ | (refine N.next ?_ <;> (refine X.seq ?_ <;> (refine X.seq ?_ <;> (refine X.text (L := (.op .fin 0 (.op .fin 1 .nil))) rfl (by kernel_rfl) ?_ <;>
    ((apply XL.det0F rfl rfl rfl rfl; exact D.move rfl)) <;>
    (refine XL.splitF rfl rfl rfl rfl (D.strEq (m := []) rfl rfl) (fun h0 => ?_) (fun h0 => ?_)) <;>
    (refine XL.nil ?_)) <;> (first | refine Ex.then ?_ | (refine N.next ?_ <;> ((
    refine X.cond rfl ?_ ?_; rotate_left; (focus (
    intro hc; first | exact absurd hc (by decide) | (cases hc; done) | (refine X.skip ?_))); rotate_right; (focus (
    intro hc; first | exact absurd hc (by decide) | (cases hc; done) | (refine X.seq ?_ <;> (refine X.text (L := (.op .fin 0 (.op .fin 1 (.op .fin 2 .nil)))) rfl (by kernel_rfl) ?_ <;>
    ((apply XL.det0F rfl rfl rfl rfl; exact D.assign rfl)) <;>
    ((apply XL.det0F rfl rfl rfl rfl; exact D.assign rfl)) <;>
    ((apply XL.det0F rfl rfl rfl rfl; exact D.assign rfl)) <;>
    (refine XL.nil ?_)) <;> (first | refine Ex.then ?_ | (refine N.next ?_ <;> ((refine X.ret ?_; (repeat (first | refine Rt.then ?_ | refine Rt.block ?_ | refine Rt.scope ?_)); (first | apply Rt.done (Res.r3 Tryz.results72 (RV.tmp rfl) (RV.tmp rfl) (RV.tmp rfl)) | apply Rt.doneM (Res.r3 Tryz.results72 (RV.tmp rfl) (RV.tmp rfl) (RV.tmp rfl))); (focus (first | (exact ⟨0, 0, 10, rfl, .inr ⟨by rw [h0]; rfl, by decide, rfl, rfl⟩, rfl⟩) | (exact ⟨0, 0, 12, rfl, .inr ⟨by rw [hfew, if_neg (by omega)], by decide, rfl, rfl⟩, rfl⟩) | (exact ⟨z, wid b, 0, rfl, .inl ⟨by rw [hfew, if_pos (by omega)], rfl⟩, rfl⟩) | (exact ⟨0, 0, 10, rfl, .inr ⟨by rw [hs2, fewF, if_pos (by have hrl : r.length + 1 = s.length := (by rw [hs2]; rfl); omega)], by decide, rfl, rfl⟩, rfl⟩))); exact fun w h => h.takes)))))))))))) <;> (first | refine Ex.then ?_ | (refine N.next ?_ <;> (refine X.seq ?_ <;> (refine X.text (L := (.op .fin 0 .nil)) rfl (by kernel_rfl) ?_ <;>
    (obtain ⟨b, r, hs2⟩ : ∃ b r, s = b :: r := (by cases s with | nil => exact absurd rfl h0 | cons b r => exact ⟨b, r, rfl⟩); have hb : s[0]? = some b := (by rw [hs2]; rfl); have hbl := b.toNat_lt; (apply XL.det0F rfl rfl rfl rfl; exact D.assign rfl)) <;>
    (refine XL.nil ?_)) <;> (first | refine Ex.then ?_ | (refine N.next ?_ <;> (refine X.seq ?_ <;> (refine X.block ?_ <;> ((refine X.loop (ι := Nat) (fun n => [(0, .string ⟨List.toArray s⟩), (5, .int .i64 n)]) (fun _ => []) (fun n => (1 ≤ n ∧ n ≤ 9) ∧ (n = 1 ∨ hd n ≤ b.toNat)) (fun n => 9 - n) (1) ?_ ?_ ?_ ?_; (focus (exact ⟨⟨Nat.le_refl _, by decide⟩, .inl rfl⟩)); (focus (repeat (first | exact Sub.nil | refine Sub.cons rfl ?_))); (focus (exact (fun w h => h.takes))); rintro n ⟨hn, hlo⟩; (dsimp only at *)) <;> (refine X.seq ?_ <;> (refine X.seq ?_ <;> (refine X.draw (.op .v0 0 (.op .v0 1 (.op .v0 2 (.op .v0 3 (.op .v0 4 (.op .v0 5 (.op .v0 6 (.op .v0 7 (.op .ch 8 (.op .v0 9 (.op .v0 10 .nil))))))))))) mixed (by kernel_rfl) ?_ <;>
    ((apply XL.det0 rfl rfl rfl rfl; exact D.move rfl)) <;>
    (refine XL.split0 rfl rfl rfl rfl (D.int rfl rfl rfl) (fun h1 => ?_) (fun h1 => ?_)) <;>
    ((apply XL.det0 rfl rfl rfl rfl; exact D.move rfl)) <;>
    (first | refine XL.skip0 rfl rfl rfl rfl ?_ | ((apply XL.det0 rfl rfl rfl rfl; exact D.move rfl))) <;>
    (first | refine XL.skip0 rfl rfl rfl rfl ?_ | ((first | refine XL.skip0 rfl rfl rfl rfl ?_ | (apply XL.det0 rfl rfl rfl rfl; exact D.idx 0 rfl rfl rfl hb)))) <;>
    (first | refine XL.skip0 rfl rfl rfl rfl ?_ | ((first | refine XL.skip0 rfl rfl rfl rfl ?_ | (apply XL.det0 rfl rfl rfl rfl; exact D.conv64 rfl (by omega))))) <;>
    (first | refine XL.skip0 rfl rfl rfl rfl ?_ | ((apply XL.det0 rfl rfl rfl rfl; exact D.move rfl))) <;>
    (first | refine XL.skip0 rfl rfl rfl rfl ?_ | ((first | refine XL.skip0 rfl rfl rfl rfl ?_ | ((apply XL.det0 rfl rfl rfl rfl; exact D.add64 rfl rfl (by omega)); rw [show (n : Int) + 1 = ((n + 1 : Nat) : Int) from (by omega)])))) <;>
    (first | refine XL.skipC rfl rfl rfl rfl ?_ | ((first | refine XL.skipC rfl rfl rfl rfl ?_ | (refine XL.call rfl rfl rfl rfl (fun w hw => refHead_spec (n + 1) ⟨by omega, by omega⟩ w) ?_; rintro v B' ⟨rfl, rfl⟩; refine XL.both ?_)))) <;>
    (first | refine XL.skip0 rfl rfl rfl rfl ?_ | ((first | refine XL.skip0 rfl rfl rfl rfl ?_ | refine XL.split0 rfl rfl rfl rfl (D.int rfl rfl rfl) (fun h2 => ?_) (fun h2 => ?_)))) <;>
    ((apply XL.det0 rfl rfl rfl rfl; first | exact D.pickT rfl rfl | exact D.pickF rfl rfl | exact D.pick rfl rfl rfl)) <;>
    (refine XL.nil ?_)) <;> (first | refine Ex.then ?_ | (refine N.next ?_ <;> ((
    refine X.cond rfl ?_ ?_; rotate_left; (focus (
    intro hc; first | exact absurd hc (by decide) | (cases hc; done) | (refine X.exit ?_))); rotate_right; (focus (
    intro hc; first | exact absurd hc (by decide) | (cases hc; done) | (refine X.skip ?_)))))))) <;> (first | refine Ex.then ?_ | (refine N.next ?_ <;> (refine X.block ?_ <;> (refine X.text (L := (.op .fin 0 (.op .fin 1 (.op .fin 2 .nil)))) rfl (by kernel_rfl) ?_ <;>
    ((apply XL.det0F rfl rfl rfl rfl; exact D.move rfl)) <;>
    ((apply XL.det0F rfl rfl rfl rfl; first | exact D.add64 rfl rfl (by omega) | exact D.int rfl rfl rfl)) <;>
    ((apply XL.det0F rfl rfl rfl rfl; exact D.assign rfl)) <;>
    (refine XL.nil ?_)) <;> (first | refine N.block ?_ | refine Ex.here ?_ | refine Ex.out rfl ?_))))) <;> (first | refine Ex.then ?_ | ((refine N.again ((n + 1)) ?_ ?_ ?_ ?_; (focus (exact ⟨⟨by omega, by omega⟩, .inr (by omega)⟩)); (focus (first | omega | (dsimp only; omega))); (focus (repeat (first | exact Sub.nil | refine Sub.cons rfl ?_))); exact (fun w h => h.takes))))) <;> (first | refine N.block ?_ | refine Ex.here ?_ | refine Ex.out rfl ?_)) <;> (first | refine Ex.then ?_ | (refine N.next ?_ <;> (refine X.seq ?_ <;> (refine X.seq ?_ <;> (refine X.text (L := (.op .fin 0 (.op .fin 1 (.op .fin 2 (.op .fin 3 .nil))))) rfl (by kernel_rfl) ?_ <;>
    (have hw : wid b = n := (wid_loop hn hlo (by first | exact .inl (by omega) | exact .inr (by omega))); subst hw; have hwr := wid_range (b := b) rfl; have hwv := wid_v b; (apply XL.det0F rfl rfl rfl rfl; exact D.move rfl)) <;>
    ((apply XL.det0F rfl rfl rfl rfl; first | exact D.len rfl | exact D.lenL rfl | exact D.lenS rfl)) <;>
    ((apply XL.det0F rfl rfl rfl rfl; exact D.move rfl)) <;>
    (first | refine XL.splitF rfl rfl rfl rfl (D.int rfl rfl rfl) (fun h3 => ?_) (fun h3 => ?_)) <;>
    (refine XL.nil ?_)) <;> (first | refine Ex.then ?_ | (refine N.next ?_ <;> ((
    refine X.cond rfl ?_ ?_; rotate_left; (focus (
    intro hc; first | exact absurd hc (by decide) | (cases hc; done) | (refine X.skip ?_))); rotate_right; (focus (
    intro hc; first | exact absurd hc (by decide) | (cases hc; done) | (refine X.seq ?_ <;> (refine X.text (L := (.op .fin 0 (.op .fin 1 (.op .fin 2 .nil)))) rfl (by kernel_rfl) ?_ <;>
    ((apply XL.det0F rfl rfl rfl rfl; exact D.assign rfl)) <;>
    ((apply XL.det0F rfl rfl rfl rfl; exact D.assign rfl)) <;>
    ((apply XL.det0F rfl rfl rfl rfl; exact D.assign rfl)) <;>
    (refine XL.nil ?_)) <;> (first | refine Ex.then ?_ | (refine N.next ?_ <;> ((refine X.ret ?_; (repeat (first | refine Rt.then ?_ | refine Rt.block ?_ | refine Rt.scope ?_)); (first | apply Rt.done (Res.r3 Tryz.results72 (RV.tmp rfl) (RV.tmp rfl) (RV.tmp rfl)) | apply Rt.doneM (Res.r3 Tryz.results72 (RV.tmp rfl) (RV.tmp rfl) (RV.tmp rfl))); (focus (first | (exact ⟨0, 0, 10, rfl, .inr ⟨by rw [h0]; rfl, by decide, rfl, rfl⟩, rfl⟩) | (exact ⟨0, 0, 12, rfl, .inr ⟨by rw [hfew, if_neg (by omega)], by decide, rfl, rfl⟩, rfl⟩) | (exact ⟨z, wid b, 0, rfl, .inl ⟨by rw [hfew, if_pos (by omega)], rfl⟩, rfl⟩) | (exact ⟨0, 0, 10, rfl, .inr ⟨by rw [hs2, fewF, if_pos (by have hrl : r.length + 1 = s.length := (by rw [hs2]; rfl); omega)], by decide, rfl, rfl⟩, rfl⟩))); exact fun w h => h.takes)))))))))))) <;> (first | refine Ex.then ?_ | (refine N.next ?_ <;> (refine X.seq ?_ <;> (refine X.draw (.op .v0 0 (.op .v0 1 (.op .v0 2 (.op .v0 3 (.op .ch 4 (.op .v0 5 (.op .v0 6 (.op .v0 7 .nil)))))))) mixed (by kernel_rfl) ?_ <;>
    ((apply XL.det0 rfl rfl rfl rfl; exact D.move rfl)) <;>
    ((apply XL.det0 rfl rfl rfl rfl; exact D.idx 0 rfl rfl rfl hb)) <;>
    ((apply XL.det0 rfl rfl rfl rfl; exact D.conv64 rfl (by omega))) <;>
    ((apply XL.det0 rfl rfl rfl rfl; exact D.move rfl)) <;>
    ((refine XL.call rfl rfl rfl rfl (fun w hw => refHead_spec (wid b) hn w) ?_; rintro v B' ⟨rfl, rfl⟩; refine XL.both ?_)) <;>
    ((apply XL.det0 rfl rfl rfl rfl; exact D.sub64 rfl rfl (by omega)); rw [show (b.toNat : Int) - ((hd (wid b) : Nat) : Int) = ((b.toNat - hd (wid b) : Nat) : Int) from (by omega)]) <;>
    ((apply XL.det0 rfl rfl rfl rfl; exact D.convN rfl rfl); rw [Nat.mod_eq_of_lt (show b.toNat - hd (wid b) < 2 ^ IntKind.u64.bits from Nat.lt_of_le_of_lt (Nat.sub_le _ _) (Nat.lt_of_lt_of_le hbl (by decide)))]) <;>
    ((apply XL.det0 rfl rfl rfl rfl; exact D.assign rfl)) <;>
    (refine XL.nil ?_)) <;> (first | refine Ex.then ?_ | (refine N.next ?_ <;> (refine X.seq ?_ <;> (refine X.seq ?_ <;> (refine X.text (L := (.op .fin 0 (.op .fin 1 .nil))) rfl (by kernel_rfl) ?_ <;>
    ((apply XL.det0F rfl rfl rfl rfl; exact D.move rfl)) <;>
    (first | refine XL.splitF rfl rfl rfl rfl (D.int rfl rfl rfl) (fun h4 => ?_) (fun h4 => ?_)) <;>
    (refine XL.nil ?_)) <;> (first | refine Ex.then ?_ | (refine N.next ?_ <;> ((
    refine X.cond rfl ?_ ?_; rotate_left; (focus (
    intro hc; first | exact absurd hc (by decide) | (cases hc; done) | (refine X.skip ?_))); rotate_right; (focus (
    intro hc; first | exact absurd hc (by decide) | (cases hc; done) | (refine X.text (L := (.op .fin 0 .nil)) rfl (by kernel_rfl) ?_ <;>
    (have hv0 : b.toNat - hd (wid b) = 0 := (by rw [hwr.2.2 (by omega), show wid b = 9 from (by omega)]; decide); (apply XL.det0F (v := .int .u64 ((b.toNat - hd (wid b) : Nat) : Int)) rfl rfl rfl rfl; exact D.assign (by rw [hv0]; rfl))) <;>
    (refine XL.nil ?_))))))))) <;> (first | refine Ex.then ?_ | (refine N.next ?_ <;> (refine X.seq ?_ <;> (refine X.seq ?_ <;> (refine X.text (L := (.op .fin 0 .nil)) rfl (by kernel_rfl) ?_ <;>
    ((apply XL.det0F rfl rfl rfl rfl; exact D.assign rfl)) <;>
    (refine XL.nil ?_)) <;> (first | refine Ex.then ?_ | (refine N.next ?_ <;> (refine X.block ?_ <;> ((refine X.loop (ι := Nat) (fun i => [(0, .string ⟨List.toArray s⟩), (5, .int .i64 ((wid b : Nat) : Int)), (6, .int .u64 ((numS (b.toNat - hd (wid b)) (r.take (i - 1)) : Nat) : Int)), (7, .int .i64 i)]) (fun _ => []) (fun i => 1 ≤ i ∧ i ≤ wid b) (fun i => wid b - i) (1) ?_ ?_ ?_ ?_; (focus (exact ⟨Nat.le_refl _, hn.1⟩)); (focus (repeat (first | exact Sub.nil | refine Sub.cons rfl ?_))); (focus (exact (fun w h => h.takes))); rintro i ⟨hi1, hi⟩; (dsimp only at *)) <;> (refine X.seq ?_ <;> (refine X.seq ?_ <;> (refine X.text (L := (.op .fin 0 (.op .fin 1 (.op .fin 2 .nil)))) rfl (by kernel_rfl) ?_ <;>
    ((apply XL.det0F rfl rfl rfl rfl; exact D.move rfl)) <;>
    ((apply XL.det0F rfl rfl rfl rfl; exact D.move rfl)) <;>
    (first | refine XL.splitF rfl rfl rfl rfl (D.int rfl rfl rfl) (fun h6 => ?_) (fun h6 => ?_)) <;>
    (refine XL.nil ?_)) <;> (first | refine Ex.then ?_ | (refine N.next ?_ <;> ((
    refine X.cond rfl ?_ ?_; rotate_left; (focus (
    intro hc; first | exact absurd hc (by decide) | (cases hc; done) | (refine X.exit ?_))); rotate_right; (focus (
    intro hc; first | exact absurd hc (by decide) | (cases hc; done) | (refine X.skip ?_)))))))) <;> (first | refine Ex.then ?_ | (refine N.next ?_ <;> (refine X.seq ?_ <;> (refine X.block ?_ <;> (refine X.text (L := (.op .fin 0 (.op .fin 1 (.op .fin 2 (.op .fin 3 (.op .fin 4 (.op .fin 5 (.op .fin 6 (.op .fin 7 .nil))))))))) rfl (by kernel_rfl) ?_ <;>
    ((apply XL.det0F rfl rfl rfl rfl; exact D.move rfl)) <;>
    (have hrl : r.length + 1 = s.length := (by rw [hs2]; rfl); obtain ⟨c, hc2⟩ : ∃ c, r[i - 1]? = some c := (⟨r[i - 1]'(by omega), List.getElem?_eq_getElem _⟩); have hsc : s[i]? = some c := (by rw [hs2, show i = (i - 1) + 1 from (by omega)]; exact hc2); have hcl := c.toNat_lt; have hstep : 256 * numS (b.toNat - hd (wid b)) (r.take (i - 1)) + c.toNat = numS (b.toNat - hd (wid b)) (r.take i) := (by rw [show r.take i = r.take (i - 1) ++ [c] from (by rw [show i = (i - 1) + 1 from (by omega), List.take_add_one, hc2]; simp), numS_snoc]); have hroom := numS_room hn hwv (show i - 1 + 1 ≤ wid b - 1 by omega) (l := r.take i) (by rw [List.length_take]; omega); (apply XL.det0F rfl rfl rfl rfl; exact D.mulN (a := 256) rfl rfl rfl (show 256 * numS (b.toNat - hd (wid b)) (r.take (i - 1)) < 18446744073709551616 by omega))) <;>
    ((apply XL.det0F rfl rfl rfl rfl; exact D.move rfl)) <;>
    ((apply XL.det0F rfl rfl rfl rfl; exact D.move rfl)) <;>
    ((apply XL.det0F rfl rfl rfl rfl; exact D.idx i rfl rfl rfl hsc)) <;>
    ((apply XL.det0F rfl rfl rfl rfl; exact D.convN rfl rfl); rw [Nat.mod_eq_of_lt (show c.toNat < 2 ^ IntKind.u64.bits from Nat.lt_of_lt_of_le hcl (by decide))]) <;>
    ((apply XL.det0F rfl rfl rfl rfl; exact D.addN rfl rfl rfl (show 256 * numS (b.toNat - hd (wid b)) (r.take (i - 1)) + c.toNat < 18446744073709551616 by omega)); rw [hstep, show r.take i = r.take (i + 1 - 1) from rfl]) <;>
    ((apply XL.det0F rfl rfl rfl rfl; exact D.assign rfl)) <;>
    (refine XL.nil ?_)) <;> (first | refine N.block ?_ | refine Ex.here ?_ | refine Ex.out rfl ?_)) <;> (first | refine Ex.then ?_ | (refine N.next ?_ <;> (refine X.text (L := (.op .fin 0 (.op .fin 1 (.op .fin 2 .nil)))) rfl (by kernel_rfl) ?_ <;>
    ((apply XL.det0F rfl rfl rfl rfl; exact D.move rfl)) <;>
    ((apply XL.det0F rfl rfl rfl rfl; first | exact D.add64 rfl rfl (by omega) | exact D.int rfl rfl rfl)) <;>
    ((apply XL.det0F rfl rfl rfl rfl; exact D.assign rfl)) <;>
    (refine XL.nil ?_)))))))) <;> (first | refine Ex.then ?_ | ((refine N.again ((i + 1)) ?_ ?_ ?_ ?_; (focus (exact ⟨by omega, by omega⟩)); (focus (first | omega | (dsimp only; omega))); (focus (repeat (first | exact Sub.nil | refine Sub.cons rfl ?_))); exact (fun w h => h.takes))))) <;> (first | refine N.block ?_ | refine Ex.here ?_ | refine Ex.out rfl ?_))))) <;> (first | refine Ex.then ?_ | (refine N.next ?_ <;> (refine X.seq ?_ <;> (refine X.seq ?_ <;> (refine X.text (L := (.op .fin 0 (.op .fin 1 (.op .fin 2 (.op .fin 3 .nil))))) rfl (by kernel_rfl) ?_ <;>
    (have hrl : r.length + 1 = s.length := (by rw [hs2]; rfl); have hiw : i = wid b := (by omega); have hroom := numS_room hn hwv (Nat.le_refl (wid b - 1)) (l := r.take (wid b - 1)) (by rw [List.length_take]; omega); have hfew : fewF s = if vsz (numS (b.toNat - hd (wid b)) (r.take (wid b - 1))) = wid b then some (numS (b.toNat - hd (wid b)) (r.take (wid b - 1)), wid b) else none := (by rw [hs2, fewF, if_neg (by omega)]); rw [hiw]; obtain ⟨z, hz⟩ : ∃ z, numS (b.toNat - hd (wid b)) (r.take (wid b - 1)) = z := (⟨_, rfl⟩); rw [hz] at hroom hfew ⊢; (apply XL.det0F rfl rfl rfl rfl; exact D.move rfl)) <;>
    ((refine XL.call rfl rfl rfl rfl (fun w hw => refSize_spec z hroom w) ?_; rintro v B' ⟨rfl, rfl⟩; refine XL.both ?_)) <;>
    ((apply XL.det0F rfl rfl rfl rfl; exact D.move rfl)) <;>
    (first | refine XL.splitF rfl rfl rfl rfl (D.int rfl rfl rfl) (fun h7 => ?_) (fun h7 => ?_)) <;>
    (refine XL.nil ?_)) <;> (first | refine Ex.then ?_ | (refine N.next ?_ <;> ((
    refine X.cond rfl ?_ ?_; rotate_left; (focus (
    intro hc; first | exact absurd hc (by decide) | (cases hc; done) | (refine X.skip ?_))); rotate_right; (focus (
    intro hc; first | exact absurd hc (by decide) | (cases hc; done) | (refine X.seq ?_ <;> (refine X.text (L := (.op .fin 0 (.op .fin 1 (.op .fin 2 .nil)))) rfl (by kernel_rfl) ?_ <;>
    ((apply XL.det0F rfl rfl rfl rfl; exact D.assign rfl)) <;>
    ((apply XL.det0F rfl rfl rfl rfl; exact D.assign rfl)) <;>
    ((apply XL.det0F rfl rfl rfl rfl; exact D.assign rfl)) <;>
    (refine XL.nil ?_)) <;> (first | refine Ex.then ?_ | (refine N.next ?_ <;> ((refine X.ret ?_; (repeat (first | refine Rt.then ?_ | refine Rt.block ?_ | refine Rt.scope ?_)); (first | apply Rt.done (Res.r3 Tryz.results72 (RV.tmp rfl) (RV.tmp rfl) (RV.tmp rfl)) | apply Rt.doneM (Res.r3 Tryz.results72 (RV.tmp rfl) (RV.tmp rfl) (RV.tmp rfl))); (focus (first | (exact ⟨0, 0, 10, rfl, .inr ⟨by rw [h0]; rfl, by decide, rfl, rfl⟩, rfl⟩) | (exact ⟨0, 0, 12, rfl, .inr ⟨by rw [hfew, if_neg (by omega)], by decide, rfl, rfl⟩, rfl⟩) | (exact ⟨z, wid b, 0, rfl, .inl ⟨by rw [hfew, if_pos (by omega)], rfl⟩, rfl⟩) | (exact ⟨0, 0, 10, rfl, .inr ⟨by rw [hs2, fewF, if_pos (by have hrl : r.length + 1 = s.length := (by rw [hs2]; rfl); omega)], by decide, rfl, rfl⟩, rfl⟩))); exact fun w h => h.takes)))))))))))) <;> (first | refine Ex.then ?_ | (refine N.next ?_ <;> (refine X.seq ?_ <;> (refine X.text (L := (.op .fin 0 (.op .fin 1 (.op .fin 2 (.op .fin 3 (.op .fin 4 .nil)))))) rfl (by kernel_rfl) ?_ <;>
    ((apply XL.det0F rfl rfl rfl rfl; exact D.move rfl)) <;>
    ((apply XL.det0F rfl rfl rfl rfl; exact D.move rfl)) <;>
    ((apply XL.det0F rfl rfl rfl rfl; exact D.assign rfl)) <;>
    ((apply XL.det0F rfl rfl rfl rfl; exact D.assign rfl)) <;>
    ((apply XL.det0F rfl rfl rfl rfl; exact D.assign rfl)) <;>
    (refine XL.nil ?_)) <;> (first | refine Ex.then ?_ | (refine N.next ?_ <;> ((refine X.ret ?_; (repeat (first | refine Rt.then ?_ | refine Rt.block ?_ | refine Rt.scope ?_)); (first | apply Rt.done (Res.r3 Tryz.results72 (RV.tmp rfl) (RV.tmp rfl) (RV.tmp rfl)) | apply Rt.doneM (Res.r3 Tryz.results72 (RV.tmp rfl) (RV.tmp rfl) (RV.tmp rfl))); (focus (first | (exact ⟨0, 0, 10, rfl, .inr ⟨by rw [h0]; rfl, by decide, rfl, rfl⟩, rfl⟩) | (exact ⟨0, 0, 12, rfl, .inr ⟨by rw [hfew, if_neg (by omega)], by decide, rfl, rfl⟩, rfl⟩) | (exact ⟨z, wid b, 0, rfl, .inl ⟨by rw [hfew, if_pos (by omega)], rfl⟩, rfl⟩) | (exact ⟨0, 0, 10, rfl, .inr ⟨by rw [hs2, fewF, if_pos (by have hrl : r.length + 1 = s.length := (by rw [hs2]; rfl); omega)], by decide, rfl, rfl⟩, rfl⟩))); exact fun w h => h.takes))))))))))))))))))))))))))))))))
end Go.Lx
