/- Package crc's walks; those of the document beside them. -/
import Derived.Test.YtkjhepgohacmiaaGreatTz
import Derived.Test.YtkjhepgohacmiaaGreatXm
import Derived.Test.YtkjhepgohacmiaaGreatCa
namespace Go.Lx
open Go.Proofs
set_option linter.unusedVariables false
set_option linter.unusedSimpArgs false
set_option maxRecDepth 20000
set_option maxHeartbeats 4000000

theorem cstep_and (x : Nat) (h : x < 4294967296) : x / 2 ^^^ (2197175160 &&& ((2 ^ 32 - (x &&& 1)) % 2 ^ 32)) = cstep x := by
  unfold cstep
  rw [Nat.and_one_is_mod]
  by_cases hx : x % 2 = 1
  · rw [if_pos hx, hx]; rfl
  · rw [if_neg hx, show x % 2 = 0 by omega]; simp
theorem step_spec (x : Nat) (h : x < 4294967296) (w : World) : Spec Tryz.prog 123 #[.int .u32 x] w (fun _ => False) (fun v A => v = .int .u32 (cstep x) ∧ A = []) := by
  have h1 : x &&& 1 < 4294967296 := Nat.lt_of_le_of_lt Nat.and_le_left h
  have h2 : (2 ^ 32 - (x &&& 1)) % 2 ^ 32 < 4294967296 := Nat.mod_lt _ (by decide)
  have h3 : 2197175160 &&& ((2 ^ 32 - (x &&& 1)) % 2 ^ 32) < 4294967296 := Nat.lt_of_le_of_lt Nat.and_le_left (by decide)
  refine Spec.enter (args := [.int .u32 x]) (A := []) Tryz.func123 rfl Tryz.ntmps123 rfl (fun _ h => h) ?_
  (refine X.seq ?_ <;> (refine X.text (L := (.op .fin 0 .nil)) rfl (by kernel_rfl) ?_ <;>
    ((apply XL.det0F rfl rfl rfl rfl; exact D.assign rfl)) <;>
    (refine XL.nil ?_)) <;> (first | refine Ex.then ?_ | (refine N.next ?_ <;> (refine X.seq ?_ <;> (refine X.text (L := (.op .fin 0 (.op .fin 1 (.op .fin 2 (.op .fin 3 (.op .fin 4 (.op .fin 5 (.op .fin 6 (.op .fin 7 .nil))))))))) rfl (by kernel_rfl) ?_ <;>
    ((apply XL.det0F rfl rfl rfl rfl; exact D.move rfl)) <;>
    ((apply XL.det0F rfl rfl rfl rfl; exact D.shrN (b := 1) rfl rfl (by decide))) <;>
    ((apply XL.det0F rfl rfl rfl rfl; exact D.move rfl)) <;>
    ((apply XL.det0F rfl rfl rfl rfl; exact D.andN (b := 1) rfl rfl rfl ⟨h, by decide⟩)) <;>
    ((apply XL.det0F rfl rfl rfl rfl; exact D.negN rfl rfl h1)) <;>
    ((apply XL.det0F rfl rfl rfl rfl; exact D.andN (a := 2197175160) rfl rfl rfl ⟨by decide, h2⟩)) <;>
    ((apply XL.det0F rfl rfl rfl rfl; exact D.xorN rfl rfl rfl ⟨show x / 2 < 4294967296 by omega, h3⟩); rw [show x / 2 ^ 1 ^^^ (2197175160 &&& ((2 ^ IntKind.u32.bits - (x &&& 1)) % 2 ^ IntKind.u32.bits)) = cstep x from cstep_and x h]) <;>
    ((apply XL.det0F rfl rfl rfl rfl; exact D.assign rfl)) <;>
    (refine XL.nil ?_)) <;> (first | refine Ex.then ?_ | (refine N.next ?_ <;> ((refine X.ret ?_; (repeat (first | refine Rt.then ?_ | refine Rt.block ?_ | refine Rt.scope ?_)); (first | apply Rt.done (Res.r1 Tryz.results123 (RV.tmp rfl)) | apply Rt.doneM (Res.r1 Tryz.results123 (RV.tmp rfl))); (focus (exact ⟨rfl, rfl⟩)); exact fun w h => h.takes))))))))
theorem byted_spec (x : Nat) (b : UInt8) (h : x < 4294967296) (w : World) : Spec Tryz.prog 104 #[.int .u32 x, .int .u8 b.toNat] w (fun _ => False) (fun v A => v = .int .u32 (cbyte x b) ∧ A = []) := by
  have hb := byte_lt b
  have h1 := xorb_lt h b
  refine Spec.enter (args := [.int .u32 x, .int .u8 b.toNat]) (A := []) Tryz.func104 rfl Tryz.ntmps104 rfl (fun _ h => h) ?_
  (refine X.seq ?_ <;> (refine X.text (L := (.op .fin 0 .nil)) rfl (by kernel_rfl) ?_ <;>
    ((apply XL.det0F rfl rfl rfl rfl; exact D.assign rfl)) <;>
    (refine XL.nil ?_)) <;> (first | refine Ex.then ?_ | (refine N.next ?_ <;> (refine X.seq ?_ <;> (refine X.text (L := (.op .fin 0 (.op .fin 1 (.op .fin 2 (.op .fin 3 (.op .fin 4 .nil)))))) rfl (by kernel_rfl) ?_ <;>
    ((apply XL.det0F rfl rfl rfl rfl; exact D.move rfl)) <;>
    ((apply XL.det0F rfl rfl rfl rfl; exact D.move rfl)) <;>
    ((apply XL.det0F rfl rfl rfl rfl; exact D.convN rfl rfl); rw [show b.toNat % 2 ^ IntKind.u32.bits = b.toNat from Nat.mod_eq_of_lt (Nat.lt_of_lt_of_le hb (by decide))]) <;>
    ((apply XL.det0F rfl rfl rfl rfl; exact D.xorN rfl rfl rfl ⟨h, Nat.lt_of_lt_of_le hb (by decide)⟩)) <;>
    ((apply XL.det0F rfl rfl rfl rfl; exact D.assign rfl)) <;>
    (refine XL.nil ?_)) <;> (first | refine Ex.then ?_ | (refine N.next ?_ <;> (refine X.seq ?_ <;> (refine X.seq ?_ <;> (refine X.text (L := (.op .fin 0 .nil)) rfl (by kernel_rfl) ?_ <;>
    ((apply XL.det0F rfl rfl rfl rfl; exact D.move rfl)) <;>
    (refine XL.nil ?_)) <;> (first | refine Ex.then ?_ | (refine N.next ?_ <;> (refine X.block ?_ <;> ((refine X.loop (ι := Nat) (fun k => [(0, .int .u32 (cit (x ^^^ b.toNat) k)), (9, .int .i64 k)]) (fun _ => []) (fun k => k ≤ 8) (fun k => 8 - k) (0) ?_ ?_ ?_ ?_; (focus (exact Nat.zero_le _)); (focus (repeat (first | exact Sub.nil | refine Sub.cons rfl ?_))); (focus (exact (fun w h => h.takes))); rintro k hk) <;> (refine X.seq ?_ <;> (refine X.text (L := (.op .fin 0 .nil)) rfl (by kernel_rfl) ?_ <;>
    (first | refine XL.splitF rfl rfl rfl rfl (D.int rfl rfl rfl) (fun h0 => ?_) (fun h0 => ?_)) <;>
    (refine XL.nil ?_)) <;> (first | refine Ex.then ?_ | (refine N.next ?_ <;> (refine X.seq ?_ <;> ((
    refine X.cond rfl ?_ ?_; rotate_left; (focus (
    intro hc; first | exact absurd hc (by decide) | (cases hc; done) | (refine X.exit ?_))); rotate_right; (focus (
    intro hc; first | exact absurd hc (by decide) | (cases hc; done) | (refine X.skip ?_))))) <;> (first | refine Ex.then ?_ | (refine N.next ?_ <;> (refine X.seq ?_ <;> (refine X.block ?_ <;> (refine X.text (L := (.op .fin 0 (.op .fin 1 (.op .fin 2 .nil)))) rfl (by kernel_rfl) ?_ <;>
    ((apply XL.det0F rfl rfl rfl rfl; exact D.move rfl)) <;>
    ((refine XL.call rfl rfl rfl rfl (fun w hw => step_spec _ (cit_lt h1 k) w) ?_; rintro v B' ⟨rfl, rfl⟩; refine XL.both ?_)) <;>
    ((apply XL.det0F rfl rfl rfl rfl; exact D.assign rfl)) <;>
    (refine XL.nil ?_)) <;> (first | refine N.block ?_ | refine Ex.here ?_ | refine Ex.out rfl ?_)) <;> (first | refine Ex.then ?_ | (refine N.next ?_ <;> (refine X.text (L := (.op .fin 0 (.op .fin 1 .nil))) rfl (by kernel_rfl) ?_ <;>
    ((apply XL.det0F rfl rfl rfl rfl; first | exact D.add64 rfl rfl (by omega) | exact D.int rfl rfl rfl)) <;>
    ((apply XL.det0F rfl rfl rfl rfl; exact D.move rfl)) <;>
    (refine XL.nil ?_))))))))))) <;> (first | refine Ex.then ?_ | ((refine N.again ((k + 1)) ?_ ?_ ?_ ?_; (focus (omega)); (focus (first | omega | (dsimp only; omega))); (focus (repeat (first | exact Sub.nil | refine Sub.cons rfl ?_))); exact (fun w h => h.takes))))) <;> (first | refine N.block ?_ | refine Ex.here ?_ | refine Ex.out rfl ?_))))) <;> (first | refine Ex.then ?_ | (refine N.next ?_ <;> (refine X.seq ?_ <;> (refine X.text (L := (.op .fin 0 (.op .fin 1 .nil))) rfl (by kernel_rfl) ?_ <;>
    (obtain rfl : k = 8 := (by omega); (apply XL.det0F rfl rfl rfl rfl; exact D.move rfl)) <;>
    ((apply XL.det0F rfl rfl rfl rfl; exact D.assign rfl)) <;>
    (refine XL.nil ?_)) <;> (first | refine Ex.then ?_ | (refine N.next ?_ <;> ((refine X.ret ?_; (repeat (first | refine Rt.then ?_ | refine Rt.block ?_ | refine Rt.scope ?_)); (first | apply Rt.done (Res.r1 Tryz.results104 (RV.tmp rfl)) | apply Rt.doneM (Res.r1 Tryz.results104 (RV.tmp rfl))); (focus (exact ⟨rfl, rfl⟩)); exact fun w h => h.takes))))))))))))))
theorem More_spec (w : World) (a : Option Addr) (c : Nat) (p : List Bs) (x : Nat) (hx : x < 4294967296) (hp : Rd w 1 a p.length c (encT p)) (hq : ∀ s ∈ p, s.length ≤ 1000000000) : Spec Tryz.prog 70 #[.int .u32 x, .slice a p.length c] w (fun _ => False) (fun v A => v = .int .u32 ((4294967295 - cmore (4294967295 - x) p.flatten : Nat) : Int) ∧ A = []) := by
  have hb := hp.le
  have hb2 := hp.mx
  unfold maxLen at hb2
  have h0 : 4294967295 - x < 4294967296 := by omega
  refine Spec.enter (args := [.int .u32 x, .slice a p.length c]) (A := []) Tryz.func70 rfl Tryz.ntmps70 rfl (fun _ h => h) ?_
  (refine X.seq ?_ <;> (refine X.text (L := (.op .fin 0 .nil)) rfl (by kernel_rfl) ?_ <;>
    ((apply XL.det0F rfl rfl rfl rfl; exact D.assign rfl)) <;>
    (refine XL.nil ?_)) <;> (first | refine Ex.then ?_ | (refine N.next ?_ <;> (refine X.seq ?_ <;> (refine X.text (L := (.op .fin 0 (.op .fin 1 (.op .fin 2 .nil)))) rfl (by kernel_rfl) ?_ <;>
    ((apply XL.det0F rfl rfl rfl rfl; exact D.move rfl)) <;>
    ((apply XL.det0F rfl rfl rfl rfl; exact D.notN rfl rfl hx); rw [show 2 ^ IntKind.u32.bits - 1 - x = cmore (4294967295 - x) ((p.take 0).flatten) from rfl]) <;>
    ((apply XL.det0F rfl rfl rfl rfl; exact D.assign rfl)) <;>
    (refine XL.nil ?_)) <;> (first | refine Ex.then ?_ | (refine N.next ?_ <;> (refine X.seq ?_ <;> (refine X.seq ?_ <;> (refine X.text (L := (.op .fin 0 (.op .fin 1 (.op .fin 2 .nil)))) rfl (by kernel_rfl) ?_ <;>
    ((apply XL.det0F rfl rfl rfl rfl; exact D.move rfl)) <;>
    ((apply XL.det0F rfl rfl rfl rfl; first | exact D.len rfl | exact D.lenL rfl | exact D.lenS rfl)) <;>
    ((apply XL.det0F rfl rfl rfl rfl; exact D.move rfl)) <;>
    (refine XL.nil ?_)) <;> (first | refine Ex.then ?_ | (refine N.next ?_ <;> (refine X.block ?_ <;> ((refine X.loop (ι := Nat) (fun i => [(1, .slice a p.length c), (5, .int .u32 ((cmore (4294967295 - x) ((p.take i).flatten) : Nat) : Int)), (11, .slice a p.length c), (12, .int .i64 p.length), (13, .int .i64 i)]) (fun _ => []) (fun i => i ≤ p.length) (fun i => p.length - i) (0) ?_ ?_ ?_ ?_; (focus (exact Nat.zero_le _)); (focus (repeat (first | exact Sub.nil | refine Sub.cons rfl ?_))); (focus (exact (fun w h => h.takes))); rintro i hi; (dsimp only at *)) <;> (refine X.seq ?_ <;> (refine X.text (L := (.op .fin 0 .nil)) rfl (by kernel_rfl) ?_ <;>
    (first | refine XL.splitF rfl rfl rfl rfl (D.int rfl rfl rfl) (fun h1 => ?_) (fun h1 => ?_)) <;>
    (refine XL.nil ?_)) <;> (first | refine Ex.then ?_ | (refine N.next ?_ <;> (refine X.seq ?_ <;> ((
    refine X.cond rfl ?_ ?_; rotate_left; (focus (
    intro hc; first | exact absurd hc (by decide) | (cases hc; done) | (refine X.exit ?_))); rotate_right; (focus (
    intro hc; first | exact absurd hc (by decide) | (cases hc; done) | (refine X.skip ?_))))) <;> (first | refine Ex.then ?_ | (refine N.next ?_ <;> (refine X.seq ?_ <;> (refine X.block ?_ <;> (refine X.seq ?_ <;> (refine X.text (L := (.op .fin 0 (.op .fin 1 (.op .fin 2 .nil)))) rfl (by kernel_rfl) ?_ <;>
    (have hil : i < p.length := (by omega); obtain ⟨s, hs⟩ : ∃ s, p[i]? = some s := (⟨p[i], List.getElem?_eq_getElem hil⟩); (apply XL.det0F rfl rfl rfl rfl; exact D.indexAddr i rfl rfl rfl hil (hp.sm (by omega)))) <;>
    ((apply XL.detF rfl rfl rfl rfl; exact D.load1 rfl (fun w hw => Rd.strAt (hp.conf0 hw) hs))) <;>
    ((apply XL.det0F rfl rfl rfl rfl; exact D.assign rfl)) <;>
    (refine XL.nil ?_)) <;> (first | refine Ex.then ?_ | (refine N.next ?_ <;> (refine X.seq ?_ <;> (refine X.text (L := (.op .fin 0 (.op .fin 1 (.op .fin 2 .nil)))) rfl (by kernel_rfl) ?_ <;>
    ((apply XL.det0F rfl rfl rfl rfl; exact D.move rfl)) <;>
    ((apply XL.det0F rfl rfl rfl rfl; first | exact D.len rfl | exact D.lenL rfl | exact D.lenS rfl)) <;>
    (have hsl := hq s (List.mem_of_getElem? hs); rw [show cmore (4294967295 - x) ((p.take i).flatten) = cmore (cmore (4294967295 - x) ((p.take i).flatten)) (s.take 0) from rfl]; (apply XL.det0F rfl rfl rfl rfl; exact D.move rfl)) <;>
    (refine XL.nil ?_)) <;> (first | refine Ex.then ?_ | (refine N.next ?_ <;> (refine X.block ?_ <;> ((refine X.loop (ι := Nat) (fun k => [(1, .slice a p.length c), (5, .int .u32 ((cmore (cmore (4294967295 - x) ((p.take i).flatten)) (s.take k) : Nat) : Int)), (7, .string ⟨List.toArray s⟩), (11, .slice a p.length c), (12, .int .i64 p.length), (13, .int .i64 i), (18, .int .i64 s.length), (19, .int .i64 k)]) (fun _ => []) (fun k => k ≤ s.length) (fun k => s.length - k) (0) ?_ ?_ ?_ ?_; (focus (exact Nat.zero_le _)); (focus (repeat (first | exact Sub.nil | refine Sub.cons rfl ?_))); (focus (exact (fun w h => h.takes))); rintro k hk; (dsimp only at *)) <;> (refine X.seq ?_ <;> (refine X.text (L := (.op .fin 0 .nil)) rfl (by kernel_rfl) ?_ <;>
    (first | refine XL.splitF rfl rfl rfl rfl (D.int rfl rfl rfl) (fun h2 => ?_) (fun h2 => ?_)) <;>
    (refine XL.nil ?_)) <;> (first | refine Ex.then ?_ | (refine N.next ?_ <;> (refine X.seq ?_ <;> ((
    refine X.cond rfl ?_ ?_; rotate_left; (focus (
    intro hc; first | exact absurd hc (by decide) | (cases hc; done) | (refine X.exit ?_))); rotate_right; (focus (
    intro hc; first | exact absurd hc (by decide) | (cases hc; done) | (refine X.skip ?_))))) <;> (first | refine Ex.then ?_ | (refine N.next ?_ <;> (refine X.seq ?_ <;> (refine X.block ?_ <;> (refine X.seq ?_ <;> (refine X.text (L := (.op .fin 0 (.op .fin 1 .nil))) rfl (by kernel_rfl) ?_ <;>
    ((apply XL.det0F rfl rfl rfl rfl; exact D.move rfl)) <;>
    ((apply XL.det0F rfl rfl rfl rfl; exact D.assign rfl)) <;>
    (refine XL.nil ?_)) <;> (first | refine Ex.then ?_ | (refine N.next ?_ <;> (refine X.text (L := (.op .fin 0 (.op .fin 1 (.op .fin 2 (.op .fin 3 (.op .fin 4 (.op .fin 5 .nil))))))) rfl (by kernel_rfl) ?_ <;>
    ((apply XL.det0F rfl rfl rfl rfl; exact D.move rfl)) <;>
    ((apply XL.det0F rfl rfl rfl rfl; exact D.move rfl)) <;>
    ((apply XL.det0F rfl rfl rfl rfl; exact D.move rfl)) <;>
    (have hkl : k < s.length := (by omega); obtain ⟨b, hb⟩ : ∃ b, s[k]? = some b := (⟨s[k], List.getElem?_eq_getElem hkl⟩); (apply XL.det0F rfl rfl rfl rfl; exact D.idx k rfl rfl rfl hb)) <;>
    ((refine XL.call rfl rfl rfl rfl (fun w hw => byted_spec _ b (cmore_lt _ (cmore_lt _ h0)) w) ?_; rintro v B' ⟨rfl, rfl⟩; refine XL.both ?_); rw [show cbyte (cmore (cmore (4294967295 - x) ((p.take i).flatten)) (s.take k)) b = cmore (cmore (4294967295 - x) ((p.take i).flatten)) (s.take (k + 1)) from (by rw [List.take_add_one, hb, cmore_append]; rfl)]) <;>
    ((apply XL.det0F rfl rfl rfl rfl; exact D.assign rfl)) <;>
    (refine XL.nil ?_))))) <;> (first | refine N.block ?_ | refine Ex.here ?_ | refine Ex.out rfl ?_)) <;> (first | refine Ex.then ?_ | (refine N.next ?_ <;> (refine X.text (L := (.op .fin 0 (.op .fin 1 .nil))) rfl (by kernel_rfl) ?_ <;>
    ((apply XL.det0F rfl rfl rfl rfl; first | exact D.add64 rfl rfl (by omega) | exact D.int rfl rfl rfl)) <;>
    ((apply XL.det0F rfl rfl rfl rfl; exact D.move rfl)) <;>
    (refine XL.nil ?_))))))))))) <;> (first | refine Ex.then ?_ | ((refine N.again ((k + 1)) ?_ ?_ ?_ ?_; (focus (omega)); (focus (first | omega | (dsimp only; omega))); (focus (repeat (first | exact Sub.nil | refine Sub.cons rfl ?_))); exact (fun w h => h.takes))))) <;> (first | refine N.block ?_ | refine Ex.here ?_ | refine Ex.out rfl ?_)))))))) <;> (first | refine N.block ?_ | refine Ex.here ?_ | refine Ex.out rfl ?_)) <;> (first | refine Ex.then ?_ | (refine N.next ?_ <;> (refine X.text (L := (.op .fin 0 (.op .fin 1 .nil))) rfl (by kernel_rfl) ?_ <;>
    (have hke : s.take k = s := (List.take_of_length_le (by omega)); rw [hke, ← cmore_append, show (p.take i).flatten ++ s = (p.take (i + 1)).flatten from (by rw [List.take_add_one, hs]; simp)]; (apply XL.det0F rfl rfl rfl rfl; exact D.add64 rfl rfl (by omega))) <;>
    ((apply XL.det0F rfl rfl rfl rfl; exact D.move rfl)) <;>
    (refine XL.nil ?_))))))))))) <;> (first | refine Ex.then ?_ | ((refine N.again ((i + 1)) ?_ ?_ ?_ ?_; (focus (omega)); (focus (first | omega | (dsimp only; omega))); (focus (repeat (first | exact Sub.nil | refine Sub.cons rfl ?_))); exact (fun w h => h.takes))))) <;> (first | refine N.block ?_ | refine Ex.here ?_ | refine Ex.out rfl ?_))))) <;> (first | refine Ex.then ?_ | (refine N.next ?_ <;> (refine X.seq ?_ <;> (refine X.text (L := (.op .fin 0 (.op .fin 1 (.op .fin 2 .nil)))) rfl (by kernel_rfl) ?_ <;>
    (have hje : p.take i = p := (List.take_of_length_le (by omega)); rw [hje]; (apply XL.det0F rfl rfl rfl rfl; exact D.move rfl)) <;>
    ((apply XL.det0F rfl rfl rfl rfl; exact D.notN rfl rfl (cmore_lt _ h0))) <;>
    ((apply XL.det0F rfl rfl rfl rfl; exact D.assign rfl)) <;>
    (refine XL.nil ?_)) <;> (first | refine Ex.then ?_ | (refine N.next ?_ <;> ((refine X.ret ?_; (repeat (first | refine Rt.then ?_ | refine Rt.block ?_ | refine Rt.scope ?_)); (first | apply Rt.done (Res.r1 Tryz.results70 (RV.tmp rfl)) | apply Rt.doneM (Res.r1 Tryz.results70 (RV.tmp rfl))); (focus (exact ⟨rfl, rfl⟩)); exact fun w h => h.takes))))))))))))))
theorem Sum_spec (w : World) (a : Option Addr) (c : Nat) (p : List Bs) (hp : Rd w 1 a p.length c (encT p)) (hq : ∀ s ∈ p, s.length ≤ 1000000000) : Spec Tryz.prog 32 #[.slice a p.length c] w (fun _ => False) (fun v A => v = .int .u32 ((crc p.flatten : Nat) : Int) ∧ A = []) := by
  refine Spec.enter (args := [.slice a p.length c]) (A := []) Tryz.func32 rfl Tryz.ntmps32 rfl (fun _ h => h) ?_
  (refine X.seq ?_ <;> (refine X.text (L := (.op .fin 0 .nil)) rfl (by kernel_rfl) ?_ <;>
    ((apply XL.det0F rfl rfl rfl rfl; exact D.assign rfl)) <;>
    (refine XL.nil ?_)) <;> (first | refine Ex.then ?_ | (refine N.next ?_ <;> (refine X.seq ?_ <;> (refine X.text (L := (.op .fin 0 (.op .fin 1 (.op .fin 2 .nil)))) rfl (by kernel_rfl) ?_ <;>
    ((apply XL.det0F rfl rfl rfl rfl; exact D.move rfl)) <;>
    ((refine XL.call rfl rfl rfl rfl (fun w hw => More_spec w a c p 0 (by decide) (hp.conf0 hw) hq) ?_; rintro v B' ⟨rfl, rfl⟩; refine XL.both ?_)) <;>
    ((apply XL.det0F rfl rfl rfl rfl; exact D.assign rfl)) <;>
    (refine XL.nil ?_)) <;> (first | refine Ex.then ?_ | (refine N.next ?_ <;> ((refine X.ret ?_; (repeat (first | refine Rt.then ?_ | refine Rt.block ?_ | refine Rt.scope ?_)); (first | apply Rt.done (Res.r1 Tryz.results32 (RV.tmp rfl)) | apply Rt.doneM (Res.r1 Tryz.results32 (RV.tmp rfl))); (focus (exact ⟨rfl, rfl⟩)); exact fun w h => h.takes))))))))
theorem Seal_spec (w : World) (s : Bs) (hs : s.length ≤ 1000000000) : Spec Tryz.prog 64 #[.string ⟨List.toArray s⟩] w (fun _ => False) (fun v A => v = .string ⟨List.toArray (sealS s)⟩ ∧ A = []) := by
  have h0 := crc_lt s
  refine Spec.enter (args := [.string ⟨List.toArray s⟩]) (A := []) Tryz.func64 rfl Tryz.ntmps64 rfl (fun _ h => h) ?_
  (refine X.seq ?_ <;> (refine X.text (L := (.op .fin 0 .nil)) rfl (by kernel_rfl) ?_ <;>
    ((apply XL.det0F rfl rfl rfl rfl; exact D.assign rfl)) <;>
    (refine XL.nil ?_)) <;> (first | refine Ex.then ?_ | (refine N.next ?_ <;> (refine X.seq ?_ <;> (refine X.text (L := (.op .fin 0 (.op .fin 1 (.op .fin 2 (.op .fin 3 .nil))))) rfl (by kernel_rfl) ?_ <;>
    ((apply XL.det0F rfl rfl rfl rfl; exact D.move rfl)) <;>
    ((refine XL.sliceL (fun s : Bs => .string ⟨s.toArray⟩) encT1 [s] (fun _ => rfl) (fun _ => rfl) rfl rfl rfl rfl rfl rfl (fun _ => by infer_instance) (fun g => ?_))) <;>
    ((refine XL.call rfl rfl rfl rfl (fun w hw => Sum_spec w (some ⟨g, 0, none⟩) 1 [s] (hw.rd (a := some ⟨g, 0, none⟩)) (fun t ht => by rw [List.mem_singleton] at ht; subst ht; exact hs)) ?_; rintro v B' ⟨rfl, rfl⟩; refine XL.both ?_); rw [show [s].flatten = s from (by simp)]) <;>
    ((apply XL.det0F rfl rfl rfl rfl; exact D.assign rfl)) <;>
    (refine XL.nil ?_)) <;> (first | refine Ex.then ?_ | (refine N.next ?_ <;> (refine X.seq ?_ <;> (refine X.text (L := (.op .fin 0 (.op .fin 1 (.op .fin 2 (.op .fin 3 (.op .fin 4 (.op .fin 5 (.op .fin 6 (.op .fin 7 (.op .fin 8 (.op .fin 9 (.op .fin 10 (.op .fin 11 (.op .fin 12 (.op .fin 13 (.op .fin 14 (.op .fin 15 .nil))))))))))))))))) rfl (by kernel_rfl) ?_ <;>
    ((apply XL.det0F rfl rfl rfl rfl; exact D.move rfl)) <;>
    ((apply XL.det0F rfl rfl rfl rfl; exact D.move rfl)) <;>
    ((apply XL.det0F rfl rfl rfl rfl; exact D.convN rfl rfl); rw [show ((crc s % 2 ^ IntKind.u8.bits : Nat) : Int) = ((UInt8.ofNat (crc s)).toNat : Int) from rfl]) <;>
    ((apply XL.det0F rfl rfl rfl rfl; exact D.move rfl)) <;>
    ((apply XL.det0F rfl rfl rfl rfl; exact D.shrN (b := 8) rfl rfl (by decide)); rw [show crc s / 2 ^ 8 = crc s / 256 from rfl]) <;>
    ((apply XL.det0F rfl rfl rfl rfl; exact D.convN rfl rfl); rw [show ((crc s / 256 % 2 ^ IntKind.u8.bits : Nat) : Int) = ((UInt8.ofNat (crc s / 256)).toNat : Int) from rfl]) <;>
    ((apply XL.det0F rfl rfl rfl rfl; exact D.move rfl)) <;>
    ((apply XL.det0F rfl rfl rfl rfl; exact D.shrN (b := 16) rfl rfl (by decide)); rw [show crc s / 2 ^ 16 = crc s / 65536 from rfl]) <;>
    ((apply XL.det0F rfl rfl rfl rfl; exact D.convN rfl rfl); rw [show ((crc s / 65536 % 2 ^ IntKind.u8.bits : Nat) : Int) = ((UInt8.ofNat (crc s / 65536)).toNat : Int) from rfl]) <;>
    ((apply XL.det0F rfl rfl rfl rfl; exact D.move rfl)) <;>
    ((apply XL.det0F rfl rfl rfl rfl; exact D.shrN (b := 24) rfl rfl (by decide)); rw [show crc s / 2 ^ 24 = crc s / 16777216 from rfl]) <;>
    ((apply XL.det0F rfl rfl rfl rfl; exact D.convN rfl rfl); rw [show ((crc s / 16777216 % 2 ^ IntKind.u8.bits : Nat) : Int) = ((UInt8.ofNat (crc s / 16777216)).toNat : Int) from rfl]) <;>
    ((refine XL.sliceL (fun b : UInt8 => .int .u8 (b.toNat : Int)) encY1 (four (crc s)) (fun _ => rfl) (fun _ => rfl) rfl rfl rfl rfl rfl rfl (fun _ => by infer_instance) (fun g2 => ?_))) <;>
    ((apply XL.detF rfl rfl rfl rfl; exact D.toStr (four (crc s)) rfl rfl (fun w hw => hw.rd (a := some ⟨g2, 0, none⟩)))) <;>
    ((apply XL.det0F rfl rfl rfl rfl; exact D.cat rfl rfl (by rw [four_len]; omega))) <;>
    ((apply XL.det0F rfl rfl rfl rfl; exact D.assign rfl)) <;>
    (refine XL.nil ?_)) <;> (first | refine Ex.then ?_ | (refine N.next ?_ <;> ((refine X.ret ?_; (repeat (first | refine Rt.then ?_ | refine Rt.block ?_ | refine Rt.scope ?_)); (first | apply Rt.done (Res.r1 Tryz.results64 (RV.tmp rfl)) | apply Rt.doneM (Res.r1 Tryz.results64 (RV.tmp rfl))); (focus (exact ⟨rfl, rfl⟩)); exact fun w h => h.takes)))))))))))
theorem Open_spec (w : World) (s : Bs) (hs : s.length ≤ 1000000000) : Spec Tryz.prog 30 #[.string ⟨List.toArray s⟩] w (fun _ => False) (fun v A => v = .tuple #[.string ⟨List.toArray ((openS s).1)⟩, .int .i64 (openS s).2] ∧ A = []) := by
  refine Spec.enter (args := [.string ⟨List.toArray s⟩]) (A := []) Tryz.func30 rfl Tryz.ntmps30 rfl (fun _ h => h) ?_
  (refine X.seq ?_ <;> (refine X.text (L := (.op .fin 0 (.op .fin 1 .nil))) rfl (by kernel_rfl) ?_ <;>
    ((apply XL.det0F rfl rfl rfl rfl; exact D.assign rfl)) <;>
    ((apply XL.det0F rfl rfl rfl rfl; exact D.assign rfl)) <;>
    (refine XL.nil ?_)) <;> (first | refine Ex.then ?_ | (refine N.next ?_ <;> (refine X.seq ?_ <;> (refine X.seq ?_ <;> (refine X.text (L := (.op .fin 0 (.op .fin 1 (.op .fin 2 .nil)))) rfl (by kernel_rfl) ?_ <;>
    ((apply XL.det0F rfl rfl rfl rfl; exact D.move rfl)) <;>
    ((apply XL.det0F rfl rfl rfl rfl; first | exact D.len rfl | exact D.lenL rfl | exact D.lenS rfl)) <;>
    (first | refine XL.splitF rfl rfl rfl rfl (D.int rfl rfl rfl) (fun h0 => ?_) (fun h0 => ?_)) <;>
    (refine XL.nil ?_)) <;> (first | refine Ex.then ?_ | (refine N.next ?_ <;> ((
    refine X.cond rfl ?_ ?_; rotate_left; (focus (
    intro hc; first | exact absurd hc (by decide) | (cases hc; done) | (refine X.skip ?_))); rotate_right; (focus (
    intro hc; first | exact absurd hc (by decide) | (cases hc; done) | (refine X.seq ?_ <;> (refine X.text (L := (.op .fin 0 (.op .fin 1 .nil))) rfl (by kernel_rfl) ?_ <;>
    ((apply XL.det0F rfl rfl rfl rfl; exact D.assign rfl)) <;>
    ((apply XL.det0F rfl rfl rfl rfl; exact D.assign rfl)) <;>
    (refine XL.nil ?_)) <;> (first | refine Ex.then ?_ | (refine N.next ?_ <;> ((refine X.ret ?_; (repeat (first | refine Rt.then ?_ | refine Rt.block ?_ | refine Rt.scope ?_)); (first | apply Rt.done (Res.r2 Tryz.results30 (RV.tmp rfl) (RV.tmp rfl)) | apply Rt.doneM (Res.r2 Tryz.results30 (RV.tmp rfl) (RV.tmp rfl))); (focus (refine ⟨?_, rfl⟩; have key := (List.take_append_drop (s.length - 4) s); first | (rw [show openS s = ([], 10) from (by unfold openS; rw [if_pos (by omega)])]; done) | (rw [show openS s = ([], 13) from (by unfold openS; rw [if_neg (by omega), if_pos (fun h => h1 (by unfold sealS; rw [h]; exact key))])]; done) | (rw [show openS s = (s.take (s.length - 4), 0) from (by unfold openS; rw [if_neg (by omega), if_neg (fun h => h1 (fun e => h (by unfold sealS at e; have e2 := e.trans key.symm; exact List.append_cancel_left e2)))])]))); exact fun w h => h.takes)))))))))))) <;> (first | refine Ex.then ?_ | (refine N.next ?_ <;> (refine X.seq ?_ <;> (refine X.text (L := (.op .fin 0 (.op .fin 1 (.op .fin 2 (.op .fin 3 (.op .fin 4 (.op .fin 5 .nil))))))) rfl (by kernel_rfl) ?_ <;>
    ((apply XL.det0F rfl rfl rfl rfl; exact D.move rfl)) <;>
    ((apply XL.det0F rfl rfl rfl rfl; exact D.move rfl)) <;>
    ((apply XL.det0F rfl rfl rfl rfl; first | exact D.len rfl | exact D.lenL rfl | exact D.lenS rfl)) <;>
    ((apply XL.det0F rfl rfl rfl rfl; exact D.sub64 rfl rfl (by omega)); rw [show (s.length : Int) - 4 = ((s.length - 4 : Nat) : Int) from (by omega)]) <;>
    ((apply XL.det0F rfl rfl rfl rfl; exact D.cutH rfl rfl (by omega))) <;>
    ((apply XL.det0F rfl rfl rfl rfl; exact D.assign rfl)) <;>
    (refine XL.nil ?_)) <;> (first | refine Ex.then ?_ | (refine N.next ?_ <;> (refine X.seq ?_ <;> (refine X.seq ?_ <;> (refine X.text (L := (.op .fin 0 (.op .fin 1 (.op .fin 2 (.op .fin 3 .nil))))) rfl (by kernel_rfl) ?_ <;>
    ((apply XL.det0F rfl rfl rfl rfl; exact D.move rfl)) <;>
    ((refine XL.call rfl rfl rfl rfl (fun w hw => Seal_spec w _ (by rw [List.length_take]; omega)) ?_; rintro v B' ⟨rfl, rfl⟩; refine XL.both ?_)) <;>
    ((apply XL.det0F rfl rfl rfl rfl; exact D.move rfl)) <;>
    (refine XL.splitF rfl rfl rfl rfl (D.strNe rfl rfl) (fun h1 => ?_) (fun h1 => ?_)) <;>
    (refine XL.nil ?_)) <;> (first | refine Ex.then ?_ | (refine N.next ?_ <;> ((
    refine X.cond rfl ?_ ?_; rotate_left; (focus (
    intro hc; first | exact absurd hc (by decide) | (cases hc; done) | (refine X.skip ?_))); rotate_right; (focus (
    intro hc; first | exact absurd hc (by decide) | (cases hc; done) | (refine X.seq ?_ <;> (refine X.text (L := (.op .fin 0 (.op .fin 1 .nil))) rfl (by kernel_rfl) ?_ <;>
    ((apply XL.det0F rfl rfl rfl rfl; exact D.assign rfl)) <;>
    ((apply XL.det0F rfl rfl rfl rfl; exact D.assign rfl)) <;>
    (refine XL.nil ?_)) <;> (first | refine Ex.then ?_ | (refine N.next ?_ <;> ((refine X.ret ?_; (repeat (first | refine Rt.then ?_ | refine Rt.block ?_ | refine Rt.scope ?_)); (first | apply Rt.done (Res.r2 Tryz.results30 (RV.tmp rfl) (RV.tmp rfl)) | apply Rt.doneM (Res.r2 Tryz.results30 (RV.tmp rfl) (RV.tmp rfl))); (focus (refine ⟨?_, rfl⟩; have key := (List.take_append_drop (s.length - 4) s); first | (rw [show openS s = ([], 10) from (by unfold openS; rw [if_pos (by omega)])]; done) | (rw [show openS s = ([], 13) from (by unfold openS; rw [if_neg (by omega), if_pos (fun h => h1 (by unfold sealS; rw [h]; exact key))])]; done) | (rw [show openS s = (s.take (s.length - 4), 0) from (by unfold openS; rw [if_neg (by omega), if_neg (fun h => h1 (fun e => h (by unfold sealS at e; have e2 := e.trans key.symm; exact List.append_cancel_left e2)))])]))); exact fun w h => h.takes)))))))))))) <;> (first | refine Ex.then ?_ | (refine N.next ?_ <;> (refine X.seq ?_ <;> (refine X.text (L := (.op .fin 0 (.op .fin 1 (.op .fin 2 .nil)))) rfl (by kernel_rfl) ?_ <;>
    ((apply XL.det0F rfl rfl rfl rfl; exact D.move rfl)) <;>
    ((apply XL.det0F rfl rfl rfl rfl; exact D.assign rfl)) <;>
    ((apply XL.det0F rfl rfl rfl rfl; exact D.assign rfl)) <;>
    (refine XL.nil ?_)) <;> (first | refine Ex.then ?_ | (refine N.next ?_ <;> ((refine X.ret ?_; (repeat (first | refine Rt.then ?_ | refine Rt.block ?_ | refine Rt.scope ?_)); (first | apply Rt.done (Res.r2 Tryz.results30 (RV.tmp rfl) (RV.tmp rfl)) | apply Rt.doneM (Res.r2 Tryz.results30 (RV.tmp rfl) (RV.tmp rfl))); (focus (refine ⟨?_, rfl⟩; have key := (List.take_append_drop (s.length - 4) s); first | (rw [show openS s = ([], 10) from (by unfold openS; rw [if_pos (by omega)])]; done) | (rw [show openS s = ([], 13) from (by unfold openS; rw [if_neg (by omega), if_pos (fun h => h1 (by unfold sealS; rw [h]; exact key))])]; done) | (rw [show openS s = (s.take (s.length - 4), 0) from (by unfold openS; rw [if_neg (by omega), if_neg (fun h => h1 (fun e => h (by unfold sealS at e; have e2 := e.trans key.symm; exact List.append_cancel_left e2)))])]))); exact fun w h => h.takes)))))))))))))))))
end Go.Lx
