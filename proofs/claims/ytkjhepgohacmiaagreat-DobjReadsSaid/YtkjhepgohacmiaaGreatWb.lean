/- Package wire's walks: sizes, heads, what is written. -/
import Derived.Test.YtkjhepgohacmiaaGreatTz
import Derived.Test.YtkjhepgohacmiaaGreatXm
import Derived.Test.YtkjhepgohacmiaaGreatWa
namespace Go.Lx
open Go.Proofs
set_option linter.unusedVariables false
set_option linter.unusedSimpArgs false
set_option maxRecDepth 20000
set_option maxHeartbeats 4000000

theorem D.quo64 {C : Cx} {W : World → Prop} {env : Env} {ty t u : TypeId} {pos : String} {af : Array Edge} {gd : Option (Nat × Bool)} {ds : Option Tmp} {x y : Operand} {a b : Nat} (hx : ev env x = some (.int .i64 (a : Int))) (hy : ev env y = some (.int .i64 (b : Int))) (hb : 0 < b ∧ a < 9223372036854775808) : Det C W env ⟨ds, .binOp .quo t x y u, ty, pos, af, gd⟩ (.int .i64 ((a / b : Nat) : Int)) := by
  have := D.quo (C := C) (W := W) (ds := ds) (ty := ty) (pos := pos) (af := af) (gd := gd) (t := t) (u := u) hx hy (by omega)
  have h2 : a / b < 9223372036854775808 := Nat.lt_of_le_of_lt (Nat.div_le_self _ _) hb.2
  rw [Int.tdiv_eq_ediv_of_nonneg (by omega), ← Int.natCast_ediv] at this
  generalize a / b = q at *
  rwa [D.wrap64_fit (by omega)] at this
def tb (m : Nat) : Nat := if m = 0 then 0 else Nat.log2 m + 1
theorem tb_bl (m : Nat) : tb m = bl m := by
  by_cases h : m = 0
  · subst h; rw [bl_zero]; rfl
  · have k : ∀ k, Nat.log2 m + 1 ≤ k ↔ bl m ≤ k := fun k => by
      rw [bl_le]; exact Nat.log2_lt h
    have h1 := (k (bl m)).2 (Nat.le_refl _)
    have h2 := (k (Nat.log2 m + 1)).1 (Nat.le_refl _)
    unfold tb
    rw [if_neg h]; omega
def tab8 : Bs := (List.range 256).map fun m => UInt8.ofNat (tb m)
theorem tab8_at {z : Nat} (h : z < 256) : tab8[z]? = some (UInt8.ofNat (bl z)) := by
  unfold tab8
  rw [List.getElem?_map, List.getElem?_range h, ← tb_bl]; rfl
theorem tab8_val {z : Nat} (h : z < 256) : (UInt8.ofNat (bl z)).toNat = bl z := by
  have := (bl_le 8 z).2 h
  simp; omega
theorem LenU64_spec (x : Nat) (hx : x < 18446744073709551616) (w : World) : Spec Tryz.prog 134 #[.int .u64 x] w (fun _ => False) (fun v A => v = .int .i64 ((bl x : Nat) : Int) ∧ A = []) := by
  refine Spec.enter (args := [.int .u64 x]) (A := []) Tryz.func134 rfl Tryz.ntmps134 rfl (fun _ h => h) ?_
  (refine X.seq ?_ <;> (refine X.text (L := (.op .fin 0 .nil)) rfl (by kernel_rfl) ?_ <;>
    ((apply XL.det0F rfl rfl rfl rfl; exact D.assign rfl)) <;>
    (refine XL.nil ?_)) <;> (first | refine Ex.then ?_ | (refine N.next ?_ <;> (refine X.seq ?_ <;> (refine X.seq ?_ <;> (refine X.text (L := (.op .fin 0 (.op .fin 1 .nil))) rfl (by kernel_rfl) ?_ <;>
    ((apply XL.det0F rfl rfl rfl rfl; exact D.move rfl)) <;>
    (refine XL.splitF rfl rfl rfl rfl (D.int rfl rfl rfl) (fun h1 => ?_) (fun h1 => ?_)) <;>
    (refine XL.nil ?_)) <;> (first | refine Ex.then ?_ | (refine N.next ?_ <;> ((
    refine X.cond rfl ?_ ?_; rotate_left; (focus (
    intro hc; first | exact absurd hc (by decide) | (cases hc; done) | (refine X.skip ?_))); rotate_right; (focus (
    intro hc; first | exact absurd hc (by decide) | (cases hc; done) | (refine X.seq ?_ <;> (refine X.text (L := (.op .fin 0 (.op .fin 1 (.op .fin 2 .nil)))) rfl (by kernel_rfl) ?_ <;>
    ((apply XL.det0F rfl rfl rfl rfl; exact D.move rfl)) <;>
    (have e1 := bl_shift 32 x (by omega); (apply XL.det0F rfl rfl rfl rfl; exact D.shrN (b := 32) rfl rfl (by decide))) <;>
    ((apply XL.det0F rfl rfl rfl rfl; exact D.assign rfl)) <;>
    (refine XL.nil ?_)) <;> (first | refine Ex.then ?_ | (refine N.next ?_ <;> (refine X.text (L := (.op .fin 0 .nil)) rfl (by kernel_rfl) ?_ <;>
    ((apply XL.det0F rfl rfl rfl rfl; exact D.assign rfl)) <;>
    (refine XL.nil ?_)))))))))))) <;> (first | refine Ex.then ?_ | (refine N.next ?_ <;> (refine X.seq ?_ <;> (refine X.seq ?_ <;> (refine X.text (L := (.op .fin 0 (.op .fin 1 .nil))) rfl (by kernel_rfl) ?_ <;>
    ((apply XL.det0F rfl rfl rfl rfl; exact D.move rfl)) <;>
    (refine XL.splitF rfl rfl rfl rfl (D.int rfl rfl rfl) (fun h2 => ?_) (fun h2 => ?_)) <;>
    (refine XL.nil ?_)) <;> (first | refine Ex.then ?_ | (refine N.next ?_ <;> ((
    refine X.cond rfl ?_ ?_; rotate_left; (focus (
    intro hc; first | exact absurd hc (by decide) | (cases hc; done) | (refine X.skip ?_))); rotate_right; (focus (
    intro hc; first | exact absurd hc (by decide) | (cases hc; done) | (refine X.seq ?_ <;> (refine X.text (L := (.op .fin 0 (.op .fin 1 (.op .fin 2 .nil)))) rfl (by kernel_rfl) ?_ <;>
    ((apply XL.det0F rfl rfl rfl rfl; exact D.move rfl)) <;>
    ((first | have e2 := bl_shift 16 (x / 2 ^ 32) (by omega) | have e2 := bl_shift 16 x (by omega)); (apply XL.det0F rfl rfl rfl rfl; exact D.shrN (b := 16) rfl rfl (by decide))) <;>
    ((apply XL.det0F rfl rfl rfl rfl; exact D.assign rfl)) <;>
    (refine XL.nil ?_)) <;> (first | refine Ex.then ?_ | (refine N.next ?_ <;> (refine X.text (L := (.op .fin 0 (.op .fin 1 (.op .fin 2 .nil)))) rfl (by kernel_rfl) ?_ <;>
    ((apply XL.det0F rfl rfl rfl rfl; exact D.move rfl)) <;>
    ((apply XL.det0F rfl rfl rfl rfl; first | exact D.add64 rfl rfl (by omega) | exact D.int rfl rfl rfl)) <;>
    ((apply XL.det0F rfl rfl rfl rfl; exact D.assign rfl)) <;>
    (refine XL.nil ?_)))))))))))) <;> (first | refine Ex.then ?_ | (refine N.next ?_ <;> (refine X.seq ?_ <;> (refine X.seq ?_ <;> (refine X.text (L := (.op .fin 0 (.op .fin 1 .nil))) rfl (by kernel_rfl) ?_ <;>
    ((apply XL.det0F rfl rfl rfl rfl; exact D.move rfl)) <;>
    (refine XL.splitF rfl rfl rfl rfl (D.int rfl rfl rfl) (fun h3 => ?_) (fun h3 => ?_)) <;>
    (refine XL.nil ?_)) <;> (first | refine Ex.then ?_ | (refine N.next ?_ <;> ((
    refine X.cond rfl ?_ ?_; rotate_left; (focus (
    intro hc; first | exact absurd hc (by decide) | (cases hc; done) | (refine X.skip ?_))); rotate_right; (focus (
    intro hc; first | exact absurd hc (by decide) | (cases hc; done) | (refine X.seq ?_ <;> (refine X.text (L := (.op .fin 0 (.op .fin 1 (.op .fin 2 .nil)))) rfl (by kernel_rfl) ?_ <;>
    ((apply XL.det0F rfl rfl rfl rfl; exact D.move rfl)) <;>
    ((first | have e3 := bl_shift 8 (x / 2 ^ 32 / 2 ^ 16) (by omega) | have e3 := bl_shift 8 (x / 2 ^ 32) (by omega) | have e3 := bl_shift 8 (x / 2 ^ 16) (by omega) | have e3 := bl_shift 8 x (by omega)); (apply XL.det0F rfl rfl rfl rfl; exact D.shrN (b := 8) rfl rfl (by decide))) <;>
    ((apply XL.det0F rfl rfl rfl rfl; exact D.assign rfl)) <;>
    (refine XL.nil ?_)) <;> (first | refine Ex.then ?_ | (refine N.next ?_ <;> (refine X.text (L := (.op .fin 0 (.op .fin 1 (.op .fin 2 .nil)))) rfl (by kernel_rfl) ?_ <;>
    ((apply XL.det0F rfl rfl rfl rfl; exact D.move rfl)) <;>
    ((apply XL.det0F rfl rfl rfl rfl; first | exact D.add64 rfl rfl (by omega) | exact D.int rfl rfl rfl)) <;>
    ((apply XL.det0F rfl rfl rfl rfl; exact D.assign rfl)) <;>
    (refine XL.nil ?_)))))))))))) <;> (first | refine Ex.then ?_ | (refine N.next ?_ <;> (refine X.seq ?_ <;> (refine X.text (L := (.op .fin 0 (.op .fin 1 (.op .fin 2 (.op .fin 3 (.op .fin 4 (.op .fin 5 (.op .fin 6 .nil)))))))) rfl (by kernel_rfl) ?_ <;>
    ((first | (obtain ⟨z, hz, hb, hl⟩ : ∃ z, x / 2 ^ 32 / 2 ^ 16 / 2 ^ 8 = z ∧ bl x = bl z + 56 ∧ z < 256 := ⟨_, rfl, by omega, by omega⟩; rw [hz]; have h8 := (bl_le 8 z).2 hl) | (obtain ⟨z, hz, hb, hl⟩ : ∃ z, x / 2 ^ 32 / 2 ^ 16 = z ∧ bl x = bl z + 48 ∧ z < 256 := ⟨_, rfl, by omega, by omega⟩; rw [hz]; have h8 := (bl_le 8 z).2 hl) | (obtain ⟨z, hz, hb, hl⟩ : ∃ z, x / 2 ^ 32 / 2 ^ 8 = z ∧ bl x = bl z + 40 ∧ z < 256 := ⟨_, rfl, by omega, by omega⟩; rw [hz]; have h8 := (bl_le 8 z).2 hl) | (obtain ⟨z, hz, hb, hl⟩ : ∃ z, x / 2 ^ 32 = z ∧ bl x = bl z + 32 ∧ z < 256 := ⟨_, rfl, by omega, by omega⟩; rw [hz]; have h8 := (bl_le 8 z).2 hl) | (obtain ⟨z, hz, hb, hl⟩ : ∃ z, x / 2 ^ 16 / 2 ^ 8 = z ∧ bl x = bl z + 24 ∧ z < 256 := ⟨_, rfl, by omega, by omega⟩; rw [hz]; have h8 := (bl_le 8 z).2 hl) | (obtain ⟨z, hz, hb, hl⟩ : ∃ z, x / 2 ^ 16 = z ∧ bl x = bl z + 16 ∧ z < 256 := ⟨_, rfl, by omega, by omega⟩; rw [hz]; have h8 := (bl_le 8 z).2 hl) | (obtain ⟨z, hz, hb, hl⟩ : ∃ z, x / 2 ^ 8 = z ∧ bl x = bl z + 8 ∧ z < 256 := ⟨_, rfl, by omega, by omega⟩; rw [hz]; have h8 := (bl_le 8 z).2 hl) | (have hl : x < 256 := (by omega); have h8 := (bl_le 8 x).2 hl)); (apply XL.det0F rfl rfl rfl rfl; exact D.move rfl)) <;>
    ((apply XL.det0F rfl rfl rfl rfl; exact D.move rfl)) <;>
    ((apply XL.det0F rfl rfl rfl rfl; exact D.convN rfl rfl); rw [Nat.mod_eq_of_lt (show _ < 2 ^ IntKind.u8.bits from hl)]) <;>
    ((apply XL.det0F rfl rfl rfl rfl; exact D.idx _ (l := tab8) (by kernel_rfl) rfl rfl (tab8_at hl)); rw [tab8_val hl]) <;>
    ((apply XL.det0F rfl rfl rfl rfl; exact D.conv64 rfl (by omega))) <;>
    ((apply XL.det0F rfl rfl rfl rfl; exact D.add64 rfl rfl (by omega))) <;>
    ((apply XL.det0F rfl rfl rfl rfl; exact D.assign rfl)) <;>
    (refine XL.nil ?_)) <;> (first | refine Ex.then ?_ | (refine N.next ?_ <;> ((refine X.ret ?_; (repeat (first | refine Rt.then ?_ | refine Rt.block ?_ | refine Rt.scope ?_)); (first | apply Rt.done (Res.r1 Tryz.results134 (RV.tmp rfl)) | apply Rt.doneM (Res.r1 Tryz.results134 (RV.tmp rfl))); (focus (refine ⟨congrArg (Value.int IntKind.i64) ?_, rfl⟩; omega)); exact fun w h => h.takes)))))))))))))))))
theorem Len8_spec (x : Nat) (hx : x < 256) (w : World) : Spec Tryz.prog 133 #[.int .u8 x] w (fun _ => False) (fun v A => v = .int .i64 ((bl x : Nat) : Int) ∧ A = []) := by
  have h8 := (bl_le 8 x).2 hx
  refine Spec.enter (args := [.int .u8 x]) (A := []) Tryz.func133 rfl Tryz.ntmps133 rfl (fun _ h => h) ?_
  (refine X.seq ?_ <;> (refine X.text (L := (.op .fin 0 .nil)) rfl (by kernel_rfl) ?_ <;>
    ((apply XL.det0F rfl rfl rfl rfl; exact D.assign rfl)) <;>
    (refine XL.nil ?_)) <;> (first | refine Ex.then ?_ | (refine N.next ?_ <;> (refine X.seq ?_ <;> (refine X.text (L := (.op .fin 0 (.op .fin 1 (.op .fin 2 (.op .fin 3 .nil))))) rfl (by kernel_rfl) ?_ <;>
    ((apply XL.det0F rfl rfl rfl rfl; exact D.move rfl)) <;>
    ((apply XL.det0F rfl rfl rfl rfl; exact D.idx _ (l := tab8) (by kernel_rfl) rfl rfl (tab8_at hx)); rw [tab8_val hx]) <;>
    ((apply XL.det0F rfl rfl rfl rfl; exact D.conv64 rfl (by omega))) <;>
    ((apply XL.det0F rfl rfl rfl rfl; exact D.assign rfl)) <;>
    (refine XL.nil ?_)) <;> (first | refine Ex.then ?_ | (refine N.next ?_ <;> ((refine X.ret ?_; (repeat (first | refine Rt.then ?_ | refine Rt.block ?_ | refine Rt.scope ?_)); (first | apply Rt.done (Res.r1 Tryz.results133 (RV.tmp rfl)) | apply Rt.doneM (Res.r1 Tryz.results133 (RV.tmp rfl))); (focus (exact ⟨rfl, rfl⟩)); exact fun w h => h.takes))))))))
theorem Lead8_spec (x : Nat) (hx : x < 256) (w : World) : Spec Tryz.prog 120 #[.int .u8 x] w (fun _ => False) (fun v A => v = .int .i64 ((8 - bl x : Nat) : Int) ∧ A = []) := by
  have h8 := (bl_le 8 x).2 hx
  refine Spec.enter (args := [.int .u8 x]) (A := []) Tryz.func120 rfl Tryz.ntmps120 rfl (fun _ h => h) ?_
  (refine X.seq ?_ <;> (refine X.text (L := (.op .fin 0 .nil)) rfl (by kernel_rfl) ?_ <;>
    ((apply XL.det0F rfl rfl rfl rfl; exact D.assign rfl)) <;>
    (refine XL.nil ?_)) <;> (first | refine Ex.then ?_ | (refine N.next ?_ <;> (refine X.seq ?_ <;> (refine X.text (L := (.op .fin 0 (.op .fin 1 (.op .fin 2 (.op .fin 3 .nil))))) rfl (by kernel_rfl) ?_ <;>
    ((apply XL.det0F rfl rfl rfl rfl; exact D.move rfl)) <;>
    ((refine XL.call rfl rfl rfl rfl (fun w hw => Len8_spec x hx w) ?_; rintro v B' ⟨rfl, rfl⟩; refine XL.both ?_)) <;>
    ((apply XL.det0F rfl rfl rfl rfl; exact D.sub64 rfl rfl (by omega)); rw [show 8 - ((bl x : Nat) : Int) = ((8 - bl x : Nat) : Int) from (by omega)]) <;>
    ((apply XL.det0F rfl rfl rfl rfl; exact D.assign rfl)) <;>
    (refine XL.nil ?_)) <;> (first | refine Ex.then ?_ | (refine N.next ?_ <;> ((refine X.ret ?_; (repeat (first | refine Rt.then ?_ | refine Rt.block ?_ | refine Rt.scope ?_)); (first | apply Rt.done (Res.r1 Tryz.results120 (RV.tmp rfl)) | apply Rt.doneM (Res.r1 Tryz.results120 (RV.tmp rfl))); (focus (exact ⟨rfl, rfl⟩)); exact fun w h => h.takes))))))))
theorem Size_spec (x : Nat) (hx : x < 18446744073709551616) (w : World) : Spec Tryz.prog 122 #[.int .u64 x] w (fun _ => False) (fun v A => v = .int .i64 ((vsz x : Nat) : Int) ∧ A = []) := by
  have h8 := (bl_le 64 x).2 hx
  refine Spec.enter (args := [.int .u64 x]) (A := []) Tryz.func122 rfl Tryz.ntmps122 rfl (fun _ h => h) ?_
  (refine X.seq ?_ <;> (refine X.text (L := (.op .fin 0 .nil)) rfl (by kernel_rfl) ?_ <;>
    ((apply XL.det0F rfl rfl rfl rfl; exact D.assign rfl)) <;>
    (refine XL.nil ?_)) <;> (first | refine Ex.then ?_ | (refine N.next ?_ <;> (refine X.seq ?_ <;> (refine X.text (L := (.op .fin 0 (.op .fin 1 (.op .fin 2 (.op .fin 3 (.op .fin 4 (.op .fin 5 (.op .fin 6 (.op .fin 7 .nil))))))))) rfl (by kernel_rfl) ?_ <;>
    ((apply XL.det0F rfl rfl rfl rfl; exact D.move rfl)) <;>
    ((refine XL.call rfl rfl rfl rfl (fun w hw => LenU64_spec x hx w) ?_; rintro v B' ⟨rfl, rfl⟩; refine XL.both ?_)) <;>
    ((apply XL.det0F rfl rfl rfl rfl; exact D.add64 rfl rfl (by omega))) <;>
    ((apply XL.det0F rfl rfl rfl rfl; exact D.sub64 rfl rfl (by omega)); rw [show ((bl x : Nat) : Int) + 7 - 1 = ((bl x + 6 : Nat) : Int) from (by omega)]) <;>
    ((apply XL.det0F rfl rfl rfl rfl; exact D.quo64 (b := 7) rfl rfl ⟨by decide, by omega⟩)) <;>
    ((apply XL.det0F rfl rfl rfl rfl; exact D.max2 rfl rfl)) <;>
    ((apply XL.det0F rfl rfl rfl rfl; exact D.min2 rfl rfl)) <;>
    ((apply XL.det0F rfl rfl rfl rfl; exact D.assign rfl)) <;>
    (refine XL.nil ?_)) <;> (first | refine Ex.then ?_ | (refine N.next ?_ <;> ((refine X.ret ?_; (repeat (first | refine Rt.then ?_ | refine Rt.block ?_ | refine Rt.scope ?_)); (first | apply Rt.done (Res.r1 Tryz.results122 (RV.tmp rfl)) | apply Rt.doneM (Res.r1 Tryz.results122 (RV.tmp rfl))); (focus (refine ⟨congrArg (Value.int IntKind.i64) ?_, rfl⟩; unfold vsz; omega)); exact fun w h => h.takes))))))))
theorem head_spec (n : Nat) (hn : 1 ≤ n ∧ n ≤ 9) (w : World) : Spec Tryz.prog 121 #[.int .i64 n] w (fun _ => False) (fun v A => v = .int .u8 ((hd n : Nat) : Int) ∧ A = []) := by
  refine Spec.enter (args := [.int .i64 n]) (A := []) Tryz.func121 rfl Tryz.ntmps121 rfl (fun _ h => h) ?_
  (refine X.seq ?_ <;> (refine X.text (L := (.op .fin 0 .nil)) rfl (by kernel_rfl) ?_ <;>
    ((apply XL.det0F rfl rfl rfl rfl; exact D.assign rfl)) <;>
    (refine XL.nil ?_)) <;> (first | refine Ex.then ?_ | (refine N.next ?_ <;> (refine X.seq ?_ <;> (refine X.text (L := (.op .fin 0 (.op .fin 1 (.op .fin 2 (.op .fin 3 (.op .fin 4 (.op .fin 5 .nil))))))) rfl (by kernel_rfl) ?_ <;>
    ((apply XL.det0F rfl rfl rfl rfl; exact D.move rfl)) <;>
    ((apply XL.det0F rfl rfl rfl rfl; exact D.sub64 rfl rfl (by omega)); rw [show (n : Int) - 1 = ((n - 1 : Nat) : Int) from (by omega)]) <;>
    ((apply XL.det0F rfl rfl rfl rfl; exact D.convN rfl rfl); rw [Nat.mod_eq_of_lt (show n - 1 < 2 ^ IntKind.u64.bits from Nat.lt_of_le_of_lt (show n - 1 ≤ 8 by omega) (by decide))]) <;>
    ((apply XL.det0F rfl rfl rfl rfl; exact D.shrN (a := 255) rfl rfl (show n - 1 ≤ 8 by omega))) <;>
    ((apply XL.det0F rfl rfl rfl rfl; exact D.notN rfl rfl (Nat.lt_of_le_of_lt (Nat.div_le_self _ _) (by decide)))) <;>
    ((apply XL.det0F rfl rfl rfl rfl; exact D.assign rfl)) <;>
    (refine XL.nil ?_)) <;> (first | refine Ex.then ?_ | (refine N.next ?_ <;> ((refine X.ret ?_; (repeat (first | refine Rt.then ?_ | refine Rt.block ?_ | refine Rt.scope ?_)); (first | apply Rt.done (Res.r1 Tryz.results121 (RV.tmp rfl)) | apply Rt.doneM (Res.r1 Tryz.results121 (RV.tmp rfl))); (focus (exact ⟨rfl, rfl⟩)); exact fun w h => h.takes))))))))
theorem put_spec (w : World) (H : Nat → Prop) (g : Nat) (a : Option Addr) (c : Nat) (l : Bs) (x n : Nat) (hown : Sep [cells g [.slice a (List.length l) c] 148, own 5 1 (.slice a (List.length l) c) (List.length l) (encY l)] w H) (hn : n ≤ 8) (hbd : l.length ≤ 1000000000) : Spec Tryz.prog 115 #[.pointer (some ⟨g, 0, none⟩), .int .u64 x, .int .i64 n] w H (fun v A => ∃ a' c' o, v = .tuple #[] ∧ o = l ++ fixB x n ∧ A = [cells g [.slice a' (List.length o) c'] 148, own 5 1 (.slice a' (List.length o) c') (List.length o) (encY o)]) := by
  refine Spec.enter (args := [.pointer (some ⟨g, 0, none⟩), .int .u64 x, .int .i64 n]) (A := [cells g [.slice a (List.length l) c] 148, own 5 1 (.slice a (List.length l) c) (List.length l) (encY l)]) Tryz.func115 rfl Tryz.ntmps115 rfl hown ?_
  (refine X.seq ?_ <;> (refine X.text (L := (.op .fin 0 (.op .fin 1 (.op .fin 2 .nil)))) rfl (by kernel_rfl) ?_ <;>
    ((apply XL.det0F rfl rfl rfl rfl; exact D.move rfl)) <;>
    ((apply XL.det0F rfl rfl rfl rfl; first | exact D.sub64 rfl rfl (by omega) | exact D.int rfl rfl rfl)) <;>
    ((apply XL.det0F rfl rfl rfl rfl; exact D.assign rfl)) <;>
    (refine XL.nil ?_)) <;> (first | refine Ex.then ?_ | (refine N.next ?_ <;> (refine X.block ?_ <;> ((refine X.loop (ι := Nat × Option Addr × Nat × Bs) (fun y => [(0, .pointer (some ⟨g, 0, none⟩)), (1, .int .u64 x), (6, .int .i64 ((y.1 : Int) - 1))]) (fun y => [cells g [.slice y.2.1 (List.length y.2.2.2) y.2.2.1] 148, own 5 1 (.slice y.2.1 (List.length y.2.2.2) y.2.2.1) (List.length y.2.2.2) (encY y.2.2.2)]) (fun y => y.1 ≤ n ∧ y.2.2.2 ++ fixB x y.1 = l ++ fixB x n) (fun y => y.1) ((n, a, c, l)) ?_ ?_ ?_ ?_; (focus (exact ⟨Nat.le_refl _, rfl⟩)); (focus (repeat (first | exact Sub.nil | refine Sub.cons rfl ?_))); (focus (exact (fun w h => h.takes))); rintro ⟨r, a1, c1, o⟩ ⟨hr, ho⟩; (dsimp only at *; have hol : o.length ≤ 1000000008 := (by have := congrArg List.length ho; simp [fixB_len] at this; omega))) <;> (refine X.seq ?_ <;> (refine X.seq ?_ <;> (refine X.text (L := (.op .fin 0 (.op .fin 1 .nil))) rfl (by kernel_rfl) ?_ <;>
    ((apply XL.det0F rfl rfl rfl rfl; exact D.move rfl)) <;>
    (first | refine XL.splitF rfl rfl rfl rfl (D.int rfl rfl rfl) (fun h1 => ?_) (fun h1 => ?_)) <;>
    (refine XL.nil ?_)) <;> (first | refine Ex.then ?_ | (refine N.next ?_ <;> ((
    refine X.cond rfl ?_ ?_; rotate_left; (focus (
    intro hc; first | exact absurd hc (by decide) | (cases hc; done) | (refine X.exit ?_))); rotate_right; (focus (
    intro hc; first | exact absurd hc (by decide) | (cases hc; done) | (refine X.skip ?_)))))))) <;> (first | refine Ex.then ?_ | (refine N.next ?_ <;> (refine X.seq ?_ <;> (refine X.block ?_ <;> (refine X.text (L := (.op .fin 0 (.op .fin 1 (.op .fin 2 (.op .fin 3 (.op .fin 4 (.op .fin 5 (.op .fin 6 (.op .fin 7 (.op .fin 8 (.op .fin 9 (.op .fin 10 (.op .fin 11 (.op .fin 12 (.op .fin 13 (.op .fin 14 (.op .fin 15 .nil))))))))))))))))) rfl (by kernel_rfl) ?_ <;>
    ((apply XL.det0F rfl rfl rfl rfl; exact D.move rfl)) <;>
    ((apply XL.det0F rfl rfl rfl rfl; exact D.move rfl)) <;>
    ((apply XL.det0F rfl rfl rfl rfl; exact D.nilCheck rfl)) <;>
    ((apply XL.det0F rfl rfl rfl rfl; first | exact D.fieldAddrB0 rfl rfl | exact D.fieldAddrB rfl rfl | exact D.fieldAddrE0 rfl rfl | exact D.fieldAddrE rfl rfl)) <;>
    ((apply XL.detF rfl rfl rfl rfl; first | exact D.load1 rfl (fun w h => h.cellAt (Loc.at_) rfl) | exact D.loadN rfl rfl (fun w h j u hu => by rw [at_add, Nat.zero_add]; exact h.cellAt (Loc.at_) hu) | exact D.loadP rfl rfl)) <;>
    ((apply XL.det0F rfl rfl rfl rfl; exact D.move rfl)) <;>
    ((apply XL.det0F rfl rfl rfl rfl; exact D.move rfl)) <;>
    (obtain ⟨r', rfl⟩ : ∃ r', r = r' + 1 := (⟨r - 1, by omega⟩); (apply XL.det0F rfl rfl rfl rfl; exact D.mul64 rfl rfl (by omega)); rw [show (8 : Int) * (((r' + 1 : Nat) : Int) - 1) = ((8 * r' : Nat) : Int) from (by omega)]) <;>
    ((apply XL.det0F rfl rfl rfl rfl; exact D.convN rfl rfl); rw [Nat.mod_eq_of_lt (show 8 * r' < 2 ^ IntKind.u64.bits from Nat.lt_of_le_of_lt (show 8 * r' ≤ 64 by omega) (by decide))]) <;>
    ((apply XL.det0F rfl rfl rfl rfl; exact D.shrN rfl rfl (show 8 * r' ≤ 64 by omega)); rw [show x / 2 ^ (8 * r') = x / 256 ^ r' from (by rw [Nat.pow_mul])]) <;>
    ((apply XL.det0F rfl rfl rfl rfl; exact D.convN rfl rfl); rw [show ((x / 256 ^ r' % 2 ^ IntKind.u8.bits : Nat) : Int) = ((UInt8.ofNat (x / 256 ^ r')).toNat : Int) from rfl]) <;>
    (refine XL.slice1 rfl rfl rfl rfl rfl rfl (by intro g; infer_instance) (fun g_ => ?_)) <;>
    ((refine XL.append rfl rfl rfl rfl rfl rfl ?_ ?_ (fun a' c' => ?_); (focus (skip; unfold maxLen; omega)); (focus (intro _ _; infer_instance))); rw [encY_snoc o, show o.length + 1 = (o ++ [UInt8.ofNat (x / 256 ^ r')]).length from (by simp)]) <;>
    ((apply XL.det0F rfl rfl rfl rfl; exact D.nilCheck rfl)) <;>
    ((apply XL.det0F rfl rfl rfl rfl; first | exact D.fieldAddrB0 rfl rfl | exact D.fieldAddrB rfl rfl | exact D.fieldAddrE0 rfl rfl | exact D.fieldAddrE rfl rfl)) <;>
    (first | refine XL.store1 rfl rfl rfl rfl rfl ?_ | refine XL.storeN rfl rfl rfl rfl rfl rfl ?_ | refine XL.storeP rfl rfl rfl rfl rfl rfl ?_) <;>
    (refine XL.nil ?_)) <;> (first | refine N.block ?_ | refine Ex.here ?_ | refine Ex.out rfl ?_)) <;> (first | refine Ex.then ?_ | (refine N.next ?_ <;> (refine X.text (L := (.op .fin 0 (.op .fin 1 (.op .fin 2 .nil)))) rfl (by kernel_rfl) ?_ <;>
    ((apply XL.det0F rfl rfl rfl rfl; exact D.move rfl)) <;>
    ((apply XL.det0F rfl rfl rfl rfl; exact D.sub64 rfl rfl (by omega)); rw [show (((r' + 1 : Nat) : Int) - 1) - 1 = ((r' : Nat) : Int) - 1 from (by omega)]) <;>
    ((apply XL.det0F rfl rfl rfl rfl; exact D.assign rfl)) <;>
    (refine XL.nil ?_)))))))) <;> (first | refine Ex.then ?_ | ((refine N.again ((r', a', c', o ++ [UInt8.ofNat (x / 256 ^ r')])) ?_ ?_ ?_ ?_; (focus (exact ⟨by dsimp only; omega, by dsimp only; rw [← ho]; simp [fixB]⟩)); (focus (first | omega | (dsimp only; omega))); (focus (repeat (first | exact Sub.nil | refine Sub.cons rfl ?_))); exact (fun w h => h.takes))))) <;> (first | refine N.block ?_ | refine Ex.here ?_ | refine Ex.out rfl ?_))))) <;> ((repeat (first | refine Rt.then ?_ | refine Rt.block ?_ | refine Rt.scope ?_)); (first | apply N.done (Res.r0 Tryz.results115 ) | apply N.doneM (Res.r0 Tryz.results115 )); (focus (obtain rfl : r = 0 := (by omega); have ho' : o = l ++ fixB x n := (by rw [← ho]; simp [fixB]); exact ⟨a1, c1, o, rfl, ho', rfl⟩)); exact fun w h => h.takes)
end Go.Lx
