/- Texts Wa Wb Wd, merged: a claim has at most 60 files. -/
import Derived.Test.YtakoppmiegjjlaaGreatDoorM4
import Derived.Test.YtakoppmiegjjlaaGreatDoorM5
/- Numbers in few bytes: plain laws. -/
namespace Go.Lx
set_option linter.unusedVariables false
set_option linter.unusedSimpArgs false

/-- How many bits a number needs. -/
def bl (x : Nat) : Nat := if h : x = 0 then 0 else bl (x / 2) + 1
termination_by x
decreasing_by omega
theorem bl_zero : bl 0 = 0 := by unfold bl; rfl
theorem bl_pos {x : Nat} (h : x ≠ 0) : bl x = bl (x / 2) + 1 := by rw [bl, dif_neg h]
theorem bl_le : ∀ (k x : Nat), bl x ≤ k ↔ x < 2 ^ k
  | 0, x => by
    by_cases h : x = 0
    · subst h; simp [bl_zero]
    · rw [bl_pos h]; simp; exact h
  | k + 1, x => by
    by_cases h : x = 0
    · subst h; rw [bl_zero]; simp [Nat.pow_pos]
    · rw [bl_pos h, Nat.pow_succ]
      have := bl_le k (x / 2)
      omega
theorem bl_shift : ∀ (k x : Nat), 2 ^ k ≤ x → bl x = bl (x / 2 ^ k) + k
  | 0, x, _ => by simp
  | k + 1, x, h => by
    have hp : 0 < 2 ^ k := Nat.pow_pos (by decide)
    rw [Nat.pow_succ] at h
    rw [bl_pos (by omega), bl_shift k (x / 2) (by omega), Nat.div_div_eq_div_mul, Nat.pow_succ, Nat.mul_comm 2]
    omega
/-- How many bytes a number needs. -/
def vsz (x : Nat) : Nat := min (max ((bl x + 6) / 7) 1) 9
theorem vsz_le {x n : Nat} (h1 : 1 ≤ n) (h9 : n < 9) : vsz x ≤ n ↔ x < 128 ^ n := by
  have e : (128 : Nat) ^ n = 2 ^ (7 * n) := by rw [Nat.pow_mul]
  rw [e, ← bl_le]
  unfold vsz
  omega
theorem vsz_bd (x : Nat) : 1 ≤ vsz x ∧ vsz x ≤ 9 := by unfold vsz; omega
/-- The first byte's bits that tell how many there are. -/
def hd (n : Nat) : Nat := 255 - 255 / 2 ^ (n - 1)
def fixB (x : Nat) : Nat → Bs
  | 0 => []
  | n + 1 => UInt8.ofNat (x / 256 ^ n) :: fixB x n
theorem fixB_len (x : Nat) : ∀ n, (fixB x n).length = n
  | 0 => rfl
  | n + 1 => by simp [fixB, fixB_len x n]
def varB (x : Nat) : Bs := UInt8.ofNat (hd (vsz x) + x / 256 ^ (vsz x - 1)) :: fixB x (vsz x - 1)
theorem varB_len (x : Nat) : (varB x).length = vsz x := by
  have := vsz_bd x
  simp [varB, fixB_len]; omega
def numS (x0 : Nat) (l : Bs) : Nat := l.foldl (fun x b => 256 * x + b.toNat) x0
def num (l : Bs) : Nat := numS 0 l
/-- How many bytes the first byte tells. -/
def wid (b : UInt8) : Nat := 9 - bl (255 - b.toNat)
theorem wid_of {b : UInt8} {n : Nat} (hn : 1 ≤ n ∧ n ≤ 8) (h1 : hd n ≤ b.toNat) (h2 : b.toNat < hd n + 2 ^ (8 - n)) : wid b = n := by
  have hb := b.toNat_lt
  have k1 := bl_le (9 - n) (255 - b.toNat)
  have k2 := bl_le (8 - n) (255 - b.toNat)
  unfold wid
  have e : n = 1 ∨ n = 2 ∨ n = 3 ∨ n = 4 ∨ n = 5 ∨ n = 6 ∨ n = 7 ∨ n = 8 := by omega
  rcases e with rfl | rfl | rfl | rfl | rfl | rfl | rfl | rfl <;> simp [hd] at * <;> omega
theorem wid_255 {b : UInt8} (h : b.toNat = 255) : wid b = 9 := by unfold wid; rw [h]; rw [bl_zero]
theorem hd_le (n : Nat) (h : 1 ≤ n ∧ n ≤ 9) : hd n + 2 ^ (8 - n) ≤ 256 := by
  have e : n = 1 ∨ n = 2 ∨ n = 3 ∨ n = 4 ∨ n = 5 ∨ n = 6 ∨ n = 7 ∨ n = 8 ∨ n = 9 := by omega
  rcases e with rfl | rfl | rfl | rfl | rfl | rfl | rfl | rfl | rfl <;> decide
/-- The high byte of a number has room for what tells how many there are. -/
theorem top_lt {x n : Nat} (hn : 1 ≤ n ∧ n ≤ 8) (h : x < 128 ^ n) : x / 256 ^ (n - 1) < 2 ^ (8 - n) := by
  rw [Nat.div_lt_iff_lt_mul (Nat.pow_pos (by decide))]
  have e : (2 : Nat) ^ (8 - n) * 256 ^ (n - 1) = 128 ^ n := by
    have e2 : n = 1 ∨ n = 2 ∨ n = 3 ∨ n = 4 ∨ n = 5 ∨ n = 6 ∨ n = 7 ∨ n = 8 := by omega
    rcases e2 with rfl | rfl | rfl | rfl | rfl | rfl | rfl | rfl <;> decide
  rw [e]; exact h
theorem varB_top {x : Nat} (hx : x < 18446744073709551616) : (vsz x = 9 ∧ x / 256 ^ (vsz x - 1) = 0) ∨ (vsz x ≤ 8 ∧ x / 256 ^ (vsz x - 1) < 2 ^ (8 - vsz x)) := by
  have hb := vsz_bd x
  by_cases h : vsz x = 9
  · refine .inl ⟨h, ?_⟩
    rw [h]
    exact Nat.div_eq_of_lt hx
  · refine .inr ⟨by omega, top_lt ⟨hb.1, by omega⟩ ((vsz_le hb.1 (by omega)).1 (Nat.le_refl _))⟩
theorem varB_first {x : Nat} (hx : x < 18446744073709551616) : (UInt8.ofNat (hd (vsz x) + x / 256 ^ (vsz x - 1))).toNat = hd (vsz x) + x / 256 ^ (vsz x - 1) ∧ wid (UInt8.ofNat (hd (vsz x) + x / 256 ^ (vsz x - 1))) = vsz x := by
  have hb := vsz_bd x
  have hh := hd_le (vsz x) hb
  rcases varB_top hx with ⟨h9, h0⟩ | ⟨h8, ht⟩
  · rw [h0, h9]
    exact ⟨by decide, wid_255 (by decide)⟩
  · have e : (UInt8.ofNat (hd (vsz x) + x / 256 ^ (vsz x - 1))).toNat = hd (vsz x) + x / 256 ^ (vsz x - 1) := by
      generalize x / 256 ^ (vsz x - 1) = q at *
      simp; omega
    exact ⟨e, wid_of ⟨hb.1, h8⟩ (by rw [e]; exact Nat.le_add_right _ _) (by rw [e]; exact Nat.add_lt_add_left ht _)⟩
end Go.Lx

/- Package wire's walks: sizes, heads, what is written. -/
namespace Go.Lx
open Go.Proofs
set_option linter.unusedVariables false
set_option linter.unusedSimpArgs false
set_option maxRecDepth 20000
set_option maxHeartbeats 4000000

theorem D.quo64 {C : Cx} {W : World → Prop} {env : Env} {ty t u : TypeId} {pos : String} {af : Array Edge} {gd : Option (Nat × Bool)} {ds : Option Tmp} {x y : Operand} {a b : Nat} (hx : ev env x = some (.int .i64 (a : Int))) (hy : ev env y = some (.int .i64 (b : Int))) (hb : 0 < b ∧ a < 9223372036854775808) : Det C W env ⟨ds, .binOp .quo t x y u, ty, pos, af, gd⟩ (.int .i64 ((a / b : Nat) : Int)) := by
  have := D.quo (C := C) (W := W) (ds := ds) (ty := ty) (pos := pos) (af := af) (gd := gd) (t := t) (u := u) hx hy (by omega)
  have h2 : a / b < 9223372036854775808 := Nat.lt_of_le_of_lt (Nat.div_le_self _ _) hb.2
  rw [Int.tdiv_eq_ediv_of_nonneg (by omega), ← Int.natCast_ediv] at this
  generalize a / b = q at *
  rwa [D.wrap64_fit (by omega)] at this
def tb (m : Nat) : Nat := if m = 0 then 0 else Nat.log2 m + 1
theorem tb_bl (m : Nat) : tb m = bl m := by
  by_cases h : m = 0
  · subst h; rw [bl_zero]; rfl
  · have k : ∀ k, Nat.log2 m + 1 ≤ k ↔ bl m ≤ k := fun k => by
      rw [bl_le]; exact Nat.log2_lt h
    have h1 := (k (bl m)).2 (Nat.le_refl _)
    have h2 := (k (Nat.log2 m + 1)).1 (Nat.le_refl _)
    unfold tb
    rw [if_neg h]; omega
def tab8 : Bs := (List.range 256).map fun m => UInt8.ofNat (tb m)
theorem tab8_at {z : Nat} (h : z < 256) : tab8[z]? = some (UInt8.ofNat (bl z)) := by
  unfold tab8
  rw [List.getElem?_map, List.getElem?_range h, ← tb_bl]; rfl
theorem tab8_val {z : Nat} (h : z < 256) : (UInt8.ofNat (bl z)).toNat = bl z := by
  have := (bl_le 8 z).2 h
  simp; omega
theorem LenU64_spec (x : Nat) (hx : x < 18446744073709551616) (w : World) : Spec Tryz.prog 252 #[.int .u64 x] w (fun _ => False) (fun v A => v = .int .i64 ((bl x : Nat) : Int) ∧ A = []) := by
  refine Spec.enter (args := [.int .u64 x]) (A := []) Tryz.func252 rfl Tryz.ntmps252 rfl (fun _ h => h) ?_
  ((refine X.st (by kernel_rfl) ?_<;>repeat' first|refine Z.p rfl ?_|refine XL.nn ?_)<;>refine X.seq ?_<;>((refine X.st (by kernel_rfl) ?_<;>repeat' first|refine Z.p rfl ?_|(refine XL.at 1 ?_;(refine XL.splitF rfl rfl rfl rfl (D.int rfl rfl rfl) (fun h1 => ?_) (fun h1 => ?_)))|refine XL.nn ?_)<;>(refine X.cond rfl ?_ ?_;rotate_left;(focus (intro hc;first|exact no_ hc rfl|(refine X.skip ?_)));rotate_right;(focus (intro hc;first|exact no_ hc rfl|((refine X.st (by kernel_rfl) ?_<;>repeat' first|refine Z.p rfl ?_|(refine XL.at 1 ?_;(have e1 := bl_shift 32 x (by omega); (apply XL.det0F rfl rfl rfl rfl; exact D.shrN (b := 32) rfl rfl (by decide))))|refine XL.nn ?_)<;>refine X.tx (by kernel_rfl) ?_<;>repeat' first|refine Z.p rfl ?_|refine XL.nil ?_)))))<;>(first|refine Ex.then ?_|refine N.next ?_<;>(refine X.seq ?_<;>((refine X.st (by kernel_rfl) ?_<;>repeat' first|refine Z.p rfl ?_|(refine XL.at 1 ?_;(refine XL.splitF rfl rfl rfl rfl (D.int rfl rfl rfl) (fun h2 => ?_) (fun h2 => ?_)))|refine XL.nn ?_)<;>(refine X.cond rfl ?_ ?_;rotate_left;(focus (intro hc;first|exact no_ hc rfl|(refine X.skip ?_)));rotate_right;(focus (intro hc;first|exact no_ hc rfl|((refine X.st (by kernel_rfl) ?_<;>repeat' first|refine Z.p rfl ?_|(refine XL.at 1 ?_;((first | have e2 := bl_shift 16 (x / 2 ^ 32) (by omega) | have e2 := bl_shift 16 x (by omega)); (apply XL.det0F rfl rfl rfl rfl; exact D.shrN (b := 16) rfl rfl (by decide))))|refine XL.nn ?_)<;>refine X.tx (by kernel_rfl) ?_<;>repeat' first|refine Z.p rfl ?_|refine Z.g rfl (by omega) ?_|refine Z.w rfl ?_|refine XL.nil ?_)))))<;>(first|refine Ex.then ?_|refine N.next ?_<;>(refine X.seq ?_<;>((refine X.st (by kernel_rfl) ?_<;>repeat' first|refine Z.p rfl ?_|(refine XL.at 1 ?_;(refine XL.splitF rfl rfl rfl rfl (D.int rfl rfl rfl) (fun h3 => ?_) (fun h3 => ?_)))|refine XL.nn ?_)<;>(refine X.cond rfl ?_ ?_;rotate_left;(focus (intro hc;first|exact no_ hc rfl|(refine X.skip ?_)));rotate_right;(focus (intro hc;first|exact no_ hc rfl|((refine X.st (by kernel_rfl) ?_<;>repeat' first|refine Z.p rfl ?_|(refine XL.at 1 ?_;((first | have e3 := bl_shift 8 (x / 2 ^ 32 / 2 ^ 16) (by omega) | have e3 := bl_shift 8 (x / 2 ^ 32) (by omega) | have e3 := bl_shift 8 (x / 2 ^ 16) (by omega) | have e3 := bl_shift 8 x (by omega)); (apply XL.det0F rfl rfl rfl rfl; exact D.shrN (b := 8) rfl rfl (by decide))))|refine XL.nn ?_)<;>refine X.tx (by kernel_rfl) ?_<;>repeat' first|refine Z.p rfl ?_|refine Z.g rfl (by omega) ?_|refine Z.w rfl ?_|refine XL.nil ?_)))))<;>(first|refine Ex.then ?_|refine N.next ?_<;>((refine X.st (by kernel_rfl) ?_<;>repeat' first|(refine XL.at 0 ?_;((first | (obtain ⟨z, hz, hb, hl⟩ : ∃ z, x / 2 ^ 32 / 2 ^ 16 / 2 ^ 8 = z ∧ bl x = bl z + 56 ∧ z < 256 := ⟨_, rfl, by omega, by omega⟩; rw [hz]; have h8 := (bl_le 8 z).2 hl) | (obtain ⟨z, hz, hb, hl⟩ : ∃ z, x / 2 ^ 32 / 2 ^ 16 = z ∧ bl x = bl z + 48 ∧ z < 256 := ⟨_, rfl, by omega, by omega⟩; rw [hz]; have h8 := (bl_le 8 z).2 hl) | (obtain ⟨z, hz, hb, hl⟩ : ∃ z, x / 2 ^ 32 / 2 ^ 8 = z ∧ bl x = bl z + 40 ∧ z < 256 := ⟨_, rfl, by omega, by omega⟩; rw [hz]; have h8 := (bl_le 8 z).2 hl) | (obtain ⟨z, hz, hb, hl⟩ : ∃ z, x / 2 ^ 32 = z ∧ bl x = bl z + 32 ∧ z < 256 := ⟨_, rfl, by omega, by omega⟩; rw [hz]; have h8 := (bl_le 8 z).2 hl) | (obtain ⟨z, hz, hb, hl⟩ : ∃ z, x / 2 ^ 16 / 2 ^ 8 = z ∧ bl x = bl z + 24 ∧ z < 256 := ⟨_, rfl, by omega, by omega⟩; rw [hz]; have h8 := (bl_le 8 z).2 hl) | (obtain ⟨z, hz, hb, hl⟩ : ∃ z, x / 2 ^ 16 = z ∧ bl x = bl z + 16 ∧ z < 256 := ⟨_, rfl, by omega, by omega⟩; rw [hz]; have h8 := (bl_le 8 z).2 hl) | (obtain ⟨z, hz, hb, hl⟩ : ∃ z, x / 2 ^ 8 = z ∧ bl x = bl z + 8 ∧ z < 256 := ⟨_, rfl, by omega, by omega⟩; rw [hz]; have h8 := (bl_le 8 z).2 hl) | (have hl : x < 256 := (by omega); have h8 := (bl_le 8 x).2 hl)); (apply XL.det0F rfl rfl rfl rfl; exact D.move rfl)))|refine Z.p rfl ?_|(refine XL.at 2 ?_;((apply XL.det0F rfl rfl rfl rfl; exact D.convN rfl rfl); rw [Nat.mod_eq_of_lt (show _ < 2 ^ IntKind.u8.bits from hl)]))|(refine XL.at 3 ?_;((apply XL.det0F rfl rfl rfl rfl; exact D.idx _ (l := tab8) (by kernel_rfl) rfl rfl (tab8_at hl)); rw [tab8_val hl]))|(refine XL.at 4 ?_;((apply XL.det0F rfl rfl rfl rfl; exact D.conv64 rfl (by omega))))|(refine XL.at 5 ?_;((apply XL.det0F rfl rfl rfl rfl; exact D.add64 rfl rfl (by omega))))|refine XL.nn ?_)<;>(apply X.r1 Tryz.results252 (RV.tmp rfl);(focus (refine ⟨congrArg (Value.int IntKind.i64) ?_, rfl⟩; omega));exact fun _=>Conf.takes))))))))
theorem Size_spec (x : Nat) (hx : x < 18446744073709551616) (w : World) : Spec Tryz.prog 260 #[.int .u64 x] w (fun _ => False) (fun v A => v = .int .i64 ((vsz x : Nat) : Int) ∧ A = []) := by
  have h8 := (bl_le 64 x).2 hx
  refine Spec.enter (args := [.int .u64 x]) (A := []) Tryz.func260 rfl Tryz.ntmps260 rfl (fun _ h => h) ?_
  ((refine X.st (by kernel_rfl) ?_<;>repeat' first|refine Z.p rfl ?_|refine XL.nn ?_)<;>(refine X.st (by kernel_rfl) ?_<;>repeat' first|refine Z.p rfl ?_|(refine XL.at 1 ?_;((refine XL.call rfl rfl rfl rfl (fun w hw => LenU64_spec x hx w) ?_; rintro v B' ⟨rfl, rfl⟩; refine XL.both ?_)))|(refine XL.at 2 ?_;((apply XL.det0F rfl rfl rfl rfl; exact D.add64 rfl rfl (by omega))))|(refine XL.at 3 ?_;((apply XL.det0F rfl rfl rfl rfl; exact D.sub64 rfl rfl (by omega)); rw [show ((bl x : Nat) : Int) + 7 - 1 = ((bl x + 6 : Nat) : Int) from (by omega)]))|(refine XL.at 4 ?_;((apply XL.det0F rfl rfl rfl rfl; exact D.quo64 (b := 7) rfl rfl ⟨by decide, by omega⟩)))|refine Z.mx rfl rfl rfl ?_|refine Z.mn rfl rfl rfl ?_|refine XL.nn ?_)<;>(apply X.r1 Tryz.results260 (RV.tmp rfl);(focus (refine ⟨congrArg (Value.int IntKind.i64) ?_, rfl⟩; unfold vsz; omega));exact fun _=>Conf.takes))
theorem head_spec (n : Nat) (hn : 1 ≤ n ∧ n ≤ 9) (w : World) : Spec Tryz.prog 261 #[.int .i64 n] w (fun _ => False) (fun v A => v = .int .u8 ((hd n : Nat) : Int) ∧ A = []) := by
  refine Spec.enter (args := [.int .i64 n]) (A := []) Tryz.func261 rfl Tryz.ntmps261 rfl (fun _ h => h) ?_
  ((refine X.st (by kernel_rfl) ?_<;>repeat' first|refine Z.p rfl ?_|refine XL.nn ?_)<;>(refine X.st (by kernel_rfl) ?_<;>repeat' first|(refine XL.at 4 ?_;((apply XL.det0F rfl rfl rfl rfl; exact D.notN rfl rfl (Nat.lt_of_le_of_lt (Nat.div_le_self _ _) (by decide)))))|refine Z.p rfl ?_|(refine XL.at 1 ?_;((apply XL.det0F rfl rfl rfl rfl; exact D.sub64 rfl rfl (by omega)); rw [show (n : Int) - 1 = ((n - 1 : Nat) : Int) from (by omega)]))|(refine XL.at 2 ?_;((apply XL.det0F rfl rfl rfl rfl; exact D.convN rfl rfl); rw [Nat.mod_eq_of_lt (show n - 1 < 2 ^ IntKind.u64.bits from Nat.lt_of_le_of_lt (show n - 1 ≤ 8 by omega) (by decide))]))|(refine XL.at 3 ?_;((apply XL.det0F rfl rfl rfl rfl; exact D.shrN (a := 255) rfl rfl (show n - 1 ≤ 8 by omega))))|refine XL.nn ?_)<;>(apply X.r1 Tryz.results261 (RV.tmp rfl);(focus (exact ⟨rfl, rfl⟩));exact fun _=>Conf.takes))
theorem put_spec (w : World) (H : Nat → Prop) (g : Nat) (a : Option Addr) (c : Nat) (l : Bs) (x n : Nat) (hown : Sep [cells g [.slice a (List.length l) c] 244, own 5 1 (.slice a (List.length l) c) (List.length l) (encY l)] w H) (hn : n ≤ 8) (hbd : l.length ≤ 1000000000) : Spec Tryz.prog 217 #[.pointer (some ⟨g, 0, none⟩), .int .u64 x, .int .i64 n] w H (fun v A => ∃ a' c' o, v = .tuple #[] ∧ o = l ++ fixB x n ∧ A = [cells g [.slice a' (List.length o) c'] 244, own 5 1 (.slice a' (List.length o) c') (List.length o) (encY o)]) := by
  refine Spec.enter (args := [.pointer (some ⟨g, 0, none⟩), .int .u64 x, .int .i64 n]) (A := [cells g [.slice a (List.length l) c] 244, own 5 1 (.slice a (List.length l) c) (List.length l) (encY l)]) Tryz.func217 rfl Tryz.ntmps217 rfl hown ?_
  ((refine X.st (by kernel_rfl) ?_<;>repeat' first|refine Z.p rfl ?_|refine Z.g rfl (by omega) ?_|refine Z.w rfl ?_|refine XL.nn ?_)<;>refine X.block ?_<;>((refine X.loop (ι := Nat × Option Addr × Nat × Bs) (fun y => [(0, .pointer (some ⟨g, 0, none⟩)), (1, .int .u64 x), (6, .int .i64 ((y.1 : Int) - 1))]) (fun y => [cells g [.slice y.2.1 (List.length y.2.2.2) y.2.2.1] 244, own 5 1 (.slice y.2.1 (List.length y.2.2.2) y.2.2.1) (List.length y.2.2.2) (encY y.2.2.2)]) (fun y => y.1 ≤ n ∧ y.2.2.2 ++ fixB x y.1 = l ++ fixB x n) (fun y => y.1) ((n, a, c, l)) ?_ ?_ ?_ ?_; (focus (exact ⟨Nat.le_refl _, rfl⟩)); (focus (repeat (first | exact Sub.nil | refine Sub.cons rfl ?_))); (focus (exact (fun w h => h.takes))); rintro ⟨r, a1, c1, o⟩ ⟨hr, ho⟩; (dsimp only at *; have hol : o.length ≤ 1000000008 := (by have := congrArg List.length ho; simp [fixB_len] at this; omega))) <;> (refine X.seq ?_<;>((refine X.st (by kernel_rfl) ?_<;>repeat' first|refine Z.p rfl ?_|(refine XL.at 1 ?_;(first | refine XL.splitF rfl rfl rfl rfl (D.int rfl rfl rfl) (fun h1 => ?_) (fun h1 => ?_)))|refine XL.nn ?_)<;>(refine X.cond rfl ?_ ?_;rotate_left;(focus (intro hc;first|exact no_ hc rfl|(refine X.exit ?_)));rotate_right;(focus (intro hc;first|exact no_ hc rfl|(refine X.skip ?_)))))<;>(first|refine Ex.then ?_|refine N.next ?_<;>(refine X.seq ?_<;>(refine X.block ?_<;>(refine X.tx (by kernel_rfl) ?_<;>repeat' first|refine Z.p rfl ?_|(refine XL.at 7 ?_;(obtain ⟨r', rfl⟩ : ∃ r', r = r' + 1 := (⟨r - 1, by omega⟩); (apply XL.det0F rfl rfl rfl rfl; exact D.mul64 rfl rfl (by omega)); rw [show (8 : Int) * (((r' + 1 : Nat) : Int) - 1) = ((8 * r' : Nat) : Int) from (by omega)]))|(refine XL.at 8 ?_;((apply XL.det0F rfl rfl rfl rfl; exact D.convN rfl rfl); rw [Nat.mod_eq_of_lt (show 8 * r' < 2 ^ IntKind.u64.bits from Nat.lt_of_le_of_lt (show 8 * r' ≤ 64 by omega) (by decide))]))|(refine XL.at 9 ?_;((apply XL.det0F rfl rfl rfl rfl; exact D.shrN rfl rfl (show 8 * r' ≤ 64 by omega)); rw [show x / 2 ^ (8 * r') = x / 256 ^ r' from (by rw [Nat.pow_mul])]))|(refine XL.at 10 ?_;((apply XL.det0F rfl rfl rfl rfl; exact D.convN rfl rfl); rw [show ((x / 256 ^ r' % 2 ^ IntKind.u8.bits : Nat) : Int) = ((UInt8.ofNat (x / 256 ^ r')).toNat : Int) from rfl]))|(refine XL.at 12 ?_;((refine XL.append rfl rfl rfl rfl rfl rfl ?_ ?_ (fun a' c' => ?_); (focus (skip; unfold maxLen; omega)); (focus (intro _ _; infer_instance))); rw [encY_snoc o, show o.length + 1 = (o ++ [UInt8.ofNat (x / 256 ^ r')]).length from (by simp)]))|refine Z.fa rfl rfl rfl ?_|refine Z.l1 rfl rfl rfl ?_|refine Z.lN rfl rfl rfl ?_|refine Z.lP rfl rfl rfl ?_|refine XL.slice1 rfl rfl rfl rfl rfl rfl (by intro g; infer_instance) (fun g_ => ?_)|refine XL.store1 rfl rfl rfl rfl rfl ?_|refine XL.storeN rfl rfl rfl rfl rfl rfl ?_|refine XL.storeP rfl rfl rfl rfl rfl rfl ?_|refine XL.nil ?_)<;>(first|refine N.block ?_|refine Ex.here ?_|refine Ex.out rfl ?_))<;>(first|refine Ex.then ?_|refine N.next ?_<;>(refine X.tx (by kernel_rfl) ?_<;>repeat' first|refine Z.p rfl ?_|(refine XL.at 1 ?_;((apply XL.det0F rfl rfl rfl rfl; exact D.sub64 rfl rfl (by omega)); rw [show (((r' + 1 : Nat) : Int) - 1) - 1 = ((r' : Nat) : Int) - 1 from (by omega)]))|refine XL.nil ?_))))) <;> (first | refine Ex.then ?_ | ((refine N.again ((r', a', c', o ++ [UInt8.ofNat (x / 256 ^ r')])) ?_ ?_ ?_ ?_; (focus (exact ⟨by dsimp only; omega, by dsimp only; rw [← ho]; simp [fixB]⟩)); (focus (first | omega | (dsimp only; omega))); (focus (repeat (first | exact Sub.nil | refine Sub.cons rfl ?_))); exact (fun w h => h.takes)))))<;>(first|refine N.block ?_|refine Ex.here ?_|refine Ex.out rfl ?_)) <;> ((repeat (first | refine Rt.then ?_ | refine Rt.block ?_ | refine Rt.scope ?_)); (first | apply N.done (Res.r0 Tryz.results217 ) | apply N.doneM (Res.r0 Tryz.results217 )); (focus (obtain rfl : r = 0 := (by omega); have ho' : o = l ++ fixB x n := (by rw [← ho]; simp [fixB]); exact ⟨a1, c1, o, rfl, ho', rfl⟩)); exact fun w h => h.takes)
end Go.Lx

/- Package wire's walks: what is read. -/
namespace Go.Lx
open Go.Proofs
set_option linter.unusedVariables false
set_option linter.unusedSimpArgs false
set_option maxRecDepth 20000
set_option maxHeartbeats 4000000

/-- What a reader answers, and where it stands then. -/
def RdR {α : Type} (f : Bs → Option (α × Nat)) (d : α) (s : Bs) (p : Nat) (e : Int) (x : α) (p' : Nat) (e' : Int) : Prop :=
  p' ≤ s.length ∧ ((e = 0 ∧ ∃ n, f (s.drop p) = some (x, n) ∧ e' = 0 ∧ p' = p + n) ∨ ((e ≠ 0 ∨ f (s.drop p) = none) ∧ x = d ∧ e' ≠ 0))
def TakeR (s : Bs) (p : Nat) (e : Int) (n : Nat) (x : Bs) (p' : Nat) (e' : Int) : Prop :=
  (e = 0 ∧ p + n ≤ s.length ∧ x = (s.drop p).take n ∧ p' = p + n ∧ e' = 0) ∨ (e = 0 ∧ ¬ p + n ≤ s.length ∧ x = [] ∧ p' = p ∧ e' = 10) ∨ (e ≠ 0 ∧ x = [] ∧ p' = p ∧ e' = e)
end Go.Lx
