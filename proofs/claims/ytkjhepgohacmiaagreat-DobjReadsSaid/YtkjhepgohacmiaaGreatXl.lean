/- Own layer, part l: strings as lists of bytes, bits as whole numbers, rows of bytes, ranges over a string. Plain theorems. -/
import Derived.Test.YtkjhepgohacmiaaGreatXk
import Derived.Test.YtkjhepgohacmiaaGreatXn
import Derived.Laws.Strings
import Derived.Laws.IdiomStrings
import Derived.Laws.RangeString
import Derived.Lib.AppendStr
namespace Go.Lx
set_option linter.unusedVariables false
set_option linter.unusedSimpArgs false

abbrev Bs := List UInt8
theorem str_lit (s : ByteArray) : ∃ l : Bs, s = ⟨l.toArray⟩ := ⟨s.data.toList, by simp⟩
theorem str_size (l : Bs) : (ByteArray.mk l.toArray).size = l.length := by simp [ByteArray.size]
theorem str_inj {l m : Bs} (h : ByteArray.mk l.toArray = ByteArray.mk m.toArray) : l = m := by
  have := congrArg (fun s : ByteArray => s.data.toList) h
  simpa using this
theorem str_ext {s : ByteArray} {l : Bs} (h : s.data.toList = l) : s = ⟨l.toArray⟩ := by subst h; simp
theorem str_get (l : Bs) (m : Nat) (h : m < (ByteArray.mk l.toArray).size) : (ByteArray.mk l.toArray)[m] = l[m]'(by rw [str_size] at h; exact h) := by
  show l.toArray[m] = _
  simp
theorem str_extract (l : Bs) (a b : Nat) : (ByteArray.mk l.toArray).extract a b = ⟨((l.drop a).take (b - a)).toArray⟩ := by
  apply str_ext
  rw [ByteArray.data_extract]
  simp [List.extract]
theorem str_append (l m : Bs) : (ByteArray.mk l.toArray) ++ (ByteArray.mk m.toArray) = ⟨(l ++ m).toArray⟩ := by
  apply str_ext
  rw [ByteArray.data_append]
  simp

def encY1 (b : UInt8) : List Value := [.int .u8 (b.toNat : Int)]
def encY (l : Bs) : List Value := l.flatMap encY1
theorem encY_map (l : Bs) : encY l = l.map fun b => Value.int .u8 (b.toNat : Int) := by
  induction l with
  | nil => rfl
  | cons x l ih => simp only [encY, List.flatMap_cons, List.map_cons] at ih ⊢; rw [ih]; rfl
theorem encY_len (l : Bs) : (encY l).length = l.length := by rw [encY_map, List.length_map]
theorem encY_one (l : Bs) : ∀ u ∈ encY l, u.oneCell' = true := by
  intro u hu
  rw [encY_map] at hu
  obtain ⟨x, _, rfl⟩ := List.mem_map.1 hu
  rfl
theorem encY_str (l : Bs) : Lib.strCells ⟨l.toArray⟩ = encY l := by rw [encY_map]; rfl
theorem encY_snoc (o : Bs) (b : UInt8) : encY o ++ [.int .u8 (b.toNat : Int)] = encY (o ++ [b]) := by simp [encY, encY1]
theorem encY_append (o p : Bs) : encY o ++ encY p = encY (o ++ p) := by simp [encY]
theorem Rd.byteAt {w : World} {a : Option Addr} {n c m : Nat} {xs : Bs} {x : UInt8} (h : Rd w 1 a n c (encY xs)) (hx : xs[m]? = some x) : w.cell? (el a (m * 1)) = some (.int .u8 (x.toNat : Int)) := by
  have := Rd.elem (f := encY1) h (fun _ => rfl) hx 0 _ rfl
  rw [el_add] at this
  exact this
theorem Rd.byteLen {w : World} {a : Option Addr} {n c : Nat} {xs : Bs} (h : Rd w 1 a n c (encY xs)) : xs.length = n := by
  have := h.len
  rw [encY_len] at this
  omega
theorem encY_set (l : Bs) (k : Nat) (b : UInt8) (h : k < l.length) : putAt (encY l) (k * 1) [.int .u8 (b.toNat : Int)] = encY (l.set k b) := putAt_flat encY1 1 (fun _ => rfl) b l k h

/-! ### rows of strings -/
def encT1 (s : Bs) : List Value := [.string ⟨s.toArray⟩]
def encT (l : List Bs) : List Value := l.flatMap encT1
theorem Rd.strAt {w : World} {a : Option Addr} {n c m : Nat} {xs : List Bs} {x : Bs} (h : Rd w 1 a n c (encT xs)) (hx : xs[m]? = some x) : w.cell? (el a (m * 1)) = some (.string ⟨x.toArray⟩) := by
  have := Rd.elem (f := encT1) h (fun _ => rfl) hx 0 _ rfl
  rw [el_add] at this
  exact this
/-! ### rows of u64 -/
def encW1 (n : Nat) : List Value := [.int .u64 (n : Int)]
def encW (l : List Nat) : List Value := l.flatMap encW1
theorem Rd.wordAt {w : World} {a : Option Addr} {n c m : Nat} {xs : List Nat} {x : Nat} (h : Rd w 1 a n c (encW xs)) (hx : xs[m]? = some x) : w.cell? (el a (m * 1)) = some (.int .u64 (x : Int)) := by
  have := Rd.elem (f := encW1) h (fun _ => rfl) hx 0 _ rfl
  rw [el_add] at this
  exact this

/-! ### whole numbers without a sign -/
theorem wrapN {k : IntKind} (hk : k.signed = false) (a : Nat) : k.wrap (a : Int) = ((a % 2 ^ k.bits : Nat) : Int) := by
  have e : ((2 : Int) ^ k.bits) = ((2 ^ k.bits : Nat) : Int) := by simp
  simp only [IntKind.wrap, hk]
  rw [e, ← Int.natCast_emod]
  simp
theorem wrapN_fit {k : IntKind} (hk : k.signed = false) {a : Nat} (h : a < 2 ^ k.bits) : k.wrap (a : Int) = (a : Int) := by rw [wrapN hk, Nat.mod_eq_of_lt h]
theorem ofInt_nat (n a : Nat) : BitVec.ofInt n (a : Int) = BitVec.ofNat n a := by simp

theorem bs_beq (l m : Bs) : (l == m) = decide (l = m) := by
  rw [Bool.eq_iff_iff]; simp

namespace D
variable {C : Cx} {W : World → Prop} {env : Env} {ty t u t2 : TypeId} {pos : String} {af : Array Edge} {gd : Option (Nat × Bool)} {ds : Option Tmp} {x y z : Operand} {k k' : IntKind}

theorem lenL {d : Nat} {l : Bs} [h : StrT C.P t] (hx : ev env x = some (.string ⟨l.toArray⟩)) : Det C W env ⟨some d, .call ⟨.builtin .len, #[x], #[t]⟩, ty, pos, af, gd⟩ (.int .i64 (l.length : Nat)) := by
  have := D.lenS (C := C) (W := W) (t := t) (d := d) (ty := ty) (pos := pos) (af := af) (gd := gd) hx
  rwa [str_size] at this
theorem idx {l : Bs} {b : UInt8} {j : Int} (m : Nat) [h : StrT C.P t] (hx : ev env x = some (.string ⟨l.toArray⟩)) (hy : ev env y = some (.int k j)) (hj : j = (m : Int)) (hb : l[m]? = some b) :
    Det C W env ⟨ds, .index t x y, ty, pos, af, gd⟩ (.int .u8 (b.toNat : Int)) := by
  obtain ⟨hm, he⟩ := List.getElem?_eq_some_iff.1 hb
  have hm' : m < (ByteArray.mk l.toArray).size := by rw [str_size]; exact hm
  have e : (ByteArray.mk l.toArray)[m]'hm' = b := by rw [str_get]; exact he
  have := D.indexStr (C := C) (T := W) (t := t) (ds := ds) (ty := ty) (pos := pos) (af := af) (gd := gd) m hx hy hj hm'
  rwa [e] at this
theorem cutH {l : Bs} {h : Nat} {hi : Operand} [ht : StrT C.P t] (hx : ev env x = some (.string ⟨l.toArray⟩)) (hhi : ev env hi = some (.int k (h : Int))) (h1 : h ≤ l.length) : Det C W env ⟨ds, .slice t x none (some hi) none, ty, pos, af, gd⟩ (.string ⟨(l.take h).toArray⟩) := ⟨fun ac w he _ => by
  have h2 : h ≤ (ByteArray.mk l.toArray).size := by rw [str_size]; exact h1
  simp only [str_size] at h2
  have e := str_extract l 0 h
  simp only [List.drop_zero, Nat.sub_zero] at e
  simp [execOp, he.ev hx, he.ev hhi, Instr.sliceAt, run_underlying ht.und, Instr.slice, Instr.sliceBounds, Instr.sliceBound, asIntOf, h1, h2, str_size, e]⟩
theorem cutL {l : Bs} {a : Nat} {lo : Operand} [ht : StrT C.P t] (hx : ev env x = some (.string ⟨l.toArray⟩)) (hlo : ev env lo = some (.int k (a : Int))) (h1 : a ≤ l.length) : Det C W env ⟨ds, .slice t x (some lo) none none, ty, pos, af, gd⟩ (.string ⟨(l.drop a).toArray⟩) := ⟨fun ac w he _ => by
  have e := str_extract l a l.length
  rw [List.take_of_length_le (by simp)] at e
  simp [execOp, he.ev hx, he.ev hlo, Instr.sliceAt, run_underlying ht.und, Instr.slice, Instr.sliceBounds, Instr.sliceBound, asIntOf, h1, str_size, e]⟩
theorem cutLH {l : Bs} {a h : Nat} {j1 j2 : Int} {lo hi : Operand} [ht : StrT C.P t] (hx : ev env x = some (.string ⟨l.toArray⟩)) (hlo : ev env lo = some (.int k j1)) (hhi : ev env hi = some (.int k' j2)) (e1 : j1 = (a : Int)) (e2 : j2 = (h : Int)) (h1 : a ≤ h ∧ h ≤ l.length) : Det C W env ⟨ds, .slice t x (some lo) (some hi) none, ty, pos, af, gd⟩ (.string ⟨((l.drop a).take (h - a)).toArray⟩) := ⟨fun ac w he _ => by
  subst e1; subst e2
  have e := str_extract l a h
  have h3 : (a : Int) ≤ (h : Int) := by omega
  simp [execOp, he.ev hx, he.ev hlo, he.ev hhi, Instr.sliceAt, run_underlying ht.und, Instr.slice, Instr.sliceBounds, Instr.sliceBound, asIntOf, h1.1, h1.2, str_size, e]⟩
theorem cat {l m : Bs} (hx : ev env x = some (.string ⟨l.toArray⟩)) (hy : ev env y = some (.string ⟨m.toArray⟩)) (hb : l.length + m.length ≤ 9223372036854775807) : Det C W env ⟨ds, .binOp .add t x y u, ty, pos, af, gd⟩ (.string ⟨(l ++ m).toArray⟩) := ⟨fun ac w he _ => by
  have h3 : IntKind.i64.max = 9223372036854775807 := by decide
  have h2 : ¬ ((l.length : Int) + (m.length : Int) > 9223372036854775807) := by omega
  have h4 : (l.length : Int) + (m.length : Int) ≤ 9223372036854775807 := by omega
  simp [execOp, he.ev hx, he.ev hy, eqGuard, binOp, Op.stringOp, str_size, h3, h4, str_append]⟩
theorem strEq {l m : Bs} (hx : ev env x = some (.string ⟨l.toArray⟩)) (hy : ev env y = some (.string ⟨m.toArray⟩)) : Det C W env ⟨ds, .binOp .eql t x y u, ty, pos, af, gd⟩ (.bool (decide (l = m))) := ⟨fun ac w he _ => by
  simp [execOp, he.ev hx, he.ev hy, eqGuard, binOp, Op.stringOp, bs_beq]⟩
theorem strNe {l m : Bs} (hx : ev env x = some (.string ⟨l.toArray⟩)) (hy : ev env y = some (.string ⟨m.toArray⟩)) : Det C W env ⟨ds, .binOp .neq t x y u, ty, pos, af, gd⟩ (.bool (decide (l ≠ m))) := ⟨fun ac w he _ => by
  simp [execOp, he.ev hx, he.ev hy, eqGuard, binOp, Op.stringOp, bs_beq]⟩
theorem strLt {l m : Bs} (hx : ev env x = some (.string ⟨l.toArray⟩)) (hy : ev env y = some (.string ⟨m.toArray⟩)) : Det C W env ⟨ds, .binOp .lss t x y u, ty, pos, af, gd⟩ (.bool (decide (Op.bytesLess l m = true))) := ⟨fun ac w he _ => by
  simp [execOp, he.ev hx, he.ev hy, eqGuard, binOp, Op.stringOp]⟩
theorem strLe {l m : Bs} (hx : ev env x = some (.string ⟨l.toArray⟩)) (hy : ev env y = some (.string ⟨m.toArray⟩)) : Det C W env ⟨ds, .binOp .leq t x y u, ty, pos, af, gd⟩ (.bool (decide (Op.bytesLess l m = true ∨ l = m))) := ⟨fun ac w he _ => by
  simp [execOp, he.ev hx, he.ev hy, eqGuard, binOp, Op.stringOp, bs_beq]⟩
theorem strGe {l m : Bs} (hx : ev env x = some (.string ⟨l.toArray⟩)) (hy : ev env y = some (.string ⟨m.toArray⟩)) : Det C W env ⟨ds, .binOp .geq t x y u, ty, pos, af, gd⟩ (.bool (decide (¬ Op.bytesLess l m = true))) := ⟨fun ac w he _ => by
  simp [execOp, he.ev hx, he.ev hy, eqGuard, binOp, Op.stringOp]⟩
theorem toStr {e n c : Nat} {a : Option Addr} (l : Bs) [h1 : SlT C.P t e] [h2 : IntT C.P e .u8] [h3 : StrT C.P t2] (hx : ev env x = some (.slice a n c)) (hn : l.length = n) (hr : ∀ w, W w → Rd w 1 a n c (encY l)) : Det C W env ⟨ds, .convert t t2 x, ty, pos, af, gd⟩ (.string ⟨l.toArray⟩) := ⟨fun ac w he hw => by
  subst hn
  have hrd := hr w hw
  cases a with
  | none =>
    have h0 : l = [] := by
      rcases Nat.eq_zero_or_pos l.length with h | h
      · exact List.length_eq_zero_iff.1 h
      · have := hrd.sm h; simp at this
    subst h0
    simp [execOp, he.ev hx, run_convert_bytes_string w t t2 e none 0 c h1.und h2.und h3.und, Conv.bytesToString]
    rfl
  | some p =>
    have := run_convert_bytes_back (P := C.P) w t t2 e p c l h1.und h2.und h3.und (fun j hj => hrd.cell j _ (by rw [encY_map, List.getElem?_map, List.getElem?_eq_getElem hj]; rfl))
    simp [execOp, he.ev hx, this]⟩

theorem convN {a : Nat} [h1 : IntT C.P t k'] [h2 : IntT C.P t2 k] (hk : k.signed = false) (hx : ev env x = some (.int k' (a : Int))) : Det C W env ⟨ds, .convert t t2 x, ty, pos, af, gd⟩ (.int k ((a % 2 ^ k.bits : Nat) : Int)) := by
  have := D.conv (C := C) (W := W) (ds := ds) (ty := ty) (pos := pos) (af := af) (gd := gd) (t := t) (t2 := t2) (k := k) (k' := k') hx
  rwa [wrapN hk] at this
theorem conv64 {a : Nat} [h1 : IntT C.P t k'] [h2 : IntT C.P t2 .i64] (hx : ev env x = some (.int k' (a : Int))) (ha : a < 9223372036854775808) : Det C W env ⟨ds, .convert t t2 x, ty, pos, af, gd⟩ (.int .i64 (a : Int)) := by
  have := D.conv (C := C) (W := W) (ds := ds) (ty := ty) (pos := pos) (af := af) (gd := gd) (t := t) (t2 := t2) (k := .i64) (k' := k') hx
  rwa [D.wrap64_fit (by omega)] at this
theorem shrN {a b : Nat} (hx : ev env x = some (.int k (a : Int))) (hy : ev env y = some (.int k' (b : Int))) (hb : b ≤ k.bits) : Det C W env ⟨ds, .binOp .shr t x y u, ty, pos, af, gd⟩ (.int k ((a / 2 ^ b : Nat) : Int)) := by
  have := D.shr (C := C) (W := W) (ds := ds) (ty := ty) (pos := pos) (af := af) (gd := gd) (t := t) (u := u) hx hy (by omega)
  rw [Int.toNat_natCast, Nat.min_eq_left hb, Int.fdiv_eq_ediv_of_nonneg _ (Int.pow_nonneg (by decide))] at this
  have e : ((a : Int) / 2 ^ b) = ((a / 2 ^ b : Nat) : Int) := by simp
  rwa [e] at this
theorem shlN {a b : Nat} (hk : k.signed = false) (hx : ev env x = some (.int k (a : Int))) (hy : ev env y = some (.int k' (b : Int))) (hb : b ≤ k.bits) : Det C W env ⟨ds, .binOp .shl t x y u, ty, pos, af, gd⟩ (.int k ((a * 2 ^ b % 2 ^ k.bits : Nat) : Int)) := by
  have := D.shl (C := C) (W := W) (ds := ds) (ty := ty) (pos := pos) (af := af) (gd := gd) (t := t) (u := u) hx hy (by omega)
  rw [Int.toNat_natCast, Nat.min_eq_left hb] at this
  have e : ((a : Int) * 2 ^ b) = ((a * 2 ^ b : Nat) : Int) := by simp
  rwa [e, wrapN hk] at this
theorem bits {op : BinOp} {f : {n : Nat} → BitVec n → BitVec n → BitVec n} {a b r : Nat} (hk : k.signed = false) (hx : ev env x = some (.int k (a : Int))) (hy : ev env y = some (.int k (b : Int))) (hop : (op = .and ∧ @f = fun {n} x y => x &&& y) ∨ (op = .or ∧ @f = fun {n} x y => x ||| y) ∨ (op = .xor ∧ @f = fun {n} x y => x ^^^ y) ∨ (op = .andNot ∧ @f = fun {n} x y => x &&& ~~~y))
    (hr : (f (BitVec.ofNat k.bits a) (BitVec.ofNat k.bits b)).toNat = r) : Det C W env ⟨ds, .binOp op t x y u, ty, pos, af, gd⟩ (.int k (r : Int)) := ⟨fun ac w he _ => by
  subst hr
  have hw : ∀ v : BitVec k.bits, k.wrap (v.toNat : Int) = (v.toNat : Int) := fun v => wrapN_fit hk v.isLt
  rcases hop with ⟨rfl, rfl⟩ | ⟨rfl, rfl⟩ | ⟨rfl, rfl⟩ | ⟨rfl, rfl⟩ <;> simp only [execOp, he.ev hx, he.ev hy] <;> simp [eqGuard, binOp, Op.intBits, -BitVec.toNat_and, -BitVec.toNat_or, -BitVec.toNat_xor, -BitVec.toNat_ofNat] <;> exact hw _⟩
theorem xorN {a b : Nat} (hk : k.signed = false) (hx : ev env x = some (.int k (a : Int))) (hy : ev env y = some (.int k (b : Int))) (hb : a < 2 ^ k.bits ∧ b < 2 ^ k.bits) : Det C W env ⟨ds, .binOp .xor t x y u, ty, pos, af, gd⟩ (.int k ((a ^^^ b : Nat) : Int)) :=
  bits (f := fun {n} x y => x ^^^ y) hk hx hy (.inr (.inr (.inl ⟨rfl, rfl⟩))) (by simp [Nat.mod_eq_of_lt hb.1, Nat.mod_eq_of_lt hb.2])
theorem orN {a b : Nat} (hk : k.signed = false) (hx : ev env x = some (.int k (a : Int))) (hy : ev env y = some (.int k (b : Int))) (hb : a < 2 ^ k.bits ∧ b < 2 ^ k.bits) : Det C W env ⟨ds, .binOp .or t x y u, ty, pos, af, gd⟩ (.int k ((a ||| b : Nat) : Int)) :=
  bits (f := fun {n} x y => x ||| y) hk hx hy (.inr (.inl ⟨rfl, rfl⟩)) (by simp [Nat.mod_eq_of_lt hb.1, Nat.mod_eq_of_lt hb.2])
theorem andN {a b : Nat} (hk : k.signed = false) (hx : ev env x = some (.int k (a : Int))) (hy : ev env y = some (.int k (b : Int))) (hb : a < 2 ^ k.bits ∧ b < 2 ^ k.bits) : Det C W env ⟨ds, .binOp .and t x y u, ty, pos, af, gd⟩ (.int k ((a &&& b : Nat) : Int)) :=
  bits (f := fun {n} x y => x &&& y) hk hx hy (.inl ⟨rfl, rfl⟩) (by simp [Nat.mod_eq_of_lt hb.1, Nat.mod_eq_of_lt hb.2])
theorem andNotN {a b : Nat} (hk : k.signed = false) (hx : ev env x = some (.int k (a : Int))) (hy : ev env y = some (.int k (b : Int))) (hb : a < 2 ^ k.bits ∧ b < 2 ^ k.bits) : Det C W env ⟨ds, .binOp .andNot t x y u, ty, pos, af, gd⟩ (.int k ((a &&& (2 ^ k.bits - 1 - b) : Nat) : Int)) :=
  bits (f := fun {n} x y => x &&& ~~~y) hk hx hy (.inr (.inr (.inr ⟨rfl, rfl⟩))) (by simp [Nat.mod_eq_of_lt hb.1, Nat.mod_eq_of_lt hb.2])
theorem notN {a : Nat} (hk : k.signed = false) (hx : ev env x = some (.int k (a : Int))) (ha : a < 2 ^ k.bits) : Det C W env ⟨ds, .unOp .xor t x, ty, pos, af, gd⟩ (.int k ((2 ^ k.bits - 1 - a : Nat) : Int)) := ⟨fun ac w he _ => by
  have hm : k.max = ((2 ^ k.bits - 1 : Nat) : Int) := by cases k <;> simp [IntKind.signed] at hk <;> decide
  have hx' : (BitVec.ofNat k.bits (2 ^ k.bits - 1) ^^^ BitVec.ofNat k.bits a).toNat = 2 ^ k.bits - 1 - a := by
    have e : BitVec.ofNat k.bits (2 ^ k.bits - 1) = BitVec.allOnes k.bits := by simp [BitVec.allOnes, BitVec.ofNatLT_eq_ofNat]
    rw [e, BitVec.allOnes_xor, BitVec.toNat_not]
    simp [Nat.mod_eq_of_lt ha]
  simp only [execOp, he.ev hx]
  simp only [Op.unary, hk, Bool.false_eq_true, if_false, hm, Op.intBits, ofInt_nat, hx', wrapN_fit hk (show 2 ^ k.bits - 1 - a < 2 ^ k.bits by omega)]
  simp⟩
theorem negN {a : Nat} (hk : k.signed = false) (hx : ev env x = some (.int k (a : Int))) (ha : a < 2 ^ k.bits) : Det C W env ⟨ds, .unOp .neg t x, ty, pos, af, gd⟩ (.int k (((2 ^ k.bits - a) % 2 ^ k.bits : Nat) : Int)) := ⟨fun ac w he _ => by
  have e : k.wrap (0 - (a : Int)) = (((2 ^ k.bits - a) % 2 ^ k.bits : Nat) : Int) := by
    rw [← wrapN hk]
    simp only [IntKind.wrap, hk]
    have : (0 - (a : Int)) % 2 ^ k.bits = ((2 ^ k.bits - a : Nat) : Int) % 2 ^ k.bits := by
      rw [Int.ofNat_sub (by omega)]
      simp [Int.sub_emod]
    rw [this]
  simp only [execOp, he.ev hx]
  simp only [Op.unary, Op.intArith, e]
  simp⟩
theorem addN {a b : Nat} (hk : k.signed = false) (hx : ev env x = some (.int k (a : Int))) (hy : ev env y = some (.int k (b : Int))) (h : a + b < 2 ^ k.bits) : Det C W env ⟨ds, .binOp .add t x y u, ty, pos, af, gd⟩ (.int k ((a + b : Nat) : Int)) :=
  D.int hx hy (by simp only [intBin]; rw [← Int.natCast_add, wrapN_fit hk h])
theorem mulN {a b : Nat} (hk : k.signed = false) (hx : ev env x = some (.int k (a : Int))) (hy : ev env y = some (.int k (b : Int))) (h : a * b < 2 ^ k.bits) : Det C W env ⟨ds, .binOp .mul t x y u, ty, pos, af, gd⟩ (.int k ((a * b : Nat) : Int)) :=
  D.int hx hy (by simp only [intBin]; rw [← Int.natCast_mul, wrapN_fit hk h])
theorem subN {a b : Nat} (hk : k.signed = false) (hx : ev env x = some (.int k (a : Int))) (hy : ev env y = some (.int k (b : Int))) (h : b ≤ a ∧ a < 2 ^ k.bits) : Det C W env ⟨ds, .binOp .sub t x y u, ty, pos, af, gd⟩ (.int k ((a - b : Nat) : Int)) :=
  D.int hx hy (by simp only [intBin]; rw [← Int.ofNat_sub h.1, wrapN_fit hk (by omega)])
theorem remN {a b : Nat} (hx : ev env x = some (.int k (a : Int))) (hy : ev env y = some (.int k (b : Int))) (hb : 0 < b) : Det C W env ⟨ds, .binOp .rem t x y u, ty, pos, af, gd⟩ (.int k ((a % b : Nat) : Int)) := by
  have := D.rem (C := C) (W := W) (ds := ds) (ty := ty) (pos := pos) (af := af) (gd := gd) (t := t) (u := u) hx hy (by omega)
  rwa [Int.tmod_eq_emod_of_nonneg (by omega), ← Int.natCast_emod] at this
theorem quoN {a b : Nat} (hk : k.signed = false) (hx : ev env x = some (.int k (a : Int))) (hy : ev env y = some (.int k (b : Int))) (hb : 0 < b ∧ a < 2 ^ k.bits) : Det C W env ⟨ds, .binOp .quo t x y u, ty, pos, af, gd⟩ (.int k ((a / b : Nat) : Int)) := by
  have := D.quo (C := C) (W := W) (ds := ds) (ty := ty) (pos := pos) (af := af) (gd := gd) (t := t) (u := u) hx hy (by omega)
  rwa [Int.tdiv_eq_ediv_of_nonneg (by omega), ← Int.natCast_ediv, wrapN_fit hk (Nat.lt_of_le_of_lt (Nat.div_le_self _ _) hb.2)] at this
end D
end Go.Lx
