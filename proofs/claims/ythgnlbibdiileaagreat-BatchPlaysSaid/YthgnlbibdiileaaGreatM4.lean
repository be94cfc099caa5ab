/- Texts Xl Xp Ty, merged: a claim has at most 60 files. -/
import Derived.Test.YthgnlbibdiileaaGreatM3
import Derived.Laws.Strings
import Derived.Laws.IdiomStrings
import Derived.Laws.RangeString
import Derived.Lib.AppendStr
import Derived.Test.YthgnlbibdiileaaGreatM2
import Derived.Test.YthgnlbibdiileaaGreatProg
import Derived.Test.YthgnlbibdiileaaGreatM1
import Derived.KernelRfl
/- Own layer, part l: strings as lists of bytes, bits as whole numbers, rows of bytes, ranges over a string. Plain theorems. -/
namespace Go.Lx
set_option linter.unusedVariables false
set_option linter.unusedSimpArgs false

abbrev Bs := List UInt8
theorem str_size (l : Bs) : (ByteArray.mk l.toArray).size = l.length := by simp [ByteArray.size]
theorem str_ext {s : ByteArray} {l : Bs} (h : s.data.toList = l) : s = ⟨l.toArray⟩ := by subst h; simp
theorem str_get (l : Bs) (m : Nat) (h : m < (ByteArray.mk l.toArray).size) : (ByteArray.mk l.toArray)[m] = l[m]'(by rw [str_size] at h; exact h) := by
  show l.toArray[m] = _
  simp
theorem str_extract (l : Bs) (a b : Nat) : (ByteArray.mk l.toArray).extract a b = ⟨((l.drop a).take (b - a)).toArray⟩ := by
  apply str_ext
  rw [ByteArray.data_extract]
  simp [List.extract]
theorem str_append (l m : Bs) : (ByteArray.mk l.toArray) ++ (ByteArray.mk m.toArray) = ⟨(l ++ m).toArray⟩ := by
  apply str_ext
  rw [ByteArray.data_append]
  simp

def encY1 (b : UInt8) : List Value := [.int .u8 (b.toNat : Int)]
def encY (l : Bs) : List Value := l.flatMap encY1
theorem encY_map (l : Bs) : encY l = l.map fun b => Value.int .u8 (b.toNat : Int) := by
  induction l with
  | nil => rfl
  | cons x l ih => simp only [encY, List.flatMap_cons, List.map_cons] at ih ⊢; rw [ih]; rfl
theorem encY_len (l : Bs) : (encY l).length = l.length := by rw [encY_map, List.length_map]
theorem encY_one (l : Bs) : ∀ u ∈ encY l, u.oneCell' = true := by
  intro u hu
  rw [encY_map] at hu
  obtain ⟨x, _, rfl⟩ := List.mem_map.1 hu
  rfl
theorem encY_str (l : Bs) : Lib.strCells ⟨l.toArray⟩ = encY l := by rw [encY_map]; rfl
theorem encY_snoc (o : Bs) (b : UInt8) : encY o ++ [.int .u8 (b.toNat : Int)] = encY (o ++ [b]) := by simp [encY, encY1]
theorem encY_append (o p : Bs) : encY o ++ encY p = encY (o ++ p) := by simp [encY]
theorem Rd.byteAt {w : World} {a : Option Addr} {n c m : Nat} {xs : Bs} {x : UInt8} (h : Rd w 1 a n c (encY xs)) (hx : xs[m]? = some x) : w.cell? (el a (m * 1)) = some (.int .u8 (x.toNat : Int)) := by
  have := Rd.elem (f := encY1) h (fun _ => rfl) hx 0 _ rfl
  rw [el_add] at this
  exact this
theorem encY_set (l : Bs) (k : Nat) (b : UInt8) (h : k < l.length) : putAt (encY l) (k * 1) [.int .u8 (b.toNat : Int)] = encY (l.set k b) := putAt_flat encY1 1 (fun _ => rfl) b l k h

/-! ### rows of strings -/
def encT1 (s : Bs) : List Value := [.string ⟨s.toArray⟩]
def encT (l : List Bs) : List Value := l.flatMap encT1
theorem Rd.strAt {w : World} {a : Option Addr} {n c m : Nat} {xs : List Bs} {x : Bs} (h : Rd w 1 a n c (encT xs)) (hx : xs[m]? = some x) : w.cell? (el a (m * 1)) = some (.string ⟨x.toArray⟩) := by
  have := Rd.elem (f := encT1) h (fun _ => rfl) hx 0 _ rfl
  rw [el_add] at this
  exact this
/-! ### rows of u64 -/
def encW1 (n : Nat) : List Value := [.int .u64 (n : Int)]
def encW (l : List Nat) : List Value := l.flatMap encW1
theorem Rd.wordAt {w : World} {a : Option Addr} {n c m : Nat} {xs : List Nat} {x : Nat} (h : Rd w 1 a n c (encW xs)) (hx : xs[m]? = some x) : w.cell? (el a (m * 1)) = some (.int .u64 (x : Int)) := by
  have := Rd.elem (f := encW1) h (fun _ => rfl) hx 0 _ rfl
  rw [el_add] at this
  exact this

/-! ### whole numbers without a sign -/
theorem wrapN {k : IntKind} (hk : k.signed = false) (a : Nat) : k.wrap (a : Int) = ((a % 2 ^ k.bits : Nat) : Int) := by
  have e : ((2 : Int) ^ k.bits) = ((2 ^ k.bits : Nat) : Int) := by simp
  simp only [IntKind.wrap, hk]
  rw [e, ← Int.natCast_emod]
  simp
theorem wrapN_fit {k : IntKind} (hk : k.signed = false) {a : Nat} (h : a < 2 ^ k.bits) : k.wrap (a : Int) = (a : Int) := by rw [wrapN hk, Nat.mod_eq_of_lt h]
theorem ofInt_nat (n a : Nat) : BitVec.ofInt n (a : Int) = BitVec.ofNat n a := by simp

theorem bs_beq (l m : Bs) : (l == m) = decide (l = m) := by
  rw [Bool.eq_iff_iff]; simp

namespace D
variable {C : Cx} {W : World → Prop} {env : Env} {ty t u t2 : TypeId} {pos : String} {af : Array Edge} {gd : Option (Nat × Bool)} {ds : Option Tmp} {x y z : Operand} {k k' : IntKind}

theorem lenL {d : Nat} {l : Bs} [h : StrT C.P t] (hx : ev env x = some (.string ⟨l.toArray⟩)) : Det C W env ⟨some d, .call ⟨.builtin .len, #[x], #[t]⟩, ty, pos, af, gd⟩ (.int .i64 (l.length : Nat)) := by
  have := D.lenS (C := C) (W := W) (t := t) (d := d) (ty := ty) (pos := pos) (af := af) (gd := gd) hx
  rwa [str_size] at this
theorem idx {l : Bs} {b : UInt8} {j : Int} (m : Nat) [h : StrT C.P t] (hx : ev env x = some (.string ⟨l.toArray⟩)) (hy : ev env y = some (.int k j)) (hj : j = (m : Int)) (hb : l[m]? = some b) :
    Det C W env ⟨ds, .index t x y, ty, pos, af, gd⟩ (.int .u8 (b.toNat : Int)) := by
  obtain ⟨hm, he⟩ := List.getElem?_eq_some_iff.1 hb
  have hm' : m < (ByteArray.mk l.toArray).size := by rw [str_size]; exact hm
  have e : (ByteArray.mk l.toArray)[m]'hm' = b := by rw [str_get]; exact he
  have := D.indexStr (C := C) (T := W) (t := t) (ds := ds) (ty := ty) (pos := pos) (af := af) (gd := gd) m hx hy hj hm'
  rwa [e] at this
theorem cutH {l : Bs} {h : Nat} {hi : Operand} [ht : StrT C.P t] (hx : ev env x = some (.string ⟨l.toArray⟩)) (hhi : ev env hi = some (.int k (h : Int))) (h1 : h ≤ l.length) : Det C W env ⟨ds, .slice t x none (some hi) none, ty, pos, af, gd⟩ (.string ⟨(l.take h).toArray⟩) := ⟨fun ac w he _ => by
  have h2 : h ≤ (ByteArray.mk l.toArray).size := by rw [str_size]; exact h1
  simp only [str_size] at h2
  have e := str_extract l 0 h
  simp only [List.drop_zero, Nat.sub_zero] at e
  simp [execOp, he.ev hx, he.ev hhi, Instr.sliceAt, run_underlying ht.und, Instr.slice, Instr.sliceBounds, Instr.sliceBound, asIntOf, h1, h2, str_size, e]⟩
theorem cutL {l : Bs} {a : Nat} {lo : Operand} [ht : StrT C.P t] (hx : ev env x = some (.string ⟨l.toArray⟩)) (hlo : ev env lo = some (.int k (a : Int))) (h1 : a ≤ l.length) : Det C W env ⟨ds, .slice t x (some lo) none none, ty, pos, af, gd⟩ (.string ⟨(l.drop a).toArray⟩) := ⟨fun ac w he _ => by
  have e := str_extract l a l.length
  rw [List.take_of_length_le (by simp)] at e
  simp [execOp, he.ev hx, he.ev hlo, Instr.sliceAt, run_underlying ht.und, Instr.slice, Instr.sliceBounds, Instr.sliceBound, asIntOf, h1, str_size, e]⟩
theorem cutLH {l : Bs} {a h : Nat} {j1 j2 : Int} {lo hi : Operand} [ht : StrT C.P t] (hx : ev env x = some (.string ⟨l.toArray⟩)) (hlo : ev env lo = some (.int k j1)) (hhi : ev env hi = some (.int k' j2)) (e1 : j1 = (a : Int)) (e2 : j2 = (h : Int)) (h1 : a ≤ h ∧ h ≤ l.length) : Det C W env ⟨ds, .slice t x (some lo) (some hi) none, ty, pos, af, gd⟩ (.string ⟨((l.drop a).take (h - a)).toArray⟩) := ⟨fun ac w he _ => by
  subst e1; subst e2
  have e := str_extract l a h
  have h3 : (a : Int) ≤ (h : Int) := by omega
  simp [execOp, he.ev hx, he.ev hlo, he.ev hhi, Instr.sliceAt, run_underlying ht.und, Instr.slice, Instr.sliceBounds, Instr.sliceBound, asIntOf, h1.1, h1.2, str_size, e]⟩
theorem cat {l m : Bs} (hx : ev env x = some (.string ⟨l.toArray⟩)) (hy : ev env y = some (.string ⟨m.toArray⟩)) (hb : l.length + m.length ≤ 9223372036854775807) : Det C W env ⟨ds, .binOp .add t x y u, ty, pos, af, gd⟩ (.string ⟨(l ++ m).toArray⟩) := ⟨fun ac w he _ => by
  have h3 : IntKind.i64.max = 9223372036854775807 := by decide
  have h2 : ¬ ((l.length : Int) + (m.length : Int) > 9223372036854775807) := by omega
  have h4 : (l.length : Int) + (m.length : Int) ≤ 9223372036854775807 := by omega
  simp [execOp, he.ev hx, he.ev hy, eqGuard, binOp, Op.stringOp, str_size, h3, h4, str_append]⟩
theorem strEq {l m : Bs} (hx : ev env x = some (.string ⟨l.toArray⟩)) (hy : ev env y = some (.string ⟨m.toArray⟩)) : Det C W env ⟨ds, .binOp .eql t x y u, ty, pos, af, gd⟩ (.bool (decide (l = m))) := ⟨fun ac w he _ => by
  simp [execOp, he.ev hx, he.ev hy, eqGuard, binOp, Op.stringOp, bs_beq]⟩
theorem strNe {l m : Bs} (hx : ev env x = some (.string ⟨l.toArray⟩)) (hy : ev env y = some (.string ⟨m.toArray⟩)) : Det C W env ⟨ds, .binOp .neq t x y u, ty, pos, af, gd⟩ (.bool (decide (l ≠ m))) := ⟨fun ac w he _ => by
  simp [execOp, he.ev hx, he.ev hy, eqGuard, binOp, Op.stringOp, bs_beq]⟩
theorem toStr {e n c : Nat} {a : Option Addr} (l : Bs) [h1 : SlT C.P t e] [h2 : IntT C.P e .u8] [h3 : StrT C.P t2] (hx : ev env x = some (.slice a n c)) (hn : l.length = n) (hr : ∀ w, W w → Rd w 1 a n c (encY l)) : Det C W env ⟨ds, .convert t t2 x, ty, pos, af, gd⟩ (.string ⟨l.toArray⟩) := ⟨fun ac w he hw => by
  subst hn
  have hrd := hr w hw
  cases a with
  | none =>
    have h0 : l = [] := by
      rcases Nat.eq_zero_or_pos l.length with h | h
      · exact List.length_eq_zero_iff.1 h
      · have := hrd.sm h; simp at this
    subst h0
    simp [execOp, he.ev hx, run_convert_bytes_string w t t2 e none 0 c h1.und h2.und h3.und, Conv.bytesToString]
    rfl
  | some p =>
    have := run_convert_bytes_back (P := C.P) w t t2 e p c l h1.und h2.und h3.und (fun j hj => hrd.cell j _ (by rw [encY_map, List.getElem?_map, List.getElem?_eq_getElem hj]; rfl))
    simp [execOp, he.ev hx, this]⟩

theorem convN {a : Nat} [h1 : IntT C.P t k'] [h2 : IntT C.P t2 k] (hk : k.signed = false) (hx : ev env x = some (.int k' (a : Int))) : Det C W env ⟨ds, .convert t t2 x, ty, pos, af, gd⟩ (.int k ((a % 2 ^ k.bits : Nat) : Int)) := by
  have := D.conv (C := C) (W := W) (ds := ds) (ty := ty) (pos := pos) (af := af) (gd := gd) (t := t) (t2 := t2) (k := k) (k' := k') hx
  rwa [wrapN hk] at this
theorem conv64 {a : Nat} [h1 : IntT C.P t k'] [h2 : IntT C.P t2 .i64] (hx : ev env x = some (.int k' (a : Int))) (ha : a < 9223372036854775808) : Det C W env ⟨ds, .convert t t2 x, ty, pos, af, gd⟩ (.int .i64 (a : Int)) := by
  have := D.conv (C := C) (W := W) (ds := ds) (ty := ty) (pos := pos) (af := af) (gd := gd) (t := t) (t2 := t2) (k := .i64) (k' := k') hx
  rwa [D.wrap64_fit (by omega)] at this
theorem shrN {a b : Nat} (hx : ev env x = some (.int k (a : Int))) (hy : ev env y = some (.int k' (b : Int))) (hb : b ≤ k.bits) : Det C W env ⟨ds, .binOp .shr t x y u, ty, pos, af, gd⟩ (.int k ((a / 2 ^ b : Nat) : Int)) := by
  have := D.shr (C := C) (W := W) (ds := ds) (ty := ty) (pos := pos) (af := af) (gd := gd) (t := t) (u := u) hx hy (by omega)
  rw [Int.toNat_natCast, Nat.min_eq_left hb, Int.fdiv_eq_ediv_of_nonneg _ (Int.pow_nonneg (by decide))] at this
  have e : ((a : Int) / 2 ^ b) = ((a / 2 ^ b : Nat) : Int) := by simp
  rwa [e] at this
theorem bits {op : BinOp} {f : {n : Nat} → BitVec n → BitVec n → BitVec n} {a b r : Nat} (hk : k.signed = false) (hx : ev env x = some (.int k (a : Int))) (hy : ev env y = some (.int k (b : Int))) (hop : (op = .and ∧ @f = fun {n} x y => x &&& y) ∨ (op = .or ∧ @f = fun {n} x y => x ||| y) ∨ (op = .xor ∧ @f = fun {n} x y => x ^^^ y) ∨ (op = .andNot ∧ @f = fun {n} x y => x &&& ~~~y))
    (hr : (f (BitVec.ofNat k.bits a) (BitVec.ofNat k.bits b)).toNat = r) : Det C W env ⟨ds, .binOp op t x y u, ty, pos, af, gd⟩ (.int k (r : Int)) := ⟨fun ac w he _ => by
  subst hr
  have hw : ∀ v : BitVec k.bits, k.wrap (v.toNat : Int) = (v.toNat : Int) := fun v => wrapN_fit hk v.isLt
  rcases hop with ⟨rfl, rfl⟩ | ⟨rfl, rfl⟩ | ⟨rfl, rfl⟩ | ⟨rfl, rfl⟩ <;> simp only [execOp, he.ev hx, he.ev hy] <;> simp [eqGuard, binOp, Op.intBits, -BitVec.toNat_and, -BitVec.toNat_or, -BitVec.toNat_xor, -BitVec.toNat_ofNat] <;> exact hw _⟩
theorem xorN {a b : Nat} (hk : k.signed = false) (hx : ev env x = some (.int k (a : Int))) (hy : ev env y = some (.int k (b : Int))) (hb : a < 2 ^ k.bits ∧ b < 2 ^ k.bits) : Det C W env ⟨ds, .binOp .xor t x y u, ty, pos, af, gd⟩ (.int k ((a ^^^ b : Nat) : Int)) :=
  bits (f := fun {n} x y => x ^^^ y) hk hx hy (.inr (.inr (.inl ⟨rfl, rfl⟩))) (by simp [Nat.mod_eq_of_lt hb.1, Nat.mod_eq_of_lt hb.2])
theorem orN {a b : Nat} (hk : k.signed = false) (hx : ev env x = some (.int k (a : Int))) (hy : ev env y = some (.int k (b : Int))) (hb : a < 2 ^ k.bits ∧ b < 2 ^ k.bits) : Det C W env ⟨ds, .binOp .or t x y u, ty, pos, af, gd⟩ (.int k ((a ||| b : Nat) : Int)) :=
  bits (f := fun {n} x y => x ||| y) hk hx hy (.inr (.inl ⟨rfl, rfl⟩)) (by simp [Nat.mod_eq_of_lt hb.1, Nat.mod_eq_of_lt hb.2])
theorem andN {a b : Nat} (hk : k.signed = false) (hx : ev env x = some (.int k (a : Int))) (hy : ev env y = some (.int k (b : Int))) (hb : a < 2 ^ k.bits ∧ b < 2 ^ k.bits) : Det C W env ⟨ds, .binOp .and t x y u, ty, pos, af, gd⟩ (.int k ((a &&& b : Nat) : Int)) :=
  bits (f := fun {n} x y => x &&& y) hk hx hy (.inl ⟨rfl, rfl⟩) (by simp [Nat.mod_eq_of_lt hb.1, Nat.mod_eq_of_lt hb.2])
theorem notN {a : Nat} (hk : k.signed = false) (hx : ev env x = some (.int k (a : Int))) (ha : a < 2 ^ k.bits) : Det C W env ⟨ds, .unOp .xor t x, ty, pos, af, gd⟩ (.int k ((2 ^ k.bits - 1 - a : Nat) : Int)) := ⟨fun ac w he _ => by
  have hm : k.max = ((2 ^ k.bits - 1 : Nat) : Int) := by cases k <;> simp [IntKind.signed] at hk <;> decide
  have hx' : (BitVec.ofNat k.bits (2 ^ k.bits - 1) ^^^ BitVec.ofNat k.bits a).toNat = 2 ^ k.bits - 1 - a := by
    have e : BitVec.ofNat k.bits (2 ^ k.bits - 1) = BitVec.allOnes k.bits := by simp [BitVec.allOnes, BitVec.ofNatLT_eq_ofNat]
    rw [e, BitVec.allOnes_xor, BitVec.toNat_not]
    simp [Nat.mod_eq_of_lt ha]
  simp only [execOp, he.ev hx]
  simp only [Op.unary, hk, Bool.false_eq_true, if_false, hm, Op.intBits, ofInt_nat, hx', wrapN_fit hk (show 2 ^ k.bits - 1 - a < 2 ^ k.bits by omega)]
  simp⟩
theorem negN {a : Nat} (hk : k.signed = false) (hx : ev env x = some (.int k (a : Int))) (ha : a < 2 ^ k.bits) : Det C W env ⟨ds, .unOp .neg t x, ty, pos, af, gd⟩ (.int k (((2 ^ k.bits - a) % 2 ^ k.bits : Nat) : Int)) := ⟨fun ac w he _ => by
  have e : k.wrap (0 - (a : Int)) = (((2 ^ k.bits - a) % 2 ^ k.bits : Nat) : Int) := by
    rw [← wrapN hk]
    simp only [IntKind.wrap, hk]
    have : (0 - (a : Int)) % 2 ^ k.bits = ((2 ^ k.bits - a : Nat) : Int) % 2 ^ k.bits := by
      rw [Int.ofNat_sub (by omega)]
      simp [Int.sub_emod]
    rw [this]
  simp only [execOp, he.ev hx]
  simp only [Op.unary, Op.intArith, e]
  simp⟩
end D
end Go.Lx

/- Own layer, part p: short names: each operation's rule asks for few proofs by 'rfl', whatever its class, so that a region is walked by one list of rules. Plain theorems. -/
namespace Go.Lx
set_option linter.unusedVariables false
set_option linter.unusedSimpArgs false

abbrev Sd.a (i : Nat) (r : Sd) : Sd := .op .v0 i r
abbrev Sd.b (i : Nat) (r : Sd) : Sd := .op .v1 i r
abbrev Sd.c (i : Nat) (r : Sd) : Sd := .op .ch i r
abbrev Sd.f (i : Nat) (r : Sd) : Sd := .op .fin i r
abbrev Sd.n : Sd := .nil
/-- The text's order, without sums in it. -/
def Sd.tx : Nat → Nat → Sd
  | 0, _ => .nil
  | n + 1, k => .op .fin k (Sd.tx n (Nat.succ k))
theorem Sd.tx_eq : ∀ (n k : Nat), Sd.text n k = Sd.tx n k
  | 0, _ => rfl
  | n + 1, k => congrArg (Sd.op .fin k) (Sd.tx_eq n (k + 1))

section
variable {C : Cx} {A A' As : List Assn} {Q : Exit → Act → World → Prop} {S : World → Prop} {env : Env} {ops : Array Oper} {r : Sd} {i d : Nat} {v : Value} {cl : Cl} {x y z : Operand} {t u : TypeId} {op : Op}

/-- A value that is told by the moment's values alone, or of an operation that is not wanted. -/
def puV (env : Env) : Op → Option Value
  | .move x => ev env x
  | .assign x => ev env x
  | .nilCheck x => match ev env x with
    | some (.pointer (some p)) => some (.pointer (some p))
    | _ => none
  | .extract x ix => match ev env x with
    | some (.tuple vs) => vs.toList[ix]?
    | _ => none
  | .unOp .not _ x => match ev env x with
    | some (.bool c) => some (.bool !c)
    | _ => none
  | .pick x y z => match ev env x with
    | some (.bool true) => ev env y
    | some (.bool false) => ev env z
    | _ => none
  | _ => none
def pu (n : Nat) (ops : Array Oper) (env : Env) (i : Nat) : Option (Nat × Value) :=
  match ops[i]? with
  | none => none
  | some o => match o.dst with
    | none => none
    | some d => match Nat.blt d n with
      | false => none
      | true => match gok ops env o with
        | some false => some (d, undef)
        | some true => match puV env o.op with
          | some v => some (d, v)
          | none => none
        | none => none
/-- The operation that comes up, if it is wanted. -/
def nx (n : Nat) (ops : Array Oper) (env : Env) (i : Nat) : Option (Nat × Op) :=
  match ops[i]? with
  | none => none
  | some o => match o.dst with
    | none => none
    | some d => match Nat.blt d n with
      | false => none
      | true => match gok ops env o with
        | some true => some (d, o.op)
        | _ => none
theorem nx_spec {n : Nat} (h : nx n ops env i = some (d, op)) : ∃ ty pos af gd, ops[i]? = some ⟨some d, op, ty, pos, af, gd⟩ ∧ gok ops env ⟨some d, op, ty, pos, af, gd⟩ = some true ∧ Nat.blt d n = true := by
  unfold nx at h
  split at h
  · cases h
  · rename_i o ho
    split at h
    · cases h
    · rename_i d' hd
      split at h
      · cases h
      · rename_i hb
        split at h
        · rename_i hg
          cases h
          obtain ⟨ds, op, ty, pos, af, gd⟩ := o
          cases hd
          exact ⟨ty, pos, af, gd, ho, hg, hb⟩
        · cases h
theorem puV_det {o : Oper} (h : puV env o.op = some v) {W : World → Prop} : Det C W env o v := by
  obtain ⟨ds, op, ty, pos, af, gd⟩ := o
  dsimp only at h
  unfold puV at h
  split at h
  · exact D.move h
  · exact D.assign h
  · rename_i x
    split at h
    · rename_i p hx; cases h; exact D.nilCheck hx
    · cases h
  · rename_i x ix
    split at h
    · rename_i vs hx
      exact D.extract hx (by simpa using h)
    · cases h
  · rename_i x
    split at h
    · rename_i c hx; cases h; exact D.not hx
    · cases h
  · rename_i x y z
    split at h
    · rename_i hx; exact D.pickT hx h
    · rename_i hx; exact D.pickF hx h
    · cases h
  · cases h
theorem pu_spec {n : Nat} (h : pu n ops env i = some (d, v)) : ∃ o, ops[i]? = some o ∧ o.dst = some d ∧ Nat.blt d n = true ∧ ((gok ops env o = some false ∧ v = undef) ∨ (gok ops env o = some true ∧ puV env o.op = some v)) := by
  unfold pu at h
  split at h
  · cases h
  · rename_i o ho
    split at h
    · cases h
    · rename_i d' hd
      split at h
      · cases h
      · rename_i hb
        split at h
        · rename_i hg; cases h; exact ⟨o, ho, hd, hb, .inl ⟨hg, rfl⟩⟩
        · rename_i hg
          split at h
          · rename_i v' hv; cases h; exact ⟨o, ho, hd, hb, .inr ⟨hg, hv⟩⟩
          · cases h
        · cases h

class Nc (cl : Cl) : Prop where ne : cl ≠ .ch
instance : Nc .v0 := ⟨by simp⟩
instance : Nc .v1 := ⟨by simp⟩
instance : Nc .fin := ⟨by simp⟩
theorem XL.dt [h : Nc cl] (hn : nx C.n.n ops env i = some (d, op)) (hd : ∀ ty pos af gd, Det C (fun _ => True) env ⟨some d, op, ty, pos, af, gd⟩ v) (k : XL C ops Q S r ((d, v) :: env) A) : XL C ops Q S (.op cl i r) env A := by
  obtain ⟨ty, pos, af, gd, ho, hg, hb⟩ := nx_spec hn
  cases cl with
  | v0 => exact XL.det0 ho hg rfl hb (hd _ _ _ _) k
  | v1 => exact XL.det1 ho hg rfl hb ⟨fun a w he _ => (hd _ _ _ _).go a w he trivial⟩ k
  | fin => exact XL.det0F ho hg rfl hb (hd _ _ _ _) k
  | ch => exact absurd rfl h.ne
/-- What is told of memory where a load stands. -/
class Rl (cl : Cl) (C : Cx) (S : World → Prop) (A : List Assn) (As : outParam (List Assn)) : Prop where ok : (cl = .fin ∧ As = A) ∨ (cl = .v1 ∧ ∀ w, S w → Conf C As w)
instance : Rl .fin C S A A := ⟨.inl ⟨rfl, rfl⟩⟩
instance : Rl .v1 C (fun w => Conf C As w) A As := ⟨.inr ⟨rfl, fun w h => h⟩⟩
theorem XL.ld [h : Rl cl C S A As] (hn : nx C.n.n ops env i = some (d, op)) (hd : ∀ ty pos af gd, Det C (fun w => Conf C As w) env ⟨some d, op, ty, pos, af, gd⟩ v) (k : XL C ops Q S r ((d, v) :: env) A) : XL C ops Q S (.op cl i r) env A := by
  obtain ⟨ty, pos, af, gd, ho, hg, hb⟩ := nx_spec hn
  rcases h.ok with ⟨rfl, rfl⟩ | ⟨rfl, hS⟩
  · exact XL.detF ho hg rfl hb (hd _ _ _ _) k
  · exact XL.det1 ho hg rfl hb ⟨fun a w he hw => (hd _ _ _ _).go a w he (hS w hw)⟩ k

/-- A region in the text's order. -/
theorem X.tx {id : Nat} {ops : Array Oper} [hQ : NoPanic Q] (hnd : noDefer ops = true) (h : XL C ops Q (fun _ => True) (Sd.tx ops.size 0) env A) : X C (.region id ops false) Q env A := X.text (Sd.tx_eq _ _) hnd h
theorem no_ {a b : Bool} {p : Prop} (h : a = b) (e : (a == b) = false) : p := by subst h; cases a <;> cases e
section
variable {c e : Code} {id : Nat}
theorem XL.nn (h : X C e Q env A) : XL C ops (Exit.then (e.wpIn (fen C.n) 9 C.P Q) Q) S .nil env A := XL.nil (N.next h)
theorem X.st {ops : Array Oper} [hQ : NoPanic (Exit.then (e.wpIn (fen C.n) 9 C.P Q) Q)] (hnd : noDefer ops = true) (h : XL C ops (Exit.then (e.wpIn (fen C.n) 9 C.P Q) Q) (fun _ => True) (Sd.tx ops.size 0) env A) : X C (.seq (.region id ops false) e) Q env A := X.seq (X.text (Sd.tx_eq _ _) hnd h)
theorem X.sd {ops : Array Oper} [hQ : NoPanic (Exit.then (e.wpIn (fen C.n) 9 C.P Q) Q)] (σ : Sd) (hm : C.P.follows .mixedOrders = true) (hok : (noDefer ops && schedOk ops σ) = true) (h : XL C ops (Exit.then (e.wpIn (fen C.n) 9 C.P Q) Q) (fun w => Conf C A w) σ env A) : X C (.seq (.region id ops true) e) Q env A := X.seq (X.draw σ hm hok h)
/-- The way out of a body through what stands about it. -/
class Pk (Q : Exit → Act → World → Prop) (Q' : outParam (Exit → Act → World → Prop)) : Prop where up : ∀ {C env A}, Rt C Q' env A → Rt C Q env A
instance {P : Program} {fn : Func} {w0 : World} {H : Nat → Prop} {R : Value → List Assn → Prop} : Pk (Post P fn w0 H R) (Post P fn w0 H R) := ⟨fun k => k⟩
instance {K : Act → World → Prop} {Q Q' : Exit → Act → World → Prop} [h : Pk Q Q'] : Pk (Exit.then K Q) Q' := ⟨fun k => Rt.then (h.up k)⟩
instance {i : Nat} {Q Q' : Exit → Act → World → Prop} [h : Pk Q Q'] : Pk (Exit.inBlock i Q) Q' := ⟨fun k => Rt.block (h.up k)⟩
instance {Q Q' : Exit → Act → World → Prop} [h : Pk Q Q'] : Pk (Exit.noGoto Q) Q' := ⟨fun k => Rt.scope (h.up k)⟩
/-- A result's cell. -/
class Rc (P : Program) (t : TypeId) (cs : List Value) (v : outParam Value) : Prop where ok : ((∀ w, (isAgg t).run P w = .ok true w) ∧ (∀ w, (sizeOf t).run P w = .ok cs.length w) ∧ v = .agg cs.toArray) ∨ ((∀ w, (isAgg t).run P w = .ok false w) ∧ cs = [v])
instance {P : Program} {t n : Nat} {cs : List Value} [h1 : Ag P t] [h2 : Sz P t n] [h3 : Len cs n] : Rc P t cs (.agg cs.toArray) := ⟨.inl ⟨h1.agg, by rw [h3.eq]; exact h2.run, rfl⟩⟩
instance (priority := high) {P : Program} {t : Nat} {u : Value} [h1 : One P t] : Rc P t [u] u := ⟨.inr ⟨h1.one, rfl⟩⟩
theorem RV.of {b t g T' j : Nat} {cs : List Value} (h : env.lookup b = some (.pointer (some ⟨g, 0, none⟩))) [hl : Loc A g cs T' j] [hc : Rc C.P t cs v] : RV C env A (.cell b t) v := by
  intro a w he hw
  rcases hc.ok with ⟨h1, h2, rfl⟩ | ⟨h1, rfl⟩
  · have := run_loadCells_list (P := C.P) w ⟨g, 0, none⟩ cs (fun j u hu => by rw [at_add, Nat.zero_add]; exact hw.cellAt hl.at_ hu)
    simp [he.getD h, asAddr, loadVar, h1, h2, this]
  · simp [he.getD h, asAddr, loadVar, h1, hw.cellAt (o := 0) hl.at_ rfl]
variable {P : Program} {fn : Func} {w0 : World} {H : Nat → Prop} {R : Value → List Assn → Prop} {n : Nat} {ro : Option Nat} {B : List Assn} {q1 q2 q3 : ResultVar} {v2 v3 : Value}
theorem X.r0 [hp : Pk Q (Post P fn w0 H R)] (h : fn.results = #[]) (hR : R (.tuple #[]) B) (hA : ∀ w, Conf ⟨P, ⟨n, none, ro⟩, w0, H⟩ A w → Conf ⟨P, ⟨n, none, ro⟩, w0, H⟩ B w) : X ⟨P, ⟨n, none, ro⟩, w0, H⟩ .ret Q env A := X.ret (hp.up (Rt.done (Res.r0 h) hR hA))
theorem X.r1 [hp : Pk Q (Post P fn w0 H R)] (h : fn.results = #[q1]) (h1 : RV ⟨P, ⟨n, none, ro⟩, w0, H⟩ env A q1 v) (hR : R v B) (hA : ∀ w, Conf ⟨P, ⟨n, none, ro⟩, w0, H⟩ A w → Conf ⟨P, ⟨n, none, ro⟩, w0, H⟩ B w) : X ⟨P, ⟨n, none, ro⟩, w0, H⟩ .ret Q env A := X.ret (hp.up (Rt.done (Res.r1 h h1) hR hA))
theorem X.r2 [hp : Pk Q (Post P fn w0 H R)] (h : fn.results = #[q1, q2]) (h1 : RV ⟨P, ⟨n, none, ro⟩, w0, H⟩ env A q1 v) (h2 : RV ⟨P, ⟨n, none, ro⟩, w0, H⟩ env A q2 v2) (hR : R (.tuple #[v, v2]) B) (hA : ∀ w, Conf ⟨P, ⟨n, none, ro⟩, w0, H⟩ A w → Conf ⟨P, ⟨n, none, ro⟩, w0, H⟩ B w) : X ⟨P, ⟨n, none, ro⟩, w0, H⟩ .ret Q env A := X.ret (hp.up (Rt.done (Res.r2 h h1 h2) hR hA))
end
namespace Z
theorem p [h : Nc cl] (hp : pu C.n.n ops env i = some (d, v)) (k : XL C ops Q S r ((d, v) :: env) A) : XL C ops Q S (.op cl i r) env A := by
  obtain ⟨o, ho, hd, hb, h1⟩ := pu_spec hp
  rcases h1 with ⟨hg, rfl⟩ | ⟨hg, hv⟩
  · cases cl with
    | v0 => exact XL.skip0 ho hg hd hb k
    | v1 => exact XL.skip1 ho hg hd hb k
    | fin => exact XL.skipF ho hg hd hb k
    | ch => exact absurd rfl h.ne
  · cases cl with
    | v0 => exact XL.det0 ho hg hd hb (puV_det hv) k
    | v1 => exact XL.det1 ho hg hd hb (puV_det hv) k
    | fin => exact XL.det0F ho hg hd hb (puV_det hv) k
    | ch => exact absurd rfl h.ne
/-- Whole numbers: what an operation yields of two of them. -/
def bi (n : Nat) (ops : Array Oper) (env : Env) (i : Nat) : Option (Nat × Value) :=
  match nx n ops env i with
  | some (d, .binOp op _ x y _) => match ev env x with
    | some (.int k a) => match ev env y with
      | some (.int k' b) => match decide (k = k') with
        | true => match D.intBin op k a b with
          | some v => some (d, v)
          | none => none
        | false => none
      | _ => none
    | _ => none
  | _ => none
theorem bi_spec {n : Nat} (h : bi n ops env i = some (d, v)) : ∃ op, nx n ops env i = some (d, op) ∧ ∀ {C : Cx} ty pos af gd, Det C (fun _ => True) env ⟨some d, op, ty, pos, af, gd⟩ v := by
  unfold bi at h
  split at h
  · rename_i d' op t x y u hn
    split at h
    · rename_i k a hx
      split at h
      · rename_i k' b hy
        split at h
        · rename_i hk
          have hk' : k = k' := of_decide_eq_true hk
          subst hk'
          split at h
          · rename_i v' hv
            cases h
            exact ⟨_, hn, fun ty pos af gd => D.int hx hy hv⟩
          · cases h
        · cases h
      · cases h
    · cases h
  · cases h
theorem w [Nc cl] (h : bi C.n.n ops env i = some (d, v)) (k : XL C ops Q S r ((d, v) :: env) A) : XL C ops Q S (.op cl i r) env A := by
  obtain ⟨op, hn, hd⟩ := bi_spec h
  exact XL.dt hn hd k
theorem ct [Nc cl] {p : Prop} [Decidable p] (h : bi C.n.n ops env i = some (d, .bool (decide p))) (hp : p) (k : XL C ops Q S r ((d, .bool true) :: env) A) : XL C ops Q S (.op cl i r) env A :=
  Z.w (by rw [h]; simp [hp]) k
theorem cf [Nc cl] {p : Prop} [Decidable p] (h : bi C.n.n ops env i = some (d, .bool (decide p))) (hp : ¬ p) (k : XL C ops Q S r ((d, .bool false) :: env) A) : XL C ops Q S (.op cl i r) env A :=
  Z.w (by rw [h]; simp [hp]) k
theorem cs [Nc cl] {p : Prop} [Decidable p] (h : bi C.n.n ops env i = some (d, .bool (decide p))) (k : p → XL C ops Q S r ((d, .bool true) :: env) A) (k' : ¬ p → XL C ops Q S r ((d, .bool false) :: env) A) : XL C ops Q S (.op cl i r) env A := by
  by_cases hp : p
  · exact Z.ct h hp (k hp)
  · exact Z.cf h hp (k' hp)
/-- Whole numbers of 64 bits, where nothing is cut off. -/
def ar (n : Nat) (ops : Array Oper) (env : Env) (i : Nat) : Option (Nat × Int × Prop) :=
  match nx n ops env i with
  | some (d, .binOp op _ x y _) => match ev env x with
    | some (.int .i64 a) => match ev env y with
      | some (.int .i64 b) => match op with
        | .add => some (d, a + b, -9223372036854775808 ≤ a + b ∧ a + b ≤ 9223372036854775807)
        | .sub => some (d, a - b, -9223372036854775808 ≤ a - b ∧ a - b ≤ 9223372036854775807)
        | .mul => some (d, a * b, -9223372036854775808 ≤ a * b ∧ a * b ≤ 9223372036854775807)
        | _ => none
      | _ => none
    | _ => none
  | _ => none
theorem g [Nc cl] {n : Int} {p : Prop} (h : ar C.n.n ops env i = some (d, n, p)) (hp : p) (k : XL C ops Q S r ((d, .int .i64 n) :: env) A) : XL C ops Q S (.op cl i r) env A := by
  unfold ar at h
  split at h
  · rename_i d' op t x y u hn
    split at h
    · rename_i a hx
      split at h
      · rename_i b hy
        split at h
        · cases h; exact XL.dt hn (fun ty pos af gd => D.add64 hx hy hp) k
        · cases h; exact XL.dt hn (fun ty pos af gd => D.sub64 hx hy hp) k
        · cases h; exact XL.dt hn (fun ty pos af gd => D.mul64 hx hy hp) k
        · cases h
      · cases h
    · cases h
  · cases h
theorem quo [Nc cl] {kk : IntKind} {a b : Int} (hn : nx C.n.n ops env i = some (d, .binOp .quo t x y u)) (hx : ev env x = some (.int kk a)) (hy : ev env y = some (.int kk b)) (hb : b ≠ 0) (k : XL C ops Q S r ((d, .int kk (kk.wrap (a.tdiv b))) :: env) A) : XL C ops Q S (.op cl i r) env A :=
  XL.dt hn (fun ty pos af gd => D.quo hx hy hb) k
theorem pk [Nc cl] {c : Bool} {v1 v2 : Value} (hn : nx C.n.n ops env i = some (d, .pick x y z)) (hx : ev env x = some (.bool c)) (hy : ev env y = some v1) (hz : ev env z = some v2) (k : XL C ops Q S r ((d, if c then v1 else v2) :: env) A) : XL C ops Q S (.op cl i r) env A :=
  XL.dt hn (fun ty pos af gd => D.pick hx hy hz) k
/-- An address and a field's place. -/
class Pl (p : Addr) (off : Nat) (q : outParam Addr) : Prop where eq : p.add off = q
instance (priority := 400) {g o off : Nat} : Pl ⟨g, o, none⟩ off ⟨g, o + off, none⟩ := ⟨at_add g o off⟩
instance (priority := 300) {a : Option Addr} {o off : Nat} : Pl (el a o) off (el a (o + off)) := ⟨el_add a o off⟩
instance (priority := 500) {p : Addr} : Pl p 0 p := ⟨at_zero p⟩
theorem fa [Nc cl] {p q : Addr} {f off ft sz : Nat} (hn : nx C.n.n ops env i = some (d, .fieldAddr t x f)) (hx : ev env x = some (.pointer (some p))) [h1 : Fld C.P t f off ft] [hs : Sz C.P ft sz] [hq : Pl p off q] (hz : (sz == 0) = false) (k : XL C ops Q S r ((d, .pointer (some q)) :: env) A) : XL C ops Q S (.op cl i r) env A :=
  XL.dt hn (fun ty pos af gd => by rw [← hq.eq]; exact D.fieldAddr hz hx) k
theorem f1 [Nc cl] {cs : Array Value} {f off ft : Nat} (hn : nx C.n.n ops env i = some (d, .field t x f)) (hx : ev env x = some (.agg cs)) [h1 : Fld C.P t f off ft] [h2 : One C.P ft] (hv : cs[off]? = some v) (k : XL C ops Q S r ((d, v) :: env) A) : XL C ops Q S (.op cl i r) env A :=
  XL.dt hn (fun ty pos af gd => D.field1 hx hv) k
theorem fN [Nc cl] {cs : Array Value} {f off ft sz : Nat} (hn : nx C.n.n ops env i = some (d, .field t x f)) (hx : ev env x = some (.agg cs)) [h1 : Fld C.P t f off ft] [h2 : Ag C.P ft] [h3 : Sz C.P ft sz] (k : XL C ops Q S r ((d, .agg (cs.extract off (off + sz))) :: env) A) : XL C ops Q S (.op cl i r) env A :=
  XL.dt hn (fun ty pos af gd => D.fieldN hx) k
theorem mf [Nc cl] {fn : Fn} {first captured : Array Operand} {fs cs : List Value} (hn : nx C.n.n ops env i = some (d, .makeFunc fn first captured)) (h1 : evs env first.toList = some fs) (h2 : evs env captured.toList = some cs) (k : XL C ops Q S r ((d, .func fn fs.toArray cs.toArray) :: env) A) : XL C ops Q S (.op cl i r) env A :=
  XL.dt hn (fun ty pos af gd => D.makeFunc h1 h2) k
theorem bd [Nc cl] {parts : Array (Nat × Operand)} {ps : List (Nat × Value)} {zs cs : List Value} {pl : List (Nat × Nat)} (hn : nx C.n.n ops env i = some (d, .build t parts)) (hp : evps env parts.toList = some ps) [hst : StT C.P t pl zs] [hf : Fill pl zs ps cs] (k : XL C ops Q S r ((d, .agg cs.toArray) :: env) A) : XL C ops Q S (.op cl i r) env A :=
  XL.dt hn (fun ty pos af gd => D.build hp) k
theorem l1 [Rl cl C S A As] {g o T j : Nat} {cs : List Value} (hn : nx C.n.n ops env i = some (d, .load t x)) [h1 : One C.P t] (hx : ev env x = some (.pointer (some ⟨g, o, none⟩))) [hl : Loc As g cs T j] (hv : cs[o]? = some v) (k : XL C ops Q S r ((d, v) :: env) A) : XL C ops Q S (.op cl i r) env A :=
  XL.ld hn (fun ty pos af gd => D.load1 hx (fun w h => h.cellAt hl.at_ hv)) k
theorem lN [Rl cl C S A As] {g T j sz : Nat} {cs : List Value} (hn : nx C.n.n ops env i = some (d, .load t x)) [h1 : Ag C.P t] [hs : Sz C.P t sz] (hx : ev env x = some (.pointer (some ⟨g, 0, none⟩))) [hl : Loc As g cs T j] (hlen : (cs.length == sz) = true) (k : XL C ops Q S r ((d, .agg cs.toArray) :: env) A) : XL C ops Q S (.op cl i r) env A :=
  XL.ld hn (fun ty pos af gd => D.loadN hx hlen (fun w h j u hu => by rw [at_add, Nat.zero_add]; exact h.cellAt hl.at_ hu)) k
theorem lP [Rl cl C S A As] {g o T j sz : Nat} {cs cs' : List Value} (hn : nx C.n.n ops env i = some (d, .load t x)) [h1 : Ag C.P t] [hs : Sz C.P t sz] (hx : ev env x = some (.pointer (some ⟨g, o, none⟩))) [hl : Loc As g cs T j] [hp : Part cs o sz cs'] (hlen : (cs'.length == sz) = true) (k : XL C ops Q S r ((d, .agg cs'.toArray) :: env) A) : XL C ops Q S (.op cl i r) env A :=
  XL.ld hn (fun ty pos af gd => D.loadP hx hlen) k
theorem cv [Nc cl] {t2 : TypeId} {kk k' : IntKind} {m : Int} (hn : nx C.n.n ops env i = some (d, .convert t t2 x)) [h1 : IntT C.P t k'] [h2 : IntT C.P t2 kk] (hx : ev env x = some (.int k' m)) (k : XL C ops Q S r ((d, .int kk (kk.wrap m)) :: env) A) : XL C ops Q S (.op cl i r) env A :=
  XL.dt hn (fun ty pos af gd => D.conv hx) k
theorem ln [Nc cl] {e n c : Nat} {ad : Option Addr} (hn : nx C.n.n ops env i = some (d, .call ⟨.builtin .len, #[x], #[t]⟩)) [h : SlT C.P t e] (hx : ev env x = some (.slice ad n c)) (k : XL C ops Q S r ((d, .int .i64 n) :: env) A) : XL C ops Q S (.op cl i r) env A :=
  XL.dt hn (fun ty pos af gd => D.len hx) k
theorem lnL [Nc cl] {l : Bs} (hn : nx C.n.n ops env i = some (d, .call ⟨.builtin .len, #[x], #[t]⟩)) [h : StrT C.P t] (hx : ev env x = some (.string ⟨l.toArray⟩)) (k : XL C ops Q S r ((d, .int .i64 (l.length : Nat)) :: env) A) : XL C ops Q S (.op cl i r) env A :=
  XL.dt hn (fun ty pos af gd => D.lenL hx) k
theorem lnS [Nc cl] {s : ByteArray} (hn : nx C.n.n ops env i = some (d, .call ⟨.builtin .len, #[x], #[t]⟩)) [h : StrT C.P t] (hx : ev env x = some (.string s)) (k : XL C ops Q S r ((d, .int .i64 s.size) :: env) A) : XL C ops Q S (.op cl i r) env A :=
  XL.dt hn (fun ty pos af gd => D.lenS hx) k
theorem cap [Nc cl] {e n c : Nat} {ad : Option Addr} (hn : nx C.n.n ops env i = some (d, .call ⟨.builtin .cap, #[x], #[t]⟩)) [h : SlT C.P t e] (hx : ev env x = some (.slice ad n c)) (k : XL C ops Q S r ((d, .int .i64 c) :: env) A) : XL C ops Q S (.op cl i r) env A :=
  XL.dt hn (fun ty pos af gd => D.cap hx) k
theorem mn [Nc cl] {ats : Array TypeId} {kk k' : IntKind} {a b : Int} (hn : nx C.n.n ops env i = some (d, .call ⟨.builtin .min, #[x, y], ats⟩)) (hx : ev env x = some (.int kk a)) (hy : ev env y = some (.int k' b)) (k : XL C ops Q S r ((d, .int kk (min a b)) :: env) A) : XL C ops Q S (.op cl i r) env A :=
  XL.dt hn (fun ty pos af gd => D.min2 hx hy) k
theorem mx [Nc cl] {ats : Array TypeId} {kk k' : IntKind} {a b : Int} (hn : nx C.n.n ops env i = some (d, .call ⟨.builtin .max, #[x, y], ats⟩)) (hx : ev env x = some (.int kk a)) (hy : ev env y = some (.int k' b)) (k : XL C ops Q S r ((d, .int kk (max a b)) :: env) A) : XL C ops Q S (.op cl i r) env A :=
  XL.dt hn (fun ty pos af gd => D.max2 hx hy) k
section
variable {k0 k1 : IntKind} {a0 a1 b0 b1 : Int}
theorem eq2 [Nc cl] (hn : nx C.n.n ops env i = some (d, .binOp .eql t x y u)) [h : EqS C.P t [k0, k1]] (hx : ev env x = some (.agg #[.int k0 a0, .int k1 a1])) (hy : ev env y = some (.agg #[.int k0 b0, .int k1 b1]))
    (k : (a0 = b0 ∧ a1 = b1) → XL C ops Q S r ((d, .bool true) :: env) A) (k' : ¬ (a0 = b0 ∧ a1 = b1) → XL C ops Q S r ((d, .bool false) :: env) A) : XL C ops Q S (.op cl i r) env A := by
  by_cases hp : a0 = b0 ∧ a1 = b1
  · exact XL.dt hn (fun ty pos af gd => by have := D.eqS2 (C := C) (W := fun _ => True) (env := env) (ty := ty) (pos := pos) (af := af) (gd := gd) (ds := some d) (t := t) (u := u) hx hy; simpa [hp] using this) (k hp)
  · exact XL.dt hn (fun ty pos af gd => by have := D.eqS2 (C := C) (W := fun _ => True) (env := env) (ty := ty) (pos := pos) (af := af) (gd := gd) (ds := some d) (t := t) (u := u) hx hy; rwa [decide_eq_false hp] at this) (k' hp)
theorem eq2T [Nc cl] (hn : nx C.n.n ops env i = some (d, .binOp .eql t x y u)) [h : EqS C.P t [k0, k1]] (hx : ev env x = some (.agg #[.int k0 a0, .int k1 a1])) (hy : ev env y = some (.agg #[.int k0 b0, .int k1 b1])) (hp : a0 = b0 ∧ a1 = b1)
    (k : XL C ops Q S r ((d, .bool true) :: env) A) : XL C ops Q S (.op cl i r) env A := Z.eq2 hn hx hy (fun _ => k) (fun h => absurd hp h)
end
theorem eqN [Nc cl] {e n c : Nat} {a : Option Addr} (hn : nx C.n.n ops env i = some (d, .binOp .eql t x y u)) [h : SlT C.P t e] (hx : ev env x = some (.slice a n c)) (hy : ev env y = some (.slice none 0 0)) (k : XL C ops Q S r ((d, .bool a.isNone) :: env) A) : XL C ops Q S (.op cl i r) env A :=
  XL.dt hn (fun ty pos af gd => D.eqNilS hx hy) k
theorem eqB [Nc cl] {a b : Bool} (hn : nx C.n.n ops env i = some (d, .binOp .eql t x y u)) [h : BoolT C.P t] (hx : ev env x = some (.bool a)) (hy : ev env y = some (.bool b)) (k : XL C ops Q S r ((d, .bool (a == b)) :: env) A) : XL C ops Q S (.op cl i r) env A :=
  XL.dt hn (fun ty pos af gd => D.boolEq hx hy) k
theorem neB [Nc cl] {a b : Bool} (hn : nx C.n.n ops env i = some (d, .binOp .neq t x y u)) [h : BoolT C.P t] (hx : ev env x = some (.bool a)) (hy : ev env y = some (.bool b)) (k : XL C ops Q S r ((d, .bool (!(a == b))) :: env) A) : XL C ops Q S (.op cl i r) env A :=
  XL.dt hn (fun ty pos af gd => D.boolNe hx hy) k
theorem eqP [Nc cl] {e : Nat} {p : Option Addr} (hn : nx C.n.n ops env i = some (d, .binOp .eql t x y u)) [h : PtrT C.P t e] (hx : ev env x = some (.pointer p)) (hy : ev env y = some (.pointer none)) (k : XL C ops Q S r ((d, .bool p.isNone) :: env) A) : XL C ops Q S (.op cl i r) env A :=
  XL.dt hn (fun ty pos af gd => D.eqNilP hx hy) k
theorem neP [Nc cl] {e : Nat} {p : Option Addr} (hn : nx C.n.n ops env i = some (d, .binOp .neq t x y u)) [h : PtrT C.P t e] (hx : ev env x = some (.pointer p)) (hy : ev env y = some (.pointer none)) (k : XL C ops Q S r ((d, .bool (!p.isNone)) :: env) A) : XL C ops Q S (.op cl i r) env A :=
  XL.dt hn (fun ty pos af gd => D.neNilP hx hy) k
end Z
end
end Go.Lx

/- The types and functions of this seat's translation, as instances of the own layer's classes. Printed by gen_ty.py. -/
namespace Go.Lx
open Go.Proofs
set_option maxRecDepth 100000
instance : Sz Tryz.prog 1 1 := Sz.mk' (by kernel_rfl)
instance : One Tryz.prog 1 := One.mk' Tryz.underlying1 rfl
instance : Zc Tryz.prog 1 [(.nilFunc)] := Zc.mk' (z := .nilFunc) (by kernel_rfl) rfl
instance : ElT Tryz.prog 1 1 8 := ElT.mk' (z := .nilFunc) (by kernel_rfl) rfl (by decide)
instance : Sz Tryz.prog 2 1 := Sz.mk' (by kernel_rfl)
instance : IntT Tryz.prog 2 .i64 := ⟨Tryz.underlying2⟩
instance : One Tryz.prog 2 := One.mk' Tryz.underlying2 rfl
instance : Zc Tryz.prog 2 [(.int .i64 0)] := Zc.mk' (z := .int .i64 0) (by kernel_rfl) rfl
instance : ElT Tryz.prog 2 1 8 := ElT.mk' (z := .int .i64 0) (by kernel_rfl) rfl (by decide)
instance : Sz Tryz.prog 3 1 := Sz.mk' (by kernel_rfl)
instance : IntT Tryz.prog 3 .i64 := ⟨Tryz.underlying3⟩
instance : One Tryz.prog 3 := One.mk' Tryz.underlying3 rfl
instance : Zc Tryz.prog 3 [(.int .i64 0)] := Zc.mk' (z := .int .i64 0) (by kernel_rfl) rfl
instance : ElT Tryz.prog 3 1 8 := ElT.mk' (z := .int .i64 0) (by kernel_rfl) rfl (by decide)
instance : Sz Tryz.prog 4 1 := Sz.mk' (by kernel_rfl)
instance : BoolT Tryz.prog 4 := ⟨Tryz.underlying4⟩
instance : One Tryz.prog 4 := One.mk' Tryz.underlying4 rfl
instance : Zc Tryz.prog 4 [(.bool false)] := Zc.mk' (z := .bool false) (by kernel_rfl) rfl
instance : ElT Tryz.prog 4 1 1 := ElT.mk' (z := .bool false) (by kernel_rfl) rfl (by decide)
instance : Sz Tryz.prog 5 1 := Sz.mk' (by kernel_rfl)
instance : IntT Tryz.prog 5 .u8 := ⟨Tryz.underlying5⟩
instance : One Tryz.prog 5 := One.mk' Tryz.underlying5 rfl
instance : Zc Tryz.prog 5 [(.int .u8 0)] := Zc.mk' (z := .int .u8 0) (by kernel_rfl) rfl
instance : ElT Tryz.prog 5 1 1 := ElT.mk' (z := .int .u8 0) (by kernel_rfl) rfl (by decide)
instance : Sz Tryz.prog 6 1 := Sz.mk' (by kernel_rfl)
instance : IntT Tryz.prog 6 .u8 := ⟨Tryz.underlying6⟩
instance : One Tryz.prog 6 := One.mk' Tryz.underlying6 rfl
instance : Zc Tryz.prog 6 [(.int .u8 0)] := Zc.mk' (z := .int .u8 0) (by kernel_rfl) rfl
instance : ElT Tryz.prog 6 1 1 := ElT.mk' (z := .int .u8 0) (by kernel_rfl) rfl (by decide)
instance : Sz Tryz.prog 9 1 := Sz.mk' (by kernel_rfl)
instance : StrT Tryz.prog 9 := ⟨Tryz.underlying9⟩
instance : One Tryz.prog 9 := One.mk' Tryz.underlying9 rfl
instance : Zc Tryz.prog 9 [(.string ByteArray.empty)] := Zc.mk' (z := .string ByteArray.empty) (by kernel_rfl) rfl
instance : ElT Tryz.prog 9 1 16 := ElT.mk' (z := .string ByteArray.empty) (by kernel_rfl) rfl (by decide)
instance : Sz Tryz.prog 20 1 := Sz.mk' (by kernel_rfl)
instance : One Tryz.prog 20 := One.mk' Tryz.underlying20 rfl
instance : Zc Tryz.prog 20 [(.nilIface)] := Zc.mk' (z := .nilIface) (by kernel_rfl) rfl
instance : ElT Tryz.prog 20 1 16 := ElT.mk' (z := .nilIface) (by kernel_rfl) rfl (by decide)
instance : Sz Tryz.prog 22 1 := Sz.mk' (by kernel_rfl)
instance : SlT Tryz.prog 22 36 := ⟨Tryz.underlying22⟩
instance : One Tryz.prog 22 := One.mk' Tryz.underlying22 rfl
instance : Zc Tryz.prog 22 [(.slice none 0 0)] := Zc.mk' (z := .slice none 0 0) (by kernel_rfl) rfl
instance : ElT Tryz.prog 22 1 24 := ElT.mk' (z := .slice none 0 0) (by kernel_rfl) rfl (by decide)
instance : Sz Tryz.prog 23 1 := Sz.mk' (by kernel_rfl)
instance : IntT Tryz.prog 23 .u64 := ⟨Tryz.underlying23⟩
instance : One Tryz.prog 23 := One.mk' Tryz.underlying23 rfl
instance : Zc Tryz.prog 23 [(.int .u64 0)] := Zc.mk' (z := .int .u64 0) (by kernel_rfl) rfl
instance : ElT Tryz.prog 23 1 8 := ElT.mk' (z := .int .u64 0) (by kernel_rfl) rfl (by decide)
instance : Sz Tryz.prog 27 1 := Sz.mk' (by kernel_rfl)
instance : PtrT Tryz.prog 27 77 := ⟨Tryz.underlying27⟩
instance : One Tryz.prog 27 := One.mk' Tryz.underlying27 rfl
instance : Zc Tryz.prog 27 [(.pointer none)] := Zc.mk' (z := .pointer none) (by kernel_rfl) rfl
instance : ElT Tryz.prog 27 1 8 := ElT.mk' (z := .pointer none) (by kernel_rfl) rfl (by decide)
instance : Sz Tryz.prog 28 1 := Sz.mk' (by kernel_rfl)
instance : IntT Tryz.prog 28 .i64 := ⟨Tryz.underlying28⟩
instance : One Tryz.prog 28 := One.mk' Tryz.underlying28 rfl
instance : Zc Tryz.prog 28 [(.int .i64 0)] := Zc.mk' (z := .int .i64 0) (by kernel_rfl) rfl
instance : ElT Tryz.prog 28 1 8 := ElT.mk' (z := .int .i64 0) (by kernel_rfl) rfl (by decide)
instance : Sz Tryz.prog 31 1 := Sz.mk' (by kernel_rfl)
instance : PtrT Tryz.prog 31 56 := ⟨Tryz.underlying31⟩
instance : One Tryz.prog 31 := One.mk' Tryz.underlying31 rfl
instance : Zc Tryz.prog 31 [(.pointer none)] := Zc.mk' (z := .pointer none) (by kernel_rfl) rfl
instance : ElT Tryz.prog 31 1 8 := ElT.mk' (z := .pointer none) (by kernel_rfl) rfl (by decide)
instance : Sz Tryz.prog 33 1 := Sz.mk' (by kernel_rfl)
instance : One Tryz.prog 33 := One.mk' Tryz.underlying33 rfl
instance : Zc Tryz.prog 33 [(.nilFunc)] := Zc.mk' (z := .nilFunc) (by kernel_rfl) rfl
instance : ElT Tryz.prog 33 1 8 := ElT.mk' (z := .nilFunc) (by kernel_rfl) rfl (by decide)
instance : Sz Tryz.prog 34 1 := Sz.mk' (by kernel_rfl)
instance : SlT Tryz.prog 34 63 := ⟨Tryz.underlying34⟩
instance : One Tryz.prog 34 := One.mk' Tryz.underlying34 rfl
instance : Zc Tryz.prog 34 [(.slice none 0 0)] := Zc.mk' (z := .slice none 0 0) (by kernel_rfl) rfl
instance : ElT Tryz.prog 34 1 24 := ElT.mk' (z := .slice none 0 0) (by kernel_rfl) rfl (by decide)
instance : Sz Tryz.prog 36 6 := Sz.mk' (by kernel_rfl)
instance : Ag Tryz.prog 36 := Ag.mk' Tryz.underlying36 rfl
instance : Fld Tryz.prog 36 0 0 3 := Fld.mk' Tryz.underlying36 rfl
instance : Fld Tryz.prog 36 1 1 3 := Fld.mk' Tryz.underlying36 rfl
instance : Fld Tryz.prog 36 2 2 3 := Fld.mk' Tryz.underlying36 rfl
instance : Fld Tryz.prog 36 3 3 34 := Fld.mk' Tryz.underlying36 rfl
instance : Fld Tryz.prog 36 4 4 9 := Fld.mk' Tryz.underlying36 rfl
instance : Fld Tryz.prog 36 5 5 9 := Fld.mk' Tryz.underlying36 rfl
instance : Zc Tryz.prog 36 [(.int .i64 0), (.int .i64 0), (.int .i64 0), (.slice none 0 0), (.string ByteArray.empty), (.string ByteArray.empty)] := Zc.mk' (z := .agg #[(.int .i64 0), (.int .i64 0), (.int .i64 0), (.slice none 0 0), (.string ByteArray.empty), (.string ByteArray.empty)]) (by kernel_rfl) rfl
instance : StT Tryz.prog 36 [(0, 1), (1, 1), (2, 1), (3, 1), (4, 1), (5, 1)] [(.int .i64 0), (.int .i64 0), (.int .i64 0), (.slice none 0 0), (.string ByteArray.empty), (.string ByteArray.empty)] := StT.mk' (z := .agg #[(.int .i64 0), (.int .i64 0), (.int .i64 0), (.slice none 0 0), (.string ByteArray.empty), (.string ByteArray.empty)]) Tryz.underlying36 (by kernel_rfl) rfl (by kernel_rfl)
instance : ElT Tryz.prog 36 6 80 := ElT.mk' (z := .agg #[(.int .i64 0), (.int .i64 0), (.int .i64 0), (.slice none 0 0), (.string ByteArray.empty), (.string ByteArray.empty)]) (by kernel_rfl) rfl (by decide)
instance : Sz Tryz.prog 38 6 := Sz.mk' (by kernel_rfl)
instance : Ag Tryz.prog 38 := Ag.mk' Tryz.underlying38 rfl
instance : Fld Tryz.prog 38 0 0 3 := Fld.mk' Tryz.underlying38 rfl
instance : Fld Tryz.prog 38 1 1 3 := Fld.mk' Tryz.underlying38 rfl
instance : Fld Tryz.prog 38 2 2 3 := Fld.mk' Tryz.underlying38 rfl
instance : Fld Tryz.prog 38 3 3 34 := Fld.mk' Tryz.underlying38 rfl
instance : Fld Tryz.prog 38 4 4 9 := Fld.mk' Tryz.underlying38 rfl
instance : Fld Tryz.prog 38 5 5 9 := Fld.mk' Tryz.underlying38 rfl
instance : Zc Tryz.prog 38 [(.int .i64 0), (.int .i64 0), (.int .i64 0), (.slice none 0 0), (.string ByteArray.empty), (.string ByteArray.empty)] := Zc.mk' (z := .agg #[(.int .i64 0), (.int .i64 0), (.int .i64 0), (.slice none 0 0), (.string ByteArray.empty), (.string ByteArray.empty)]) (by kernel_rfl) rfl
instance : StT Tryz.prog 38 [(0, 1), (1, 1), (2, 1), (3, 1), (4, 1), (5, 1)] [(.int .i64 0), (.int .i64 0), (.int .i64 0), (.slice none 0 0), (.string ByteArray.empty), (.string ByteArray.empty)] := StT.mk' (z := .agg #[(.int .i64 0), (.int .i64 0), (.int .i64 0), (.slice none 0 0), (.string ByteArray.empty), (.string ByteArray.empty)]) Tryz.underlying38 (by kernel_rfl) rfl (by kernel_rfl)
instance : ElT Tryz.prog 38 6 80 := ElT.mk' (z := .agg #[(.int .i64 0), (.int .i64 0), (.int .i64 0), (.slice none 0 0), (.string ByteArray.empty), (.string ByteArray.empty)]) (by kernel_rfl) rfl (by decide)
instance : Sz Tryz.prog 40 1 := Sz.mk' (by kernel_rfl)
instance : SlT Tryz.prog 40 70 := ⟨Tryz.underlying40⟩
instance : One Tryz.prog 40 := One.mk' Tryz.underlying40 rfl
instance : Zc Tryz.prog 40 [(.slice none 0 0)] := Zc.mk' (z := .slice none 0 0) (by kernel_rfl) rfl
instance : ElT Tryz.prog 40 1 24 := ElT.mk' (z := .slice none 0 0) (by kernel_rfl) rfl (by decide)
instance : Sz Tryz.prog 42 7 := Sz.mk' (by kernel_rfl)
instance : Ag Tryz.prog 42 := Ag.mk' Tryz.underlying42 rfl
instance : Fld Tryz.prog 42 0 0 23 := Fld.mk' Tryz.underlying42 rfl
instance : Fld Tryz.prog 42 1 1 3 := Fld.mk' Tryz.underlying42 rfl
instance : Fld Tryz.prog 42 2 2 3 := Fld.mk' Tryz.underlying42 rfl
instance : Fld Tryz.prog 42 3 3 3 := Fld.mk' Tryz.underlying42 rfl
instance : Fld Tryz.prog 42 4 4 40 := Fld.mk' Tryz.underlying42 rfl
instance : Fld Tryz.prog 42 5 5 34 := Fld.mk' Tryz.underlying42 rfl
instance : Fld Tryz.prog 42 6 6 9 := Fld.mk' Tryz.underlying42 rfl
instance : Zc Tryz.prog 42 [(.int .u64 0), (.int .i64 0), (.int .i64 0), (.int .i64 0), (.slice none 0 0), (.slice none 0 0), (.string ByteArray.empty)] := Zc.mk' (z := .agg #[(.int .u64 0), (.int .i64 0), (.int .i64 0), (.int .i64 0), (.slice none 0 0), (.slice none 0 0), (.string ByteArray.empty)]) (by kernel_rfl) rfl
instance : StT Tryz.prog 42 [(0, 1), (1, 1), (2, 1), (3, 1), (4, 1), (5, 1), (6, 1)] [(.int .u64 0), (.int .i64 0), (.int .i64 0), (.int .i64 0), (.slice none 0 0), (.slice none 0 0), (.string ByteArray.empty)] := StT.mk' (z := .agg #[(.int .u64 0), (.int .i64 0), (.int .i64 0), (.int .i64 0), (.slice none 0 0), (.slice none 0 0), (.string ByteArray.empty)]) Tryz.underlying42 (by kernel_rfl) rfl (by kernel_rfl)
instance : ElT Tryz.prog 42 7 96 := ElT.mk' (z := .agg #[(.int .u64 0), (.int .i64 0), (.int .i64 0), (.int .i64 0), (.slice none 0 0), (.slice none 0 0), (.string ByteArray.empty)]) (by kernel_rfl) rfl (by decide)
instance : Sz Tryz.prog 53 1 := Sz.mk' (by kernel_rfl)
instance : SlT Tryz.prog 53 4 := ⟨Tryz.underlying53⟩
instance : One Tryz.prog 53 := One.mk' Tryz.underlying53 rfl
instance : Zc Tryz.prog 53 [(.slice none 0 0)] := Zc.mk' (z := .slice none 0 0) (by kernel_rfl) rfl
instance : ElT Tryz.prog 53 1 24 := ElT.mk' (z := .slice none 0 0) (by kernel_rfl) rfl (by decide)
instance : Sz Tryz.prog 54 1 := Sz.mk' (by kernel_rfl)
instance : SlT Tryz.prog 54 9 := ⟨Tryz.underlying54⟩
instance : One Tryz.prog 54 := One.mk' Tryz.underlying54 rfl
instance : Zc Tryz.prog 54 [(.slice none 0 0)] := Zc.mk' (z := .slice none 0 0) (by kernel_rfl) rfl
instance : ElT Tryz.prog 54 1 24 := ElT.mk' (z := .slice none 0 0) (by kernel_rfl) rfl (by decide)
instance : Sz Tryz.prog 56 5 := Sz.mk' (by kernel_rfl)
instance : Ag Tryz.prog 56 := Ag.mk' Tryz.underlying56 rfl
instance : Fld Tryz.prog 56 0 0 3 := Fld.mk' Tryz.underlying56 rfl
instance : Fld Tryz.prog 56 1 1 53 := Fld.mk' Tryz.underlying56 rfl
instance : Fld Tryz.prog 56 2 2 54 := Fld.mk' Tryz.underlying56 rfl
instance : Fld Tryz.prog 56 3 3 3 := Fld.mk' Tryz.underlying56 rfl
instance : Fld Tryz.prog 56 4 4 3 := Fld.mk' Tryz.underlying56 rfl
instance : Zc Tryz.prog 56 [(.int .i64 0), (.slice none 0 0), (.slice none 0 0), (.int .i64 0), (.int .i64 0)] := Zc.mk' (z := .agg #[(.int .i64 0), (.slice none 0 0), (.slice none 0 0), (.int .i64 0), (.int .i64 0)]) (by kernel_rfl) rfl
instance : StT Tryz.prog 56 [(0, 1), (1, 1), (2, 1), (3, 1), (4, 1)] [(.int .i64 0), (.slice none 0 0), (.slice none 0 0), (.int .i64 0), (.int .i64 0)] := StT.mk' (z := .agg #[(.int .i64 0), (.slice none 0 0), (.slice none 0 0), (.int .i64 0), (.int .i64 0)]) Tryz.underlying56 (by kernel_rfl) rfl (by kernel_rfl)
instance : ElT Tryz.prog 56 5 72 := ElT.mk' (z := .agg #[(.int .i64 0), (.slice none 0 0), (.slice none 0 0), (.int .i64 0), (.int .i64 0)]) (by kernel_rfl) rfl (by decide)
instance : Sz Tryz.prog 63 2 := Sz.mk' (by kernel_rfl)
instance : Ag Tryz.prog 63 := Ag.mk' Tryz.underlying63 rfl
instance : EqS Tryz.prog 63 [.i64, .i64] := EqS.mk' Tryz.underlying63 (by kernel_rfl) (by kernel_rfl) (by kernel_rfl)
instance : Fld Tryz.prog 63 0 0 3 := Fld.mk' Tryz.underlying63 rfl
instance : Fld Tryz.prog 63 1 1 3 := Fld.mk' Tryz.underlying63 rfl
instance : Zc Tryz.prog 63 [(.int .i64 0), (.int .i64 0)] := Zc.mk' (z := .agg #[(.int .i64 0), (.int .i64 0)]) (by kernel_rfl) rfl
instance : StT Tryz.prog 63 [(0, 1), (1, 1)] [(.int .i64 0), (.int .i64 0)] := StT.mk' (z := .agg #[(.int .i64 0), (.int .i64 0)]) Tryz.underlying63 (by kernel_rfl) rfl (by kernel_rfl)
instance : ElT Tryz.prog 63 2 16 := ElT.mk' (z := .agg #[(.int .i64 0), (.int .i64 0)]) (by kernel_rfl) rfl (by decide)
instance : Sz Tryz.prog 68 2 := Sz.mk' (by kernel_rfl)
instance : Ag Tryz.prog 68 := Ag.mk' Tryz.underlying68 rfl
instance : EqS Tryz.prog 68 [.i64, .i64] := EqS.mk' Tryz.underlying68 (by kernel_rfl) (by kernel_rfl) (by kernel_rfl)
instance : Fld Tryz.prog 68 0 0 3 := Fld.mk' Tryz.underlying68 rfl
instance : Fld Tryz.prog 68 1 1 3 := Fld.mk' Tryz.underlying68 rfl
instance : Zc Tryz.prog 68 [(.int .i64 0), (.int .i64 0)] := Zc.mk' (z := .agg #[(.int .i64 0), (.int .i64 0)]) (by kernel_rfl) rfl
instance : StT Tryz.prog 68 [(0, 1), (1, 1)] [(.int .i64 0), (.int .i64 0)] := StT.mk' (z := .agg #[(.int .i64 0), (.int .i64 0)]) Tryz.underlying68 (by kernel_rfl) rfl (by kernel_rfl)
instance : ElT Tryz.prog 68 2 16 := ElT.mk' (z := .agg #[(.int .i64 0), (.int .i64 0)]) (by kernel_rfl) rfl (by decide)
instance : Sz Tryz.prog 70 4 := Sz.mk' (by kernel_rfl)
instance : Ag Tryz.prog 70 := Ag.mk' Tryz.underlying70 rfl
instance : Fld Tryz.prog 70 0 0 63 := Fld.mk' Tryz.underlying70 rfl
instance : Fld Tryz.prog 70 1 2 68 := Fld.mk' Tryz.underlying70 rfl
instance : Zc Tryz.prog 70 [(.int .i64 0), (.int .i64 0), (.int .i64 0), (.int .i64 0)] := Zc.mk' (z := .agg #[(.int .i64 0), (.int .i64 0), (.int .i64 0), (.int .i64 0)]) (by kernel_rfl) rfl
instance : StT Tryz.prog 70 [(0, 2), (2, 2)] [(.int .i64 0), (.int .i64 0), (.int .i64 0), (.int .i64 0)] := StT.mk' (z := .agg #[(.int .i64 0), (.int .i64 0), (.int .i64 0), (.int .i64 0)]) Tryz.underlying70 (by kernel_rfl) rfl (by kernel_rfl)
instance : ElT Tryz.prog 70 4 32 := ElT.mk' (z := .agg #[(.int .i64 0), (.int .i64 0), (.int .i64 0), (.int .i64 0)]) (by kernel_rfl) rfl (by decide)
instance : Sz Tryz.prog 72 1 := Sz.mk' (by kernel_rfl)
instance : One Tryz.prog 72 := One.mk' Tryz.underlying72 rfl
instance : Zc Tryz.prog 72 [(.nilFunc)] := Zc.mk' (z := .nilFunc) (by kernel_rfl) rfl
instance : ElT Tryz.prog 72 1 8 := ElT.mk' (z := .nilFunc) (by kernel_rfl) rfl (by decide)
instance : Sz Tryz.prog 75 1 := Sz.mk' (by kernel_rfl)
instance : One Tryz.prog 75 := One.mk' Tryz.underlying75 rfl
instance : Zc Tryz.prog 75 [(.map none)] := Zc.mk' (z := .map none) (by kernel_rfl) rfl
instance : ElT Tryz.prog 75 1 8 := ElT.mk' (z := .map none) (by kernel_rfl) rfl (by decide)
instance : Sz Tryz.prog 77 4 := Sz.mk' (by kernel_rfl)
instance : Ag Tryz.prog 77 := Ag.mk' Tryz.underlying77 rfl
instance : Fld Tryz.prog 77 0 0 3 := Fld.mk' Tryz.underlying77 rfl
instance : Fld Tryz.prog 77 1 1 75 := Fld.mk' Tryz.underlying77 rfl
instance : Fld Tryz.prog 77 2 2 3 := Fld.mk' Tryz.underlying77 rfl
instance : Fld Tryz.prog 77 3 3 3 := Fld.mk' Tryz.underlying77 rfl
instance : Zc Tryz.prog 77 [(.int .i64 0), (.map none), (.int .i64 0), (.int .i64 0)] := Zc.mk' (z := .agg #[(.int .i64 0), (.map none), (.int .i64 0), (.int .i64 0)]) (by kernel_rfl) rfl
instance : StT Tryz.prog 77 [(0, 1), (1, 1), (2, 1), (3, 1)] [(.int .i64 0), (.map none), (.int .i64 0), (.int .i64 0)] := StT.mk' (z := .agg #[(.int .i64 0), (.map none), (.int .i64 0), (.int .i64 0)]) Tryz.underlying77 (by kernel_rfl) rfl (by kernel_rfl)
instance : ElT Tryz.prog 77 4 32 := ElT.mk' (z := .agg #[(.int .i64 0), (.map none), (.int .i64 0), (.int .i64 0)]) (by kernel_rfl) rfl (by decide)
instance : Sz Tryz.prog 79 1 := Sz.mk' (by kernel_rfl)
instance : StrT Tryz.prog 79 := ⟨Tryz.underlying79⟩
instance : One Tryz.prog 79 := One.mk' Tryz.underlying79 rfl
instance : Zc Tryz.prog 79 [(.string ByteArray.empty)] := Zc.mk' (z := .string ByteArray.empty) (by kernel_rfl) rfl
instance : ElT Tryz.prog 79 1 16 := ElT.mk' (z := .string ByteArray.empty) (by kernel_rfl) rfl (by decide)
instance : Sz Tryz.prog 85 1 := Sz.mk' (by kernel_rfl)
instance : PtrT Tryz.prog 85 88 := ⟨Tryz.underlying85⟩
instance : One Tryz.prog 85 := One.mk' Tryz.underlying85 rfl
instance : Zc Tryz.prog 85 [(.pointer none)] := Zc.mk' (z := .pointer none) (by kernel_rfl) rfl
instance : ElT Tryz.prog 85 1 8 := ElT.mk' (z := .pointer none) (by kernel_rfl) rfl (by decide)
instance : Sz Tryz.prog 86 1 := Sz.mk' (by kernel_rfl)
instance : SlT Tryz.prog 86 5 := ⟨Tryz.underlying86⟩
instance : One Tryz.prog 86 := One.mk' Tryz.underlying86 rfl
instance : Zc Tryz.prog 86 [(.slice none 0 0)] := Zc.mk' (z := .slice none 0 0) (by kernel_rfl) rfl
instance : ElT Tryz.prog 86 1 24 := ElT.mk' (z := .slice none 0 0) (by kernel_rfl) rfl (by decide)
instance : Sz Tryz.prog 88 2 := Sz.mk' (by kernel_rfl)
instance : Ag Tryz.prog 88 := Ag.mk' Tryz.underlying88 rfl
instance : Fld Tryz.prog 88 0 0 85 := Fld.mk' Tryz.underlying88 rfl
instance : Fld Tryz.prog 88 1 1 86 := Fld.mk' Tryz.underlying88 rfl
instance : Zc Tryz.prog 88 [(.pointer none), (.slice none 0 0)] := Zc.mk' (z := .agg #[(.pointer none), (.slice none 0 0)]) (by kernel_rfl) rfl
instance : StT Tryz.prog 88 [(0, 1), (1, 1)] [(.pointer none), (.slice none 0 0)] := StT.mk' (z := .agg #[(.pointer none), (.slice none 0 0)]) Tryz.underlying88 (by kernel_rfl) rfl (by kernel_rfl)
instance : ElT Tryz.prog 88 2 32 := ElT.mk' (z := .agg #[(.pointer none), (.slice none 0 0)]) (by kernel_rfl) rfl (by decide)
instance : Sz Tryz.prog 90 1 := Sz.mk' (by kernel_rfl)
instance : One Tryz.prog 90 := One.mk' Tryz.underlying90 rfl
instance : Zc Tryz.prog 90 [(.nilIface)] := Zc.mk' (z := .nilIface) (by kernel_rfl) rfl
instance : ElT Tryz.prog 90 1 16 := ElT.mk' (z := .nilIface) (by kernel_rfl) rfl (by decide)
instance : Sz Tryz.prog 104 1 := Sz.mk' (by kernel_rfl)
instance : IntT Tryz.prog 104 .u32 := ⟨Tryz.underlying104⟩
instance : One Tryz.prog 104 := One.mk' Tryz.underlying104 rfl
instance : Zc Tryz.prog 104 [(.int .u32 0)] := Zc.mk' (z := .int .u32 0) (by kernel_rfl) rfl
instance : ElT Tryz.prog 104 1 4 := ElT.mk' (z := .int .u32 0) (by kernel_rfl) rfl (by decide)
instance : Sz Tryz.prog 109 1 := Sz.mk' (by kernel_rfl)
instance : One Tryz.prog 109 := One.mk' Tryz.underlying109 rfl
instance : Zc Tryz.prog 109 [(.nilFunc)] := Zc.mk' (z := .nilFunc) (by kernel_rfl) rfl
instance : ElT Tryz.prog 109 1 8 := ElT.mk' (z := .nilFunc) (by kernel_rfl) rfl (by decide)
instance : Sz Tryz.prog 110 1 := Sz.mk' (by kernel_rfl)
instance : One Tryz.prog 110 := One.mk' Tryz.underlying110 rfl
instance : Zc Tryz.prog 110 [(.nilFunc)] := Zc.mk' (z := .nilFunc) (by kernel_rfl) rfl
instance : ElT Tryz.prog 110 1 8 := ElT.mk' (z := .nilFunc) (by kernel_rfl) rfl (by decide)
instance : Sz Tryz.prog 112 3 := Sz.mk' (by kernel_rfl)
instance : Ag Tryz.prog 112 := Ag.mk' Tryz.underlying112 rfl
instance : Fld Tryz.prog 112 0 0 33 := Fld.mk' Tryz.underlying112 rfl
instance : Fld Tryz.prog 112 1 1 109 := Fld.mk' Tryz.underlying112 rfl
instance : Fld Tryz.prog 112 2 2 110 := Fld.mk' Tryz.underlying112 rfl
instance : Zc Tryz.prog 112 [(.nilFunc), (.nilFunc), (.nilFunc)] := Zc.mk' (z := .agg #[(.nilFunc), (.nilFunc), (.nilFunc)]) (by kernel_rfl) rfl
instance : StT Tryz.prog 112 [(0, 1), (1, 1), (2, 1)] [(.nilFunc), (.nilFunc), (.nilFunc)] := StT.mk' (z := .agg #[(.nilFunc), (.nilFunc), (.nilFunc)]) Tryz.underlying112 (by kernel_rfl) rfl (by kernel_rfl)
instance : ElT Tryz.prog 112 3 24 := ElT.mk' (z := .agg #[(.nilFunc), (.nilFunc), (.nilFunc)]) (by kernel_rfl) rfl (by decide)
instance : Sz Tryz.prog 113 12 := Sz.mk' (by kernel_rfl)
instance : ArrT Tryz.prog 113 4 112 := ⟨Tryz.underlying113⟩
instance : Ag Tryz.prog 113 := Ag.mk' Tryz.underlying113 rfl
instance : Zc Tryz.prog 113 [(.nilFunc), (.nilFunc), (.nilFunc), (.nilFunc), (.nilFunc), (.nilFunc), (.nilFunc), (.nilFunc), (.nilFunc), (.nilFunc), (.nilFunc), (.nilFunc)] := Zc.mk' (z := .agg #[(.nilFunc), (.nilFunc), (.nilFunc), (.nilFunc), (.nilFunc), (.nilFunc), (.nilFunc), (.nilFunc), (.nilFunc), (.nilFunc), (.nilFunc), (.nilFunc)]) (by kernel_rfl) rfl
instance : ElT Tryz.prog 113 12 96 := ElT.mk' (z := .agg #[(.nilFunc), (.nilFunc), (.nilFunc), (.nilFunc), (.nilFunc), (.nilFunc), (.nilFunc), (.nilFunc), (.nilFunc), (.nilFunc), (.nilFunc), (.nilFunc)]) (by kernel_rfl) rfl (by decide)
instance : Sz Tryz.prog 116 1 := Sz.mk' (by kernel_rfl)
instance : One Tryz.prog 116 := One.mk' Tryz.underlying116 rfl
instance : Zc Tryz.prog 116 [(.nilFunc)] := Zc.mk' (z := .nilFunc) (by kernel_rfl) rfl
instance : ElT Tryz.prog 116 1 8 := ElT.mk' (z := .nilFunc) (by kernel_rfl) rfl (by decide)
instance : Sz Tryz.prog 119 1 := Sz.mk' (by kernel_rfl)
instance : PtrT Tryz.prog 119 5 := ⟨Tryz.underlying119⟩
instance : One Tryz.prog 119 := One.mk' Tryz.underlying119 rfl
instance : Zc Tryz.prog 119 [(.pointer none)] := Zc.mk' (z := .pointer none) (by kernel_rfl) rfl
instance : ElT Tryz.prog 119 1 8 := ElT.mk' (z := .pointer none) (by kernel_rfl) rfl (by decide)
instance : Sz Tryz.prog 127 1 := Sz.mk' (by kernel_rfl)
instance : Ag Tryz.prog 127 := Ag.mk' Tryz.underlying127 rfl
instance : Fld Tryz.prog 127 0 0 86 := Fld.mk' Tryz.underlying127 rfl
instance : Zc Tryz.prog 127 [(.slice none 0 0)] := Zc.mk' (z := .agg #[(.slice none 0 0)]) (by kernel_rfl) rfl
instance : StT Tryz.prog 127 [(0, 1)] [(.slice none 0 0)] := StT.mk' (z := .agg #[(.slice none 0 0)]) Tryz.underlying127 (by kernel_rfl) rfl (by kernel_rfl)
instance : ElT Tryz.prog 127 1 24 := ElT.mk' (z := .agg #[(.slice none 0 0)]) (by kernel_rfl) rfl (by decide)
instance : Sz Tryz.prog 141 1 := Sz.mk' (by kernel_rfl)
instance : PtrT Tryz.prog 141 127 := ⟨Tryz.underlying141⟩
instance : One Tryz.prog 141 := One.mk' Tryz.underlying141 rfl
instance : Zc Tryz.prog 141 [(.pointer none)] := Zc.mk' (z := .pointer none) (by kernel_rfl) rfl
instance : ElT Tryz.prog 141 1 8 := ElT.mk' (z := .pointer none) (by kernel_rfl) rfl (by decide)
instance : Sz Tryz.prog 143 1 := Sz.mk' (by kernel_rfl)
instance : SlT Tryz.prog 143 3 := ⟨Tryz.underlying143⟩
instance : One Tryz.prog 143 := One.mk' Tryz.underlying143 rfl
instance : Zc Tryz.prog 143 [(.slice none 0 0)] := Zc.mk' (z := .slice none 0 0) (by kernel_rfl) rfl
instance : ElT Tryz.prog 143 1 24 := ElT.mk' (z := .slice none 0 0) (by kernel_rfl) rfl (by decide)
instance : Sz Tryz.prog 145 1 := Sz.mk' (by kernel_rfl)
instance : One Tryz.prog 145 := One.mk' Tryz.underlying145 rfl
instance : Zc Tryz.prog 145 [(.nilFunc)] := Zc.mk' (z := .nilFunc) (by kernel_rfl) rfl
instance : ElT Tryz.prog 145 1 8 := ElT.mk' (z := .nilFunc) (by kernel_rfl) rfl (by decide)
instance : Sz Tryz.prog 146 1 := Sz.mk' (by kernel_rfl)
instance : One Tryz.prog 146 := One.mk' Tryz.underlying146 rfl
instance : Zc Tryz.prog 146 [(.nilFunc)] := Zc.mk' (z := .nilFunc) (by kernel_rfl) rfl
instance : ElT Tryz.prog 146 1 8 := ElT.mk' (z := .nilFunc) (by kernel_rfl) rfl (by decide)
instance : Sz Tryz.prog 148 1 := Sz.mk' (by kernel_rfl)
instance : One Tryz.prog 148 := One.mk' Tryz.underlying148 rfl
instance : Zc Tryz.prog 148 [(.pointer none)] := Zc.mk' (z := .pointer none) (by kernel_rfl) rfl
instance : ElT Tryz.prog 148 1 8 := ElT.mk' (z := .pointer none) (by kernel_rfl) rfl (by decide)
instance : Sz Tryz.prog 156 1 := Sz.mk' (by kernel_rfl)
instance : IntT Tryz.prog 156 .u64 := ⟨Tryz.underlying156⟩
instance : One Tryz.prog 156 := One.mk' Tryz.underlying156 rfl
instance : Zc Tryz.prog 156 [(.int .u64 0)] := Zc.mk' (z := .int .u64 0) (by kernel_rfl) rfl
instance : ElT Tryz.prog 156 1 8 := ElT.mk' (z := .int .u64 0) (by kernel_rfl) rfl (by decide)
instance : Sz Tryz.prog 175 1 := Sz.mk' (by kernel_rfl)
instance : SlT Tryz.prog 175 23 := ⟨Tryz.underlying175⟩
instance : One Tryz.prog 175 := One.mk' Tryz.underlying175 rfl
instance : Zc Tryz.prog 175 [(.slice none 0 0)] := Zc.mk' (z := .slice none 0 0) (by kernel_rfl) rfl
instance : ElT Tryz.prog 175 1 24 := ElT.mk' (z := .slice none 0 0) (by kernel_rfl) rfl (by decide)
instance : Sz Tryz.prog 181 1 := Sz.mk' (by kernel_rfl)
instance : One Tryz.prog 181 := One.mk' Tryz.underlying181 rfl
instance : Zc Tryz.prog 181 [(.nilFunc)] := Zc.mk' (z := .nilFunc) (by kernel_rfl) rfl
instance : ElT Tryz.prog 181 1 8 := ElT.mk' (z := .nilFunc) (by kernel_rfl) rfl (by decide)
instance : Sz Tryz.prog 185 1 := Sz.mk' (by kernel_rfl)
instance : IntT Tryz.prog 185 .i64 := ⟨Tryz.underlying185⟩
instance : One Tryz.prog 185 := One.mk' Tryz.underlying185 rfl
instance : Zc Tryz.prog 185 [(.int .i64 0)] := Zc.mk' (z := .int .i64 0) (by kernel_rfl) rfl
instance : ElT Tryz.prog 185 1 8 := ElT.mk' (z := .int .i64 0) (by kernel_rfl) rfl (by decide)
instance : Enters Tryz.prog 4 := Enters.mk' Tryz.func4 (by kernel_rfl) (by kernel_rfl)
instance : Enters Tryz.prog 7 := Enters.mk' Tryz.func7 (by kernel_rfl) (by kernel_rfl)
instance : Enters Tryz.prog 8 := Enters.mk' Tryz.func8 (by kernel_rfl) (by kernel_rfl)
instance : Enters Tryz.prog 9 := Enters.mk' Tryz.func9 (by kernel_rfl) (by kernel_rfl)
instance : Enters Tryz.prog 10 := Enters.mk' Tryz.func10 (by kernel_rfl) (by kernel_rfl)
instance : Enters Tryz.prog 11 := Enters.mk' Tryz.func11 (by kernel_rfl) (by kernel_rfl)
instance : Enters Tryz.prog 12 := Enters.mk' Tryz.func12 (by kernel_rfl) (by kernel_rfl)
instance : Enters Tryz.prog 13 := Enters.mk' Tryz.func13 (by kernel_rfl) (by kernel_rfl)
instance : Enters Tryz.prog 14 := Enters.mk' Tryz.func14 (by kernel_rfl) (by kernel_rfl)
instance : Enters Tryz.prog 18 := Enters.mk' Tryz.func18 (by kernel_rfl) (by kernel_rfl)
instance : Enters Tryz.prog 19 := Enters.mk' Tryz.func19 (by kernel_rfl) (by kernel_rfl)
instance : Enters Tryz.prog 20 := Enters.mk' Tryz.func20 (by kernel_rfl) (by kernel_rfl)
instance : Enters Tryz.prog 21 := Enters.mk' Tryz.func21 (by kernel_rfl) (by kernel_rfl)
instance : Enters Tryz.prog 22 := Enters.mk' Tryz.func22 (by kernel_rfl) (by kernel_rfl)
instance : Enters Tryz.prog 23 := Enters.mk' Tryz.func23 (by kernel_rfl) (by kernel_rfl)
instance : Enters Tryz.prog 24 := Enters.mk' Tryz.func24 (by kernel_rfl) (by kernel_rfl)
instance : Enters Tryz.prog 27 := Enters.mk' Tryz.func27 (by kernel_rfl) (by kernel_rfl)
instance : Enters Tryz.prog 28 := Enters.mk' Tryz.func28 (by kernel_rfl) (by kernel_rfl)
instance : Enters Tryz.prog 29 := Enters.mk' Tryz.func29 (by kernel_rfl) (by kernel_rfl)
instance : Enters Tryz.prog 30 := Enters.mk' Tryz.func30 (by kernel_rfl) (by kernel_rfl)
instance : Enters Tryz.prog 31 := Enters.mk' Tryz.func31 (by kernel_rfl) (by kernel_rfl)
instance : Enters Tryz.prog 32 := Enters.mk' Tryz.func32 (by kernel_rfl) (by kernel_rfl)
instance : Enters Tryz.prog 33 := Enters.mk' Tryz.func33 (by kernel_rfl) (by kernel_rfl)
instance : Enters Tryz.prog 34 := Enters.mk' Tryz.func34 (by kernel_rfl) (by kernel_rfl)
instance : Enters Tryz.prog 35 := Enters.mk' Tryz.func35 (by kernel_rfl) (by kernel_rfl)
instance : Enters Tryz.prog 36 := Enters.mk' Tryz.func36 (by kernel_rfl) (by kernel_rfl)
instance : Enters Tryz.prog 37 := Enters.mk' Tryz.func37 (by kernel_rfl) (by kernel_rfl)
instance : Enters Tryz.prog 38 := Enters.mk' Tryz.func38 (by kernel_rfl) (by kernel_rfl)
instance : Enters Tryz.prog 39 := Enters.mk' Tryz.func39 (by kernel_rfl) (by kernel_rfl)
instance : Enters Tryz.prog 40 := Enters.mk' Tryz.func40 (by kernel_rfl) (by kernel_rfl)
instance : Enters Tryz.prog 42 := Enters.mk' Tryz.func42 (by kernel_rfl) (by kernel_rfl)
instance : Enters Tryz.prog 43 := Enters.mk' Tryz.func43 (by kernel_rfl) (by kernel_rfl)
instance : Enters Tryz.prog 44 := Enters.mk' Tryz.func44 (by kernel_rfl) (by kernel_rfl)
instance : Enters Tryz.prog 45 := Enters.mk' Tryz.func45 (by kernel_rfl) (by kernel_rfl)
instance : Enters Tryz.prog 50 := Enters.mk' Tryz.func50 (by kernel_rfl) (by kernel_rfl)
instance : Enters Tryz.prog 51 := Enters.mk' Tryz.func51 (by kernel_rfl) (by kernel_rfl)
instance : Enters Tryz.prog 52 := Enters.mk' Tryz.func52 (by kernel_rfl) (by kernel_rfl)
instance : Enters Tryz.prog 54 := Enters.mk' Tryz.func54 (by kernel_rfl) (by kernel_rfl)
instance : Enters Tryz.prog 55 := Enters.mk' Tryz.func55 (by kernel_rfl) (by kernel_rfl)
instance : Enters Tryz.prog 56 := Enters.mk' Tryz.func56 (by kernel_rfl) (by kernel_rfl)
instance : Enters Tryz.prog 57 := Enters.mk' Tryz.func57 (by kernel_rfl) (by kernel_rfl)
instance : Enters Tryz.prog 58 := Enters.mk' Tryz.func58 (by kernel_rfl) (by kernel_rfl)
instance : Enters Tryz.prog 59 := Enters.mk' Tryz.func59 (by kernel_rfl) (by kernel_rfl)
instance : Enters Tryz.prog 60 := Enters.mk' Tryz.func60 (by kernel_rfl) (by kernel_rfl)
instance : Enters Tryz.prog 64 := Enters.mk' Tryz.func64 (by kernel_rfl) (by kernel_rfl)
instance : Enters Tryz.prog 65 := Enters.mk' Tryz.func65 (by kernel_rfl) (by kernel_rfl)
instance : Enters Tryz.prog 66 := Enters.mk' Tryz.func66 (by kernel_rfl) (by kernel_rfl)
instance : Enters Tryz.prog 67 := Enters.mk' Tryz.func67 (by kernel_rfl) (by kernel_rfl)
instance : Enters Tryz.prog 68 := Enters.mk' Tryz.func68 (by kernel_rfl) (by kernel_rfl)
instance : Enters Tryz.prog 78 := Enters.mk' Tryz.func78 (by kernel_rfl) (by kernel_rfl)
instance : Enters Tryz.prog 79 := Enters.mk' Tryz.func79 (by kernel_rfl) (by kernel_rfl)
instance : Enters Tryz.prog 84 := Enters.mk' Tryz.func84 (by kernel_rfl) (by kernel_rfl)
instance : Enters Tryz.prog 85 := Enters.mk' Tryz.func85 (by kernel_rfl) (by kernel_rfl)
instance : Enters Tryz.prog 90 := Enters.mk' Tryz.func90 (by kernel_rfl) (by kernel_rfl)
instance : Enters Tryz.prog 91 := Enters.mk' Tryz.func91 (by kernel_rfl) (by kernel_rfl)
instance : Enters Tryz.prog 93 := Enters.mk' Tryz.func93 (by kernel_rfl) (by kernel_rfl)
instance : Enters Tryz.prog 94 := Enters.mk' Tryz.func94 (by kernel_rfl) (by kernel_rfl)
instance : Enters Tryz.prog 95 := Enters.mk' Tryz.func95 (by kernel_rfl) (by kernel_rfl)
instance : Enters Tryz.prog 96 := Enters.mk' Tryz.func96 (by kernel_rfl) (by kernel_rfl)
instance : Enters Tryz.prog 102 := Enters.mk' Tryz.func102 (by kernel_rfl) (by kernel_rfl)
instance : Enters Tryz.prog 103 := Enters.mk' Tryz.func103 (by kernel_rfl) (by kernel_rfl)
instance : Enters Tryz.prog 107 := Enters.mk' Tryz.func107 (by kernel_rfl) (by kernel_rfl)
instance : Enters Tryz.prog 108 := Enters.mk' Tryz.func108 (by kernel_rfl) (by kernel_rfl)
instance : Enters Tryz.prog 109 := Enters.mk' Tryz.func109 (by kernel_rfl) (by kernel_rfl)
instance : Enters Tryz.prog 110 := Enters.mk' Tryz.func110 (by kernel_rfl) (by kernel_rfl)
instance : Enters Tryz.prog 112 := Enters.mk' Tryz.func112 (by kernel_rfl) (by kernel_rfl)
instance : Enters Tryz.prog 114 := Enters.mk' Tryz.func114 (by kernel_rfl) (by kernel_rfl)
instance : Enters Tryz.prog 115 := Enters.mk' Tryz.func115 (by kernel_rfl) (by kernel_rfl)
instance : Enters Tryz.prog 116 := Enters.mk' Tryz.func116 (by kernel_rfl) (by kernel_rfl)
instance : Enters Tryz.prog 117 := Enters.mk' Tryz.func117 (by kernel_rfl) (by kernel_rfl)
instance : Enters Tryz.prog 118 := Enters.mk' Tryz.func118 (by kernel_rfl) (by kernel_rfl)
instance : Enters Tryz.prog 119 := Enters.mk' Tryz.func119 (by kernel_rfl) (by kernel_rfl)
instance : Enters Tryz.prog 123 := Enters.mk' Tryz.func123 (by kernel_rfl) (by kernel_rfl)
instance : Enters Tryz.prog 124 := Enters.mk' Tryz.func124 (by kernel_rfl) (by kernel_rfl)
instance : Enters Tryz.prog 125 := Enters.mk' Tryz.func125 (by kernel_rfl) (by kernel_rfl)
instance : Enters Tryz.prog 126 := Enters.mk' Tryz.func126 (by kernel_rfl) (by kernel_rfl)
instance : Enters Tryz.prog 127 := Enters.mk' Tryz.func127 (by kernel_rfl) (by kernel_rfl)
instance : Enters Tryz.prog 130 := Enters.mk' Tryz.func130 (by kernel_rfl) (by kernel_rfl)
instance : Enters Tryz.prog 131 := Enters.mk' Tryz.func131 (by kernel_rfl) (by kernel_rfl)
instance : Enters Tryz.prog 132 := Enters.mk' Tryz.func132 (by kernel_rfl) (by kernel_rfl)
instance : Enters Tryz.prog 133 := Enters.mk' Tryz.func133 (by kernel_rfl) (by kernel_rfl)
instance : Enters Tryz.prog 134 := Enters.mk' Tryz.func134 (by kernel_rfl) (by kernel_rfl)
instance : Enters Tryz.prog 135 := Enters.mk' Tryz.func135 (by kernel_rfl) (by kernel_rfl)
instance : Enters Tryz.prog 136 := Enters.mk' Tryz.func136 (by kernel_rfl) (by kernel_rfl)
instance : Enters Tryz.prog 140 := Enters.mk' Tryz.func140 (by kernel_rfl) (by kernel_rfl)
instance : Enters Tryz.prog 141 := Enters.mk' Tryz.func141 (by kernel_rfl) (by kernel_rfl)
instance : Enters Tryz.prog 152 := Enters.mk' Tryz.func152 (by kernel_rfl) (by kernel_rfl)
instance : Enters Tryz.prog 159 := Enters.mk' Tryz.func159 (by kernel_rfl) (by kernel_rfl)
theorem mixed : Tryz.prog.follows .mixedOrders = true := by kernel_rfl
end Go.Lx
