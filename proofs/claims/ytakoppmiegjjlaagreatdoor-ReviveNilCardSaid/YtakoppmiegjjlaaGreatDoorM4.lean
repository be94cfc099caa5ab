/- Texts Xl Xp Ty, merged: a claim has at most 60 files. -/
import Derived.Test.YtakoppmiegjjlaaGreatDoorM3
import Derived.Laws.Strings
import Derived.Laws.IdiomStrings
import Derived.Laws.RangeString
import Derived.Lib.AppendStr
import Derived.Test.YtakoppmiegjjlaaGreatDoorM2
import Derived.Test.YtakoppmiegjjlaaGreatDoorProg
import Derived.Test.YtakoppmiegjjlaaGreatDoorM1
import Derived.KernelRfl
/- Own layer, part l: strings as lists of bytes, bits as whole numbers, rows of bytes, ranges over a string. Plain theorems. -/
namespace Go.Lx
set_option linter.unusedVariables false
set_option linter.unusedSimpArgs false

abbrev Bs := List UInt8
theorem str_size (l : Bs) : (ByteArray.mk l.toArray).size = l.length := by simp [ByteArray.size]
theorem str_ext {s : ByteArray} {l : Bs} (h : s.data.toList = l) : s = ⟨l.toArray⟩ := by subst h; simp
theorem str_get (l : Bs) (m : Nat) (h : m < (ByteArray.mk l.toArray).size) : (ByteArray.mk l.toArray)[m] = l[m]'(by rw [str_size] at h; exact h) := by
  show l.toArray[m] = _
  simp
theorem str_extract (l : Bs) (a b : Nat) : (ByteArray.mk l.toArray).extract a b = ⟨((l.drop a).take (b - a)).toArray⟩ := by
  apply str_ext
  rw [ByteArray.data_extract]
  simp [List.extract]
theorem str_append (l m : Bs) : (ByteArray.mk l.toArray) ++ (ByteArray.mk m.toArray) = ⟨(l ++ m).toArray⟩ := by
  apply str_ext
  rw [ByteArray.data_append]
  simp

def encY1 (b : UInt8) : List Value := [.int .u8 (b.toNat : Int)]
def encY (l : Bs) : List Value := l.flatMap encY1
theorem encY_map (l : Bs) : encY l = l.map fun b => Value.int .u8 (b.toNat : Int) := by
  induction l with
  | nil => rfl
  | cons x l ih => simp only [encY, List.flatMap_cons, List.map_cons] at ih ⊢; rw [ih]; rfl
theorem encY_len (l : Bs) : (encY l).length = l.length := by rw [encY_map, List.length_map]
theorem encY_one (l : Bs) : ∀ u ∈ encY l, u.oneCell' = true := by
  intro u hu
  rw [encY_map] at hu
  obtain ⟨x, _, rfl⟩ := List.mem_map.1 hu
  rfl
theorem encY_str (l : Bs) : Lib.strCells ⟨l.toArray⟩ = encY l := by rw [encY_map]; rfl
theorem encY_snoc (o : Bs) (b : UInt8) : encY o ++ [.int .u8 (b.toNat : Int)] = encY (o ++ [b]) := by simp [encY, encY1]
theorem encY_append (o p : Bs) : encY o ++ encY p = encY (o ++ p) := by simp [encY]
theorem Rd.byteAt {w : World} {a : Option Addr} {n c m : Nat} {xs : Bs} {x : UInt8} (h : Rd w 1 a n c (encY xs)) (hx : xs[m]? = some x) : w.cell? (el a (m * 1)) = some (.int .u8 (x.toNat : Int)) := by
  have := Rd.elem (f := encY1) h (fun _ => rfl) hx 0 _ rfl
  rw [el_add] at this
  exact this
theorem encY_set (l : Bs) (k : Nat) (b : UInt8) (h : k < l.length) : putAt (encY l) (k * 1) [.int .u8 (b.toNat : Int)] = encY (l.set k b) := putAt_flat encY1 1 (fun _ => rfl) b l k h

/-! ### rows of strings -/
def encT1 (s : Bs) : List Value := [.string ⟨s.toArray⟩]
def encT (l : List Bs) : List Value := l.flatMap encT1
theorem Rd.strAt {w : World} {a : Option Addr} {n c m : Nat} {xs : List Bs} {x : Bs} (h : Rd w 1 a n c (encT xs)) (hx : xs[m]? = some x) : w.cell? (el a (m * 1)) = some (.string ⟨x.toArray⟩) := by
  have := Rd.elem (f := encT1) h (fun _ => rfl) hx 0 _ rfl
  rw [el_add] at this
  exact this
/-! ### rows of u64 -/
def encW1 (n : Nat) : List Value := [.int .u64 (n : Int)]
def encW (l : List Nat) : List Value := l.flatMap encW1
theorem Rd.wordAt {w : World} {a : Option Addr} {n c m : Nat} {xs : List Nat} {x : Nat} (h : Rd w 1 a n c (encW xs)) (hx : xs[m]? = some x) : w.cell? (el a (m * 1)) = some (.int .u64 (x : Int)) := by
  have := Rd.elem (f := encW1) h (fun _ => rfl) hx 0 _ rfl
  rw [el_add] at this
  exact this

/-! ### whole numbers without a sign -/
theorem wrapN {k : IntKind} (hk : k.signed = false) (a : Nat) : k.wrap (a : Int) = ((a % 2 ^ k.bits : Nat) : Int) := by
  have e : ((2 : Int) ^ k.bits) = ((2 ^ k.bits : Nat) : Int) := by simp
  simp only [IntKind.wrap, hk]
  rw [e, ← Int.natCast_emod]
  simp
theorem wrapN_fit {k : IntKind} (hk : k.signed = false) {a : Nat} (h : a < 2 ^ k.bits) : k.wrap (a : Int) = (a : Int) := by rw [wrapN hk, Nat.mod_eq_of_lt h]
theorem ofInt_nat (n a : Nat) : BitVec.ofInt n (a : Int) = BitVec.ofNat n a := by simp

theorem bs_beq (l m : Bs) : (l == m) = decide (l = m) := by
  rw [Bool.eq_iff_iff]; simp

namespace D
variable {C : Cx} {W : World → Prop} {env : Env} {ty t u t2 : TypeId} {pos : String} {af : Array Edge} {gd : Option (Nat × Bool)} {ds : Option Tmp} {x y z : Operand} {k k' : IntKind}

theorem lenL {d : Nat} {l : Bs} [h : StrT C.P t] (hx : ev env x = some (.string ⟨l.toArray⟩)) : Det C W env ⟨some d, .call ⟨.builtin .len, #[x], #[t]⟩, ty, pos, af, gd⟩ (.int .i64 (l.length : Nat)) := by
  have := D.lenS (C := C) (W := W) (t := t) (d := d) (ty := ty) (pos := pos) (af := af) (gd := gd) hx
  rwa [str_size] at this
theorem idx {l : Bs} {b : UInt8} {j : Int} (m : Nat) [h : StrT C.P t] (hx : ev env x = some (.string ⟨l.toArray⟩)) (hy : ev env y = some (.int k j)) (hj : j = (m : Int)) (hb : l[m]? = some b) :
    Det C W env ⟨ds, .index t x y, ty, pos, af, gd⟩ (.int .u8 (b.toNat : Int)) := by
  obtain ⟨hm, he⟩ := List.getElem?_eq_some_iff.1 hb
  have hm' : m < (ByteArray.mk l.toArray).size := by rw [str_size]; exact hm
  have e : (ByteArray.mk l.toArray)[m]'hm' = b := by rw [str_get]; exact he
  have := D.indexStr (C := C) (T := W) (t := t) (ds := ds) (ty := ty) (pos := pos) (af := af) (gd := gd) m hx hy hj hm'
  rwa [e] at this
theorem cutLH {l : Bs} {a h : Nat} {j1 j2 : Int} {lo hi : Operand} [ht : StrT C.P t] (hx : ev env x = some (.string ⟨l.toArray⟩)) (hlo : ev env lo = some (.int k j1)) (hhi : ev env hi = some (.int k' j2)) (e1 : j1 = (a : Int)) (e2 : j2 = (h : Int)) (h1 : a ≤ h ∧ h ≤ l.length) : Det C W env ⟨ds, .slice t x (some lo) (some hi) none, ty, pos, af, gd⟩ (.string ⟨((l.drop a).take (h - a)).toArray⟩) := ⟨fun ac w he _ => by
  subst e1; subst e2
  have e := str_extract l a h
  have h3 : (a : Int) ≤ (h : Int) := by omega
  simp [execOp, he.ev hx, he.ev hlo, he.ev hhi, Instr.sliceAt, run_underlying ht.und, Instr.slice, Instr.sliceBounds, Instr.sliceBound, asIntOf, h1.1, h1.2, str_size, e]⟩
theorem cat {l m : Bs} (hx : ev env x = some (.string ⟨l.toArray⟩)) (hy : ev env y = some (.string ⟨m.toArray⟩)) (hb : l.length + m.length ≤ 9223372036854775807) : Det C W env ⟨ds, .binOp .add t x y u, ty, pos, af, gd⟩ (.string ⟨(l ++ m).toArray⟩) := ⟨fun ac w he _ => by
  have h3 : IntKind.i64.max = 9223372036854775807 := by decide
  have h2 : ¬ ((l.length : Int) + (m.length : Int) > 9223372036854775807) := by omega
  have h4 : (l.length : Int) + (m.length : Int) ≤ 9223372036854775807 := by omega
  simp [execOp, he.ev hx, he.ev hy, eqGuard, binOp, Op.stringOp, str_size, h3, h4, str_append]⟩
theorem strEq {l m : Bs} (hx : ev env x = some (.string ⟨l.toArray⟩)) (hy : ev env y = some (.string ⟨m.toArray⟩)) : Det C W env ⟨ds, .binOp .eql t x y u, ty, pos, af, gd⟩ (.bool (decide (l = m))) := ⟨fun ac w he _ => by
  simp [execOp, he.ev hx, he.ev hy, eqGuard, binOp, Op.stringOp, bs_beq]⟩
theorem strNe {l m : Bs} (hx : ev env x = some (.string ⟨l.toArray⟩)) (hy : ev env y = some (.string ⟨m.toArray⟩)) : Det C W env ⟨ds, .binOp .neq t x y u, ty, pos, af, gd⟩ (.bool (decide (l ≠ m))) := ⟨fun ac w he _ => by
  simp [execOp, he.ev hx, he.ev hy, eqGuard, binOp, Op.stringOp, bs_beq]⟩
theorem strLt {l m : Bs} (hx : ev env x = some (.string ⟨l.toArray⟩)) (hy : ev env y = some (.string ⟨m.toArray⟩)) : Det C W env ⟨ds, .binOp .lss t x y u, ty, pos, af, gd⟩ (.bool (decide (Op.bytesLess l m = true))) := ⟨fun ac w he _ => by
  simp [execOp, he.ev hx, he.ev hy, eqGuard, binOp, Op.stringOp]⟩
theorem toStr {e n c : Nat} {a : Option Addr} (l : Bs) [h1 : SlT C.P t e] [h2 : IntT C.P e .u8] [h3 : StrT C.P t2] (hx : ev env x = some (.slice a n c)) (hn : l.length = n) (hr : ∀ w, W w → Rd w 1 a n c (encY l)) : Det C W env ⟨ds, .convert t t2 x, ty, pos, af, gd⟩ (.string ⟨l.toArray⟩) := ⟨fun ac w he hw => by
  subst hn
  have hrd := hr w hw
  cases a with
  | none =>
    have h0 : l = [] := by
      rcases Nat.eq_zero_or_pos l.length with h | h
      · exact List.length_eq_zero_iff.1 h
      · have := hrd.sm h; simp at this
    subst h0
    simp [execOp, he.ev hx, run_convert_bytes_string w t t2 e none 0 c h1.und h2.und h3.und, Conv.bytesToString]
    rfl
  | some p =>
    have := run_convert_bytes_back (P := C.P) w t t2 e p c l h1.und h2.und h3.und (fun j hj => hrd.cell j _ (by rw [encY_map, List.getElem?_map, List.getElem?_eq_getElem hj]; rfl))
    simp [execOp, he.ev hx, this]⟩

theorem convN {a : Nat} [h1 : IntT C.P t k'] [h2 : IntT C.P t2 k] (hk : k.signed = false) (hx : ev env x = some (.int k' (a : Int))) : Det C W env ⟨ds, .convert t t2 x, ty, pos, af, gd⟩ (.int k ((a % 2 ^ k.bits : Nat) : Int)) := by
  have := D.conv (C := C) (W := W) (ds := ds) (ty := ty) (pos := pos) (af := af) (gd := gd) (t := t) (t2 := t2) (k := k) (k' := k') hx
  rwa [wrapN hk] at this
theorem conv64 {a : Nat} [h1 : IntT C.P t k'] [h2 : IntT C.P t2 .i64] (hx : ev env x = some (.int k' (a : Int))) (ha : a < 9223372036854775808) : Det C W env ⟨ds, .convert t t2 x, ty, pos, af, gd⟩ (.int .i64 (a : Int)) := by
  have := D.conv (C := C) (W := W) (ds := ds) (ty := ty) (pos := pos) (af := af) (gd := gd) (t := t) (t2 := t2) (k := .i64) (k' := k') hx
  rwa [D.wrap64_fit (by omega)] at this
theorem shrN {a b : Nat} (hx : ev env x = some (.int k (a : Int))) (hy : ev env y = some (.int k' (b : Int))) (hb : b ≤ k.bits) : Det C W env ⟨ds, .binOp .shr t x y u, ty, pos, af, gd⟩ (.int k ((a / 2 ^ b : Nat) : Int)) := by
  have := D.shr (C := C) (W := W) (ds := ds) (ty := ty) (pos := pos) (af := af) (gd := gd) (t := t) (u := u) hx hy (by omega)
  rw [Int.toNat_natCast, Nat.min_eq_left hb, Int.fdiv_eq_ediv_of_nonneg _ (Int.pow_nonneg (by decide))] at this
  have e : ((a : Int) / 2 ^ b) = ((a / 2 ^ b : Nat) : Int) := by simp
  rwa [e] at this
theorem bits {op : BinOp} {f : {n : Nat} → BitVec n → BitVec n → BitVec n} {a b r : Nat} (hk : k.signed = false) (hx : ev env x = some (.int k (a : Int))) (hy : ev env y = some (.int k (b : Int))) (hop : (op = .and ∧ @f = fun {n} x y => x &&& y) ∨ (op = .or ∧ @f = fun {n} x y => x ||| y) ∨ (op = .xor ∧ @f = fun {n} x y => x ^^^ y) ∨ (op = .andNot ∧ @f = fun {n} x y => x &&& ~~~y))
    (hr : (f (BitVec.ofNat k.bits a) (BitVec.ofNat k.bits b)).toNat = r) : Det C W env ⟨ds, .binOp op t x y u, ty, pos, af, gd⟩ (.int k (r : Int)) := ⟨fun ac w he _ => by
  subst hr
  have hw : ∀ v : BitVec k.bits, k.wrap (v.toNat : Int) = (v.toNat : Int) := fun v => wrapN_fit hk v.isLt
  rcases hop with ⟨rfl, rfl⟩ | ⟨rfl, rfl⟩ | ⟨rfl, rfl⟩ | ⟨rfl, rfl⟩ <;> simp only [execOp, he.ev hx, he.ev hy] <;> simp [eqGuard, binOp, Op.intBits, -BitVec.toNat_and, -BitVec.toNat_or, -BitVec.toNat_xor, -BitVec.toNat_ofNat] <;> exact hw _⟩
theorem xorN {a b : Nat} (hk : k.signed = false) (hx : ev env x = some (.int k (a : Int))) (hy : ev env y = some (.int k (b : Int))) (hb : a < 2 ^ k.bits ∧ b < 2 ^ k.bits) : Det C W env ⟨ds, .binOp .xor t x y u, ty, pos, af, gd⟩ (.int k ((a ^^^ b : Nat) : Int)) :=
  bits (f := fun {n} x y => x ^^^ y) hk hx hy (.inr (.inr (.inl ⟨rfl, rfl⟩))) (by simp [Nat.mod_eq_of_lt hb.1, Nat.mod_eq_of_lt hb.2])
theorem orN {a b : Nat} (hk : k.signed = false) (hx : ev env x = some (.int k (a : Int))) (hy : ev env y = some (.int k (b : Int))) (hb : a < 2 ^ k.bits ∧ b < 2 ^ k.bits) : Det C W env ⟨ds, .binOp .or t x y u, ty, pos, af, gd⟩ (.int k ((a ||| b : Nat) : Int)) :=
  bits (f := fun {n} x y => x ||| y) hk hx hy (.inr (.inl ⟨rfl, rfl⟩)) (by simp [Nat.mod_eq_of_lt hb.1, Nat.mod_eq_of_lt hb.2])
theorem andN {a b : Nat} (hk : k.signed = false) (hx : ev env x = some (.int k (a : Int))) (hy : ev env y = some (.int k (b : Int))) (hb : a < 2 ^ k.bits ∧ b < 2 ^ k.bits) : Det C W env ⟨ds, .binOp .and t x y u, ty, pos, af, gd⟩ (.int k ((a &&& b : Nat) : Int)) :=
  bits (f := fun {n} x y => x &&& y) hk hx hy (.inl ⟨rfl, rfl⟩) (by simp [Nat.mod_eq_of_lt hb.1, Nat.mod_eq_of_lt hb.2])
theorem notN {a : Nat} (hk : k.signed = false) (hx : ev env x = some (.int k (a : Int))) (ha : a < 2 ^ k.bits) : Det C W env ⟨ds, .unOp .xor t x, ty, pos, af, gd⟩ (.int k ((2 ^ k.bits - 1 - a : Nat) : Int)) := ⟨fun ac w he _ => by
  have hm : k.max = ((2 ^ k.bits - 1 : Nat) : Int) := by cases k <;> simp [IntKind.signed] at hk <;> decide
  have hx' : (BitVec.ofNat k.bits (2 ^ k.bits - 1) ^^^ BitVec.ofNat k.bits a).toNat = 2 ^ k.bits - 1 - a := by
    have e : BitVec.ofNat k.bits (2 ^ k.bits - 1) = BitVec.allOnes k.bits := by simp [BitVec.allOnes, BitVec.ofNatLT_eq_ofNat]
    rw [e, BitVec.allOnes_xor, BitVec.toNat_not]
    simp [Nat.mod_eq_of_lt ha]
  simp only [execOp, he.ev hx]
  simp only [Op.unary, hk, Bool.false_eq_true, if_false, hm, Op.intBits, ofInt_nat, hx', wrapN_fit hk (show 2 ^ k.bits - 1 - a < 2 ^ k.bits by omega)]
  simp⟩
theorem negN {a : Nat} (hk : k.signed = false) (hx : ev env x = some (.int k (a : Int))) (ha : a < 2 ^ k.bits) : Det C W env ⟨ds, .unOp .neg t x, ty, pos, af, gd⟩ (.int k (((2 ^ k.bits - a) % 2 ^ k.bits : Nat) : Int)) := ⟨fun ac w he _ => by
  have e : k.wrap (0 - (a : Int)) = (((2 ^ k.bits - a) % 2 ^ k.bits : Nat) : Int) := by
    rw [← wrapN hk]
    simp only [IntKind.wrap, hk]
    have : (0 - (a : Int)) % 2 ^ k.bits = ((2 ^ k.bits - a : Nat) : Int) % 2 ^ k.bits := by
      rw [Int.ofNat_sub (by omega)]
      simp [Int.sub_emod]
    rw [this]
  simp only [execOp, he.ev hx]
  simp only [Op.unary, Op.intArith, e]
  simp⟩
end D
end Go.Lx

/- Own layer, part p: short names: each operation's rule asks for few proofs by 'rfl', whatever its class, so that a region is walked by one list of rules. Plain theorems. -/
namespace Go.Lx
set_option linter.unusedVariables false
set_option linter.unusedSimpArgs false

abbrev Sd.a (i : Nat) (r : Sd) : Sd := .op .v0 i r
abbrev Sd.b (i : Nat) (r : Sd) : Sd := .op .v1 i r
abbrev Sd.c (i : Nat) (r : Sd) : Sd := .op .ch i r
abbrev Sd.f (i : Nat) (r : Sd) : Sd := .op .fin i r
abbrev Sd.n : Sd := .nil
/-- The text's order, without sums in it. -/
def Sd.tx : Nat → Nat → Sd
  | 0, _ => .nil
  | n + 1, k => .op .fin k (Sd.tx n (Nat.succ k))
theorem Sd.tx_eq : ∀ (n k : Nat), Sd.text n k = Sd.tx n k
  | 0, _ => rfl
  | n + 1, k => congrArg (Sd.op .fin k) (Sd.tx_eq n (k + 1))

section
variable {C : Cx} {A A' As : List Assn} {Q : Exit → Act → World → Prop} {S : World → Prop} {env : Env} {ops : Array Oper} {r : Sd} {i d : Nat} {v : Value} {cl : Cl} {x y z : Operand} {t u : TypeId} {op : Op}

/-- A value that is told by the moment's values alone, or of an operation that is not wanted. -/
def puV (env : Env) : Op → Option Value
  | .move x => ev env x
  | .assign x => ev env x
  | .nilCheck x => match ev env x with
    | some (.pointer (some p)) => some (.pointer (some p))
    | _ => none
  | .extract x ix => match ev env x with
    | some (.tuple vs) => vs.toList[ix]?
    | _ => none
  | .unOp .not _ x => match ev env x with
    | some (.bool c) => some (.bool !c)
    | _ => none
  | .pick x y z => match ev env x with
    | some (.bool true) => ev env y
    | some (.bool false) => ev env z
    | _ => none
  | _ => none
def pu (n : Nat) (ops : Array Oper) (env : Env) (i : Nat) : Option (Nat × Value) :=
  match ops[i]? with
  | none => none
  | some o => match o.dst with
    | none => none
    | some d => match Nat.blt d n with
      | false => none
      | true => match gok ops env o with
        | some false => some (d, undef)
        | some true => match puV env o.op with
          | some v => some (d, v)
          | none => none
        | none => none
/-- The operation that comes up, if it is wanted. -/
def nx (n : Nat) (ops : Array Oper) (env : Env) (i : Nat) : Option (Nat × Op) :=
  match ops[i]? with
  | none => none
  | some o => match o.dst with
    | none => none
    | some d => match Nat.blt d n with
      | false => none
      | true => match gok ops env o with
        | some true => some (d, o.op)
        | _ => none
theorem nx_spec {n : Nat} (h : nx n ops env i = some (d, op)) : ∃ ty pos af gd, ops[i]? = some ⟨some d, op, ty, pos, af, gd⟩ ∧ gok ops env ⟨some d, op, ty, pos, af, gd⟩ = some true ∧ Nat.blt d n = true := by
  unfold nx at h
  split at h
  · cases h
  · rename_i o ho
    split at h
    · cases h
    · rename_i d' hd
      split at h
      · cases h
      · rename_i hb
        split at h
        · rename_i hg
          cases h
          obtain ⟨ds, op, ty, pos, af, gd⟩ := o
          cases hd
          exact ⟨ty, pos, af, gd, ho, hg, hb⟩
        · cases h
theorem puV_det {o : Oper} (h : puV env o.op = some v) {W : World → Prop} : Det C W env o v := by
  obtain ⟨ds, op, ty, pos, af, gd⟩ := o
  dsimp only at h
  unfold puV at h
  split at h
  · exact D.move h
  · exact D.assign h
  · rename_i x
    split at h
    · rename_i p hx; cases h; exact D.nilCheck hx
    · cases h
  · rename_i x ix
    split at h
    · rename_i vs hx
      exact D.extract hx (by simpa using h)
    · cases h
  · rename_i x
    split at h
    · rename_i c hx; cases h; exact D.not hx
    · cases h
  · rename_i x y z
    split at h
    · rename_i hx; exact D.pickT hx h
    · rename_i hx; exact D.pickF hx h
    · cases h
  · cases h
theorem pu_spec {n : Nat} (h : pu n ops env i = some (d, v)) : ∃ o, ops[i]? = some o ∧ o.dst = some d ∧ Nat.blt d n = true ∧ ((gok ops env o = some false ∧ v = undef) ∨ (gok ops env o = some true ∧ puV env o.op = some v)) := by
  unfold pu at h
  split at h
  · cases h
  · rename_i o ho
    split at h
    · cases h
    · rename_i d' hd
      split at h
      · cases h
      · rename_i hb
        split at h
        · rename_i hg; cases h; exact ⟨o, ho, hd, hb, .inl ⟨hg, rfl⟩⟩
        · rename_i hg
          split at h
          · rename_i v' hv; cases h; exact ⟨o, ho, hd, hb, .inr ⟨hg, hv⟩⟩
          · cases h
        · cases h

class Nc (cl : Cl) : Prop where ne : cl ≠ .ch
instance : Nc .v0 := ⟨by simp⟩
instance : Nc .v1 := ⟨by simp⟩
instance : Nc .fin := ⟨by simp⟩
theorem XL.dt [h : Nc cl] (hn : nx C.n.n ops env i = some (d, op)) (hd : ∀ ty pos af gd, Det C (fun _ => True) env ⟨some d, op, ty, pos, af, gd⟩ v) (k : XL C ops Q S r ((d, v) :: env) A) : XL C ops Q S (.op cl i r) env A := by
  obtain ⟨ty, pos, af, gd, ho, hg, hb⟩ := nx_spec hn
  cases cl with
  | v0 => exact XL.det0 ho hg rfl hb (hd _ _ _ _) k
  | v1 => exact XL.det1 ho hg rfl hb ⟨fun a w he _ => (hd _ _ _ _).go a w he trivial⟩ k
  | fin => exact XL.det0F ho hg rfl hb (hd _ _ _ _) k
  | ch => exact absurd rfl h.ne
/-- What is told of memory where a load stands. -/
class Rl (cl : Cl) (C : Cx) (S : World → Prop) (A : List Assn) (As : outParam (List Assn)) : Prop where ok : (cl = .fin ∧ As = A) ∨ (cl = .v1 ∧ ∀ w, S w → Conf C As w)
instance : Rl .fin C S A A := ⟨.inl ⟨rfl, rfl⟩⟩
instance : Rl .v1 C (fun w => Conf C As w) A As := ⟨.inr ⟨rfl, fun w h => h⟩⟩
theorem XL.ld [h : Rl cl C S A As] (hn : nx C.n.n ops env i = some (d, op)) (hd : ∀ ty pos af gd, Det C (fun w => Conf C As w) env ⟨some d, op, ty, pos, af, gd⟩ v) (k : XL C ops Q S r ((d, v) :: env) A) : XL C ops Q S (.op cl i r) env A := by
  obtain ⟨ty, pos, af, gd, ho, hg, hb⟩ := nx_spec hn
  rcases h.ok with ⟨rfl, rfl⟩ | ⟨rfl, hS⟩
  · exact XL.detF ho hg rfl hb (hd _ _ _ _) k
  · exact XL.det1 ho hg rfl hb ⟨fun a w he hw => (hd _ _ _ _).go a w he (hS w hw)⟩ k

/-- A region in the text's order. -/
theorem X.tx {id : Nat} {ops : Array Oper} [hQ : NoPanic Q] (hnd : noDefer ops = true) (h : XL C ops Q (fun _ => True) (Sd.tx ops.size 0) env A) : X C (.region id ops false) Q env A := X.text (Sd.tx_eq _ _) hnd h
theorem no_ {a b : Bool} {p : Prop} (h : a = b) (e : (a == b) = false) : p := by subst h; cases a <;> cases e
section
variable {c e : Code} {id : Nat}
theorem XL.nn (h : X C e Q env A) : XL C ops (Exit.then (e.wpIn (fen C.n) 9 C.P Q) Q) S .nil env A := XL.nil (N.next h)
theorem X.st {ops : Array Oper} [hQ : NoPanic (Exit.then (e.wpIn (fen C.n) 9 C.P Q) Q)] (hnd : noDefer ops = true) (h : XL C ops (Exit.then (e.wpIn (fen C.n) 9 C.P Q) Q) (fun _ => True) (Sd.tx ops.size 0) env A) : X C (.seq (.region id ops false) e) Q env A := X.seq (X.text (Sd.tx_eq _ _) hnd h)
theorem X.sd {ops : Array Oper} [hQ : NoPanic (Exit.then (e.wpIn (fen C.n) 9 C.P Q) Q)] (σ : Sd) (hm : C.P.follows .mixedOrders = true) (hok : (noDefer ops && schedOk ops σ) = true) (h : XL C ops (Exit.then (e.wpIn (fen C.n) 9 C.P Q) Q) (fun w => Conf C A w) σ env A) : X C (.seq (.region id ops true) e) Q env A := X.seq (X.draw σ hm hok h)
/-- The way out of a body through what stands about it. -/
class Pk (Q : Exit → Act → World → Prop) (Q' : outParam (Exit → Act → World → Prop)) : Prop where up : ∀ {C env A}, Rt C Q' env A → Rt C Q env A
instance {P : Program} {fn : Func} {w0 : World} {H : Nat → Prop} {R : Value → List Assn → Prop} : Pk (Post P fn w0 H R) (Post P fn w0 H R) := ⟨fun k => k⟩
instance {K : Act → World → Prop} {Q Q' : Exit → Act → World → Prop} [h : Pk Q Q'] : Pk (Exit.then K Q) Q' := ⟨fun k => Rt.then (h.up k)⟩
instance {i : Nat} {Q Q' : Exit → Act → World → Prop} [h : Pk Q Q'] : Pk (Exit.inBlock i Q) Q' := ⟨fun k => Rt.block (h.up k)⟩
instance {Q Q' : Exit → Act → World → Prop} [h : Pk Q Q'] : Pk (Exit.noGoto Q) Q' := ⟨fun k => Rt.scope (h.up k)⟩
/-- A result's cell. -/
class Rc (P : Program) (t : TypeId) (cs : List Value) (v : outParam Value) : Prop where ok : ((∀ w, (isAgg t).run P w = .ok true w) ∧ (∀ w, (sizeOf t).run P w = .ok cs.length w) ∧ v = .agg cs.toArray) ∨ ((∀ w, (isAgg t).run P w = .ok false w) ∧ cs = [v])
instance {P : Program} {t n : Nat} {cs : List Value} [h1 : Ag P t] [h2 : Sz P t n] [h3 : Len cs n] : Rc P t cs (.agg cs.toArray) := ⟨.inl ⟨h1.agg, by rw [h3.eq]; exact h2.run, rfl⟩⟩
instance (priority := high) {P : Program} {t : Nat} {u : Value} [h1 : One P t] : Rc P t [u] u := ⟨.inr ⟨h1.one, rfl⟩⟩
theorem RV.of {b t g T' j : Nat} {cs : List Value} (h : env.lookup b = some (.pointer (some ⟨g, 0, none⟩))) [hl : Loc A g cs T' j] [hc : Rc C.P t cs v] : RV C env A (.cell b t) v := by
  intro a w he hw
  rcases hc.ok with ⟨h1, h2, rfl⟩ | ⟨h1, rfl⟩
  · have := run_loadCells_list (P := C.P) w ⟨g, 0, none⟩ cs (fun j u hu => by rw [at_add, Nat.zero_add]; exact hw.cellAt hl.at_ hu)
    simp [he.getD h, asAddr, loadVar, h1, h2, this]
  · simp [he.getD h, asAddr, loadVar, h1, hw.cellAt (o := 0) hl.at_ rfl]
variable {P : Program} {fn : Func} {w0 : World} {H : Nat → Prop} {R : Value → List Assn → Prop} {n : Nat} {ro : Option Nat} {B : List Assn} {q1 q2 q3 : ResultVar} {v2 v3 : Value}
theorem X.r0 [hp : Pk Q (Post P fn w0 H R)] (h : fn.results = #[]) (hR : R (.tuple #[]) B) (hA : ∀ w, Conf ⟨P, ⟨n, none, ro⟩, w0, H⟩ A w → Conf ⟨P, ⟨n, none, ro⟩, w0, H⟩ B w) : X ⟨P, ⟨n, none, ro⟩, w0, H⟩ .ret Q env A := X.ret (hp.up (Rt.done (Res.r0 h) hR hA))
theorem X.r1 [hp : Pk Q (Post P fn w0 H R)] (h : fn.results = #[q1]) (h1 : RV ⟨P, ⟨n, none, ro⟩, w0, H⟩ env A q1 v) (hR : R v B) (hA : ∀ w, Conf ⟨P, ⟨n, none, ro⟩, w0, H⟩ A w → Conf ⟨P, ⟨n, none, ro⟩, w0, H⟩ B w) : X ⟨P, ⟨n, none, ro⟩, w0, H⟩ .ret Q env A := X.ret (hp.up (Rt.done (Res.r1 h h1) hR hA))
theorem X.r2 [hp : Pk Q (Post P fn w0 H R)] (h : fn.results = #[q1, q2]) (h1 : RV ⟨P, ⟨n, none, ro⟩, w0, H⟩ env A q1 v) (h2 : RV ⟨P, ⟨n, none, ro⟩, w0, H⟩ env A q2 v2) (hR : R (.tuple #[v, v2]) B) (hA : ∀ w, Conf ⟨P, ⟨n, none, ro⟩, w0, H⟩ A w → Conf ⟨P, ⟨n, none, ro⟩, w0, H⟩ B w) : X ⟨P, ⟨n, none, ro⟩, w0, H⟩ .ret Q env A := X.ret (hp.up (Rt.done (Res.r2 h h1 h2) hR hA))
theorem X.r3 [hp : Pk Q (Post P fn w0 H R)] (h : fn.results = #[q1, q2, q3]) (h1 : RV ⟨P, ⟨n, none, ro⟩, w0, H⟩ env A q1 v) (h2 : RV ⟨P, ⟨n, none, ro⟩, w0, H⟩ env A q2 v2) (h3 : RV ⟨P, ⟨n, none, ro⟩, w0, H⟩ env A q3 v3) (hR : R (.tuple #[v, v2, v3]) B) (hA : ∀ w, Conf ⟨P, ⟨n, none, ro⟩, w0, H⟩ A w → Conf ⟨P, ⟨n, none, ro⟩, w0, H⟩ B w) : X ⟨P, ⟨n, none, ro⟩, w0, H⟩ .ret Q env A := X.ret (hp.up (Rt.done (Res.r3 h h1 h2 h3) hR hA))
end
namespace Z
theorem p [h : Nc cl] (hp : pu C.n.n ops env i = some (d, v)) (k : XL C ops Q S r ((d, v) :: env) A) : XL C ops Q S (.op cl i r) env A := by
  obtain ⟨o, ho, hd, hb, h1⟩ := pu_spec hp
  rcases h1 with ⟨hg, rfl⟩ | ⟨hg, hv⟩
  · cases cl with
    | v0 => exact XL.skip0 ho hg hd hb k
    | v1 => exact XL.skip1 ho hg hd hb k
    | fin => exact XL.skipF ho hg hd hb k
    | ch => exact absurd rfl h.ne
  · cases cl with
    | v0 => exact XL.det0 ho hg hd hb (puV_det hv) k
    | v1 => exact XL.det1 ho hg hd hb (puV_det hv) k
    | fin => exact XL.det0F ho hg hd hb (puV_det hv) k
    | ch => exact absurd rfl h.ne
/-- Whole numbers: what an operation yields of two of them. -/
def bi (n : Nat) (ops : Array Oper) (env : Env) (i : Nat) : Option (Nat × Value) :=
  match nx n ops env i with
  | some (d, .binOp op _ x y _) => match ev env x with
    | some (.int k a) => match ev env y with
      | some (.int k' b) => match decide (k = k') with
        | true => match D.intBin op k a b with
          | some v => some (d, v)
          | none => none
        | false => none
      | _ => none
    | _ => none
  | _ => none
theorem bi_spec {n : Nat} (h : bi n ops env i = some (d, v)) : ∃ op, nx n ops env i = some (d, op) ∧ ∀ {C : Cx} ty pos af gd, Det C (fun _ => True) env ⟨some d, op, ty, pos, af, gd⟩ v := by
  unfold bi at h
  split at h
  · rename_i d' op t x y u hn
    split at h
    · rename_i k a hx
      split at h
      · rename_i k' b hy
        split at h
        · rename_i hk
          have hk' : k = k' := of_decide_eq_true hk
          subst hk'
          split at h
          · rename_i v' hv
            cases h
            exact ⟨_, hn, fun ty pos af gd => D.int hx hy hv⟩
          · cases h
        · cases h
      · cases h
    · cases h
  · cases h
theorem w [Nc cl] (h : bi C.n.n ops env i = some (d, v)) (k : XL C ops Q S r ((d, v) :: env) A) : XL C ops Q S (.op cl i r) env A := by
  obtain ⟨op, hn, hd⟩ := bi_spec h
  exact XL.dt hn hd k
theorem ct [Nc cl] {p : Prop} [Decidable p] (h : bi C.n.n ops env i = some (d, .bool (decide p))) (hp : p) (k : XL C ops Q S r ((d, .bool true) :: env) A) : XL C ops Q S (.op cl i r) env A :=
  Z.w (by rw [h]; simp [hp]) k
theorem cf [Nc cl] {p : Prop} [Decidable p] (h : bi C.n.n ops env i = some (d, .bool (decide p))) (hp : ¬ p) (k : XL C ops Q S r ((d, .bool false) :: env) A) : XL C ops Q S (.op cl i r) env A :=
  Z.w (by rw [h]; simp [hp]) k
theorem cs [Nc cl] {p : Prop} [Decidable p] (h : bi C.n.n ops env i = some (d, .bool (decide p))) (k : p → XL C ops Q S r ((d, .bool true) :: env) A) (k' : ¬ p → XL C ops Q S r ((d, .bool false) :: env) A) : XL C ops Q S (.op cl i r) env A := by
  by_cases hp : p
  · exact Z.ct h hp (k hp)
  · exact Z.cf h hp (k' hp)
/-- Whole numbers of 64 bits, where nothing is cut off. -/
def ar (n : Nat) (ops : Array Oper) (env : Env) (i : Nat) : Option (Nat × Int × Prop) :=
  match nx n ops env i with
  | some (d, .binOp op _ x y _) => match ev env x with
    | some (.int .i64 a) => match ev env y with
      | some (.int .i64 b) => match op with
        | .add => some (d, a + b, -9223372036854775808 ≤ a + b ∧ a + b ≤ 9223372036854775807)
        | .sub => some (d, a - b, -9223372036854775808 ≤ a - b ∧ a - b ≤ 9223372036854775807)
        | .mul => some (d, a * b, -9223372036854775808 ≤ a * b ∧ a * b ≤ 9223372036854775807)
        | _ => none
      | _ => none
    | _ => none
  | _ => none
theorem g [Nc cl] {n : Int} {p : Prop} (h : ar C.n.n ops env i = some (d, n, p)) (hp : p) (k : XL C ops Q S r ((d, .int .i64 n) :: env) A) : XL C ops Q S (.op cl i r) env A := by
  unfold ar at h
  split at h
  · rename_i d' op t x y u hn
    split at h
    · rename_i a hx
      split at h
      · rename_i b hy
        split at h
        · cases h; exact XL.dt hn (fun ty pos af gd => D.add64 hx hy hp) k
        · cases h; exact XL.dt hn (fun ty pos af gd => D.sub64 hx hy hp) k
        · cases h; exact XL.dt hn (fun ty pos af gd => D.mul64 hx hy hp) k
        · cases h
      · cases h
    · cases h
  · cases h
theorem rem [Nc cl] {kk : IntKind} {a b : Int} (hn : nx C.n.n ops env i = some (d, .binOp .rem t x y u)) (hx : ev env x = some (.int kk a)) (hy : ev env y = some (.int kk b)) (hb : b ≠ 0) (k : XL C ops Q S r ((d, .int kk (a.tmod b)) :: env) A) : XL C ops Q S (.op cl i r) env A :=
  XL.dt hn (fun ty pos af gd => D.rem hx hy hb) k
theorem quo [Nc cl] {kk : IntKind} {a b : Int} (hn : nx C.n.n ops env i = some (d, .binOp .quo t x y u)) (hx : ev env x = some (.int kk a)) (hy : ev env y = some (.int kk b)) (hb : b ≠ 0) (k : XL C ops Q S r ((d, .int kk (kk.wrap (a.tdiv b))) :: env) A) : XL C ops Q S (.op cl i r) env A :=
  XL.dt hn (fun ty pos af gd => D.quo hx hy hb) k
theorem pk [Nc cl] {c : Bool} {v1 v2 : Value} (hn : nx C.n.n ops env i = some (d, .pick x y z)) (hx : ev env x = some (.bool c)) (hy : ev env y = some v1) (hz : ev env z = some v2) (k : XL C ops Q S r ((d, if c then v1 else v2) :: env) A) : XL C ops Q S (.op cl i r) env A :=
  XL.dt hn (fun ty pos af gd => D.pick hx hy hz) k
/-- An address and a field's place. -/
class Pl (p : Addr) (off : Nat) (q : outParam Addr) : Prop where eq : p.add off = q
instance (priority := 400) {g o off : Nat} : Pl ⟨g, o, none⟩ off ⟨g, o + off, none⟩ := ⟨at_add g o off⟩
instance (priority := 300) {a : Option Addr} {o off : Nat} : Pl (el a o) off (el a (o + off)) := ⟨el_add a o off⟩
instance (priority := 500) {p : Addr} : Pl p 0 p := ⟨at_zero p⟩
theorem fa [Nc cl] {p q : Addr} {f off ft sz : Nat} (hn : nx C.n.n ops env i = some (d, .fieldAddr t x f)) (hx : ev env x = some (.pointer (some p))) [h1 : Fld C.P t f off ft] [hs : Sz C.P ft sz] [hq : Pl p off q] (hz : (sz == 0) = false) (k : XL C ops Q S r ((d, .pointer (some q)) :: env) A) : XL C ops Q S (.op cl i r) env A :=
  XL.dt hn (fun ty pos af gd => by rw [← hq.eq]; exact D.fieldAddr hz hx) k
theorem f1 [Nc cl] {cs : Array Value} {f off ft : Nat} (hn : nx C.n.n ops env i = some (d, .field t x f)) (hx : ev env x = some (.agg cs)) [h1 : Fld C.P t f off ft] [h2 : One C.P ft] (hv : cs[off]? = some v) (k : XL C ops Q S r ((d, v) :: env) A) : XL C ops Q S (.op cl i r) env A :=
  XL.dt hn (fun ty pos af gd => D.field1 hx hv) k
theorem mf [Nc cl] {fn : Fn} {first captured : Array Operand} {fs cs : List Value} (hn : nx C.n.n ops env i = some (d, .makeFunc fn first captured)) (h1 : evs env first.toList = some fs) (h2 : evs env captured.toList = some cs) (k : XL C ops Q S r ((d, .func fn fs.toArray cs.toArray) :: env) A) : XL C ops Q S (.op cl i r) env A :=
  XL.dt hn (fun ty pos af gd => D.makeFunc h1 h2) k
theorem bd [Nc cl] {parts : Array (Nat × Operand)} {ps : List (Nat × Value)} {zs cs : List Value} {pl : List (Nat × Nat)} (hn : nx C.n.n ops env i = some (d, .build t parts)) (hp : evps env parts.toList = some ps) [hst : StT C.P t pl zs] [hf : Fill pl zs ps cs] (k : XL C ops Q S r ((d, .agg cs.toArray) :: env) A) : XL C ops Q S (.op cl i r) env A :=
  XL.dt hn (fun ty pos af gd => D.build hp) k
theorem l1 [Rl cl C S A As] {g o T j : Nat} {cs : List Value} (hn : nx C.n.n ops env i = some (d, .load t x)) [h1 : One C.P t] (hx : ev env x = some (.pointer (some ⟨g, o, none⟩))) [hl : Loc As g cs T j] (hv : cs[o]? = some v) (k : XL C ops Q S r ((d, v) :: env) A) : XL C ops Q S (.op cl i r) env A :=
  XL.ld hn (fun ty pos af gd => D.load1 hx (fun w h => h.cellAt hl.at_ hv)) k
theorem lN [Rl cl C S A As] {g T j sz : Nat} {cs : List Value} (hn : nx C.n.n ops env i = some (d, .load t x)) [h1 : Ag C.P t] [hs : Sz C.P t sz] (hx : ev env x = some (.pointer (some ⟨g, 0, none⟩))) [hl : Loc As g cs T j] (hlen : (cs.length == sz) = true) (k : XL C ops Q S r ((d, .agg cs.toArray) :: env) A) : XL C ops Q S (.op cl i r) env A :=
  XL.ld hn (fun ty pos af gd => D.loadN hx hlen (fun w h j u hu => by rw [at_add, Nat.zero_add]; exact h.cellAt hl.at_ hu)) k
theorem lP [Rl cl C S A As] {g o T j sz : Nat} {cs cs' : List Value} (hn : nx C.n.n ops env i = some (d, .load t x)) [h1 : Ag C.P t] [hs : Sz C.P t sz] (hx : ev env x = some (.pointer (some ⟨g, o, none⟩))) [hl : Loc As g cs T j] [hp : Part cs o sz cs'] (hlen : (cs'.length == sz) = true) (k : XL C ops Q S r ((d, .agg cs'.toArray) :: env) A) : XL C ops Q S (.op cl i r) env A :=
  XL.ld hn (fun ty pos af gd => D.loadP hx hlen) k
theorem ln [Nc cl] {e n c : Nat} {ad : Option Addr} (hn : nx C.n.n ops env i = some (d, .call ⟨.builtin .len, #[x], #[t]⟩)) [h : SlT C.P t e] (hx : ev env x = some (.slice ad n c)) (k : XL C ops Q S r ((d, .int .i64 n) :: env) A) : XL C ops Q S (.op cl i r) env A :=
  XL.dt hn (fun ty pos af gd => D.len hx) k
theorem lnL [Nc cl] {l : Bs} (hn : nx C.n.n ops env i = some (d, .call ⟨.builtin .len, #[x], #[t]⟩)) [h : StrT C.P t] (hx : ev env x = some (.string ⟨l.toArray⟩)) (k : XL C ops Q S r ((d, .int .i64 (l.length : Nat)) :: env) A) : XL C ops Q S (.op cl i r) env A :=
  XL.dt hn (fun ty pos af gd => D.lenL hx) k
theorem lnS [Nc cl] {s : ByteArray} (hn : nx C.n.n ops env i = some (d, .call ⟨.builtin .len, #[x], #[t]⟩)) [h : StrT C.P t] (hx : ev env x = some (.string s)) (k : XL C ops Q S r ((d, .int .i64 s.size) :: env) A) : XL C ops Q S (.op cl i r) env A :=
  XL.dt hn (fun ty pos af gd => D.lenS hx) k
theorem cap [Nc cl] {e n c : Nat} {ad : Option Addr} (hn : nx C.n.n ops env i = some (d, .call ⟨.builtin .cap, #[x], #[t]⟩)) [h : SlT C.P t e] (hx : ev env x = some (.slice ad n c)) (k : XL C ops Q S r ((d, .int .i64 c) :: env) A) : XL C ops Q S (.op cl i r) env A :=
  XL.dt hn (fun ty pos af gd => D.cap hx) k
theorem mn [Nc cl] {ats : Array TypeId} {kk k' : IntKind} {a b : Int} (hn : nx C.n.n ops env i = some (d, .call ⟨.builtin .min, #[x, y], ats⟩)) (hx : ev env x = some (.int kk a)) (hy : ev env y = some (.int k' b)) (k : XL C ops Q S r ((d, .int kk (min a b)) :: env) A) : XL C ops Q S (.op cl i r) env A :=
  XL.dt hn (fun ty pos af gd => D.min2 hx hy) k
theorem mx [Nc cl] {ats : Array TypeId} {kk k' : IntKind} {a b : Int} (hn : nx C.n.n ops env i = some (d, .call ⟨.builtin .max, #[x, y], ats⟩)) (hx : ev env x = some (.int kk a)) (hy : ev env y = some (.int k' b)) (k : XL C ops Q S r ((d, .int kk (max a b)) :: env) A) : XL C ops Q S (.op cl i r) env A :=
  XL.dt hn (fun ty pos af gd => D.max2 hx hy) k
section
variable {k0 k1 : IntKind} {a0 a1 b0 b1 : Int}
end
theorem eqP [Nc cl] {e : Nat} {p : Option Addr} (hn : nx C.n.n ops env i = some (d, .binOp .eql t x y u)) [h : PtrT C.P t e] (hx : ev env x = some (.pointer p)) (hy : ev env y = some (.pointer none)) (k : XL C ops Q S r ((d, .bool p.isNone) :: env) A) : XL C ops Q S (.op cl i r) env A :=
  XL.dt hn (fun ty pos af gd => D.eqNilP hx hy) k
end Z
end
end Go.Lx

/- The types and functions of this seat's translation, as instances of the own layer's classes. Printed by gen_ty.py. -/
namespace Go.Lx
open Go.Proofs
set_option maxRecDepth 100000
instance : Sz Tryz.prog 1 1 := Sz.mk' (by kernel_rfl)
instance : One Tryz.prog 1 := One.mk' Tryz.underlying1 rfl
instance : Zc Tryz.prog 1 [(.nilFunc)] := Zc.mk' (z := .nilFunc) (by kernel_rfl) rfl
instance : ElT Tryz.prog 1 1 8 := ElT.mk' (z := .nilFunc) (by kernel_rfl) rfl (by decide)
instance : Sz Tryz.prog 2 1 := Sz.mk' (by kernel_rfl)
instance : IntT Tryz.prog 2 .i64 := ⟨Tryz.underlying2⟩
instance : One Tryz.prog 2 := One.mk' Tryz.underlying2 rfl
instance : Zc Tryz.prog 2 [(.int .i64 0)] := Zc.mk' (z := .int .i64 0) (by kernel_rfl) rfl
instance : ElT Tryz.prog 2 1 8 := ElT.mk' (z := .int .i64 0) (by kernel_rfl) rfl (by decide)
instance : Sz Tryz.prog 3 1 := Sz.mk' (by kernel_rfl)
instance : IntT Tryz.prog 3 .i64 := ⟨Tryz.underlying3⟩
instance : One Tryz.prog 3 := One.mk' Tryz.underlying3 rfl
instance : Zc Tryz.prog 3 [(.int .i64 0)] := Zc.mk' (z := .int .i64 0) (by kernel_rfl) rfl
instance : ElT Tryz.prog 3 1 8 := ElT.mk' (z := .int .i64 0) (by kernel_rfl) rfl (by decide)
instance : Sz Tryz.prog 4 1 := Sz.mk' (by kernel_rfl)
instance : BoolT Tryz.prog 4 := ⟨Tryz.underlying4⟩
instance : One Tryz.prog 4 := One.mk' Tryz.underlying4 rfl
instance : Zc Tryz.prog 4 [(.bool false)] := Zc.mk' (z := .bool false) (by kernel_rfl) rfl
instance : ElT Tryz.prog 4 1 1 := ElT.mk' (z := .bool false) (by kernel_rfl) rfl (by decide)
instance : Sz Tryz.prog 5 1 := Sz.mk' (by kernel_rfl)
instance : IntT Tryz.prog 5 .u8 := ⟨Tryz.underlying5⟩
instance : One Tryz.prog 5 := One.mk' Tryz.underlying5 rfl
instance : Zc Tryz.prog 5 [(.int .u8 0)] := Zc.mk' (z := .int .u8 0) (by kernel_rfl) rfl
instance : ElT Tryz.prog 5 1 1 := ElT.mk' (z := .int .u8 0) (by kernel_rfl) rfl (by decide)
instance : Sz Tryz.prog 6 1 := Sz.mk' (by kernel_rfl)
instance : IntT Tryz.prog 6 .u8 := ⟨Tryz.underlying6⟩
instance : One Tryz.prog 6 := One.mk' Tryz.underlying6 rfl
instance : Zc Tryz.prog 6 [(.int .u8 0)] := Zc.mk' (z := .int .u8 0) (by kernel_rfl) rfl
instance : ElT Tryz.prog 6 1 1 := ElT.mk' (z := .int .u8 0) (by kernel_rfl) rfl (by decide)
instance : Sz Tryz.prog 7 4 := Sz.mk' (by kernel_rfl)
instance : Ag Tryz.prog 7 := Ag.mk' Tryz.underlying7 rfl
instance : Fld Tryz.prog 7 0 0 2 := Fld.mk' Tryz.underlying7 rfl
instance : Fld Tryz.prog 7 1 1 3 := Fld.mk' Tryz.underlying7 rfl
instance : Fld Tryz.prog 7 2 2 4 := Fld.mk' Tryz.underlying7 rfl
instance : Fld Tryz.prog 7 3 3 6 := Fld.mk' Tryz.underlying7 rfl
instance : Zc Tryz.prog 7 [(.int .i64 0), (.int .i64 0), (.bool false), (.int .u8 0)] := Zc.mk' (z := .agg #[(.int .i64 0), (.int .i64 0), (.bool false), (.int .u8 0)]) (by kernel_rfl) rfl
instance : StT Tryz.prog 7 [(0, 1), (1, 1), (2, 1), (3, 1)] [(.int .i64 0), (.int .i64 0), (.bool false), (.int .u8 0)] := StT.mk' (z := .agg #[(.int .i64 0), (.int .i64 0), (.bool false), (.int .u8 0)]) Tryz.underlying7 (by kernel_rfl) rfl (by kernel_rfl)
instance : ElT Tryz.prog 7 4 24 := ElT.mk' (z := .agg #[(.int .i64 0), (.int .i64 0), (.bool false), (.int .u8 0)]) (by kernel_rfl) rfl (by decide)
instance : Sz Tryz.prog 8 4 := Sz.mk' (by kernel_rfl)
instance : Ag Tryz.prog 8 := Ag.mk' Tryz.underlying8 rfl
instance : Fld Tryz.prog 8 0 0 2 := Fld.mk' Tryz.underlying8 rfl
instance : Fld Tryz.prog 8 1 1 3 := Fld.mk' Tryz.underlying8 rfl
instance : Fld Tryz.prog 8 2 2 4 := Fld.mk' Tryz.underlying8 rfl
instance : Fld Tryz.prog 8 3 3 6 := Fld.mk' Tryz.underlying8 rfl
instance : Zc Tryz.prog 8 [(.int .i64 0), (.int .i64 0), (.bool false), (.int .u8 0)] := Zc.mk' (z := .agg #[(.int .i64 0), (.int .i64 0), (.bool false), (.int .u8 0)]) (by kernel_rfl) rfl
instance : StT Tryz.prog 8 [(0, 1), (1, 1), (2, 1), (3, 1)] [(.int .i64 0), (.int .i64 0), (.bool false), (.int .u8 0)] := StT.mk' (z := .agg #[(.int .i64 0), (.int .i64 0), (.bool false), (.int .u8 0)]) Tryz.underlying8 (by kernel_rfl) rfl (by kernel_rfl)
instance : ElT Tryz.prog 8 4 24 := ElT.mk' (z := .agg #[(.int .i64 0), (.int .i64 0), (.bool false), (.int .u8 0)]) (by kernel_rfl) rfl (by decide)
instance : Sz Tryz.prog 9 1 := Sz.mk' (by kernel_rfl)
instance : StrT Tryz.prog 9 := ⟨Tryz.underlying9⟩
instance : One Tryz.prog 9 := One.mk' Tryz.underlying9 rfl
instance : Zc Tryz.prog 9 [(.string ByteArray.empty)] := Zc.mk' (z := .string ByteArray.empty) (by kernel_rfl) rfl
instance : ElT Tryz.prog 9 1 16 := ElT.mk' (z := .string ByteArray.empty) (by kernel_rfl) rfl (by decide)
instance : Sz Tryz.prog 10 1 := Sz.mk' (by kernel_rfl)
instance : StrT Tryz.prog 10 := ⟨Tryz.underlying10⟩
instance : One Tryz.prog 10 := One.mk' Tryz.underlying10 rfl
instance : Zc Tryz.prog 10 [(.string ByteArray.empty)] := Zc.mk' (z := .string ByteArray.empty) (by kernel_rfl) rfl
instance : ElT Tryz.prog 10 1 16 := ElT.mk' (z := .string ByteArray.empty) (by kernel_rfl) rfl (by decide)
instance : Sz Tryz.prog 11 1 := Sz.mk' (by kernel_rfl)
instance : StrT Tryz.prog 11 := ⟨Tryz.underlying11⟩
instance : One Tryz.prog 11 := One.mk' Tryz.underlying11 rfl
instance : Zc Tryz.prog 11 [(.string ByteArray.empty)] := Zc.mk' (z := .string ByteArray.empty) (by kernel_rfl) rfl
instance : ElT Tryz.prog 11 1 16 := ElT.mk' (z := .string ByteArray.empty) (by kernel_rfl) rfl (by decide)
instance : Sz Tryz.prog 12 1 := Sz.mk' (by kernel_rfl)
instance : IntT Tryz.prog 12 .u64 := ⟨Tryz.underlying12⟩
instance : One Tryz.prog 12 := One.mk' Tryz.underlying12 rfl
instance : Zc Tryz.prog 12 [(.int .u64 0)] := Zc.mk' (z := .int .u64 0) (by kernel_rfl) rfl
instance : ElT Tryz.prog 12 1 8 := ElT.mk' (z := .int .u64 0) (by kernel_rfl) rfl (by decide)
instance : Sz Tryz.prog 13 2 := Sz.mk' (by kernel_rfl)
instance : Ag Tryz.prog 13 := Ag.mk' Tryz.underlying13 rfl
instance : Fld Tryz.prog 13 0 0 9 := Fld.mk' Tryz.underlying13 rfl
instance : Fld Tryz.prog 13 1 1 12 := Fld.mk' Tryz.underlying13 rfl
instance : Zc Tryz.prog 13 [(.string ByteArray.empty), (.int .u64 0)] := Zc.mk' (z := .agg #[(.string ByteArray.empty), (.int .u64 0)]) (by kernel_rfl) rfl
instance : StT Tryz.prog 13 [(0, 1), (1, 1)] [(.string ByteArray.empty), (.int .u64 0)] := StT.mk' (z := .agg #[(.string ByteArray.empty), (.int .u64 0)]) Tryz.underlying13 (by kernel_rfl) rfl (by kernel_rfl)
instance : ElT Tryz.prog 13 2 24 := ElT.mk' (z := .agg #[(.string ByteArray.empty), (.int .u64 0)]) (by kernel_rfl) rfl (by decide)
instance : Sz Tryz.prog 14 2 := Sz.mk' (by kernel_rfl)
instance : Ag Tryz.prog 14 := Ag.mk' Tryz.underlying14 rfl
instance : Fld Tryz.prog 14 0 0 9 := Fld.mk' Tryz.underlying14 rfl
instance : Fld Tryz.prog 14 1 1 12 := Fld.mk' Tryz.underlying14 rfl
instance : Zc Tryz.prog 14 [(.string ByteArray.empty), (.int .u64 0)] := Zc.mk' (z := .agg #[(.string ByteArray.empty), (.int .u64 0)]) (by kernel_rfl) rfl
instance : StT Tryz.prog 14 [(0, 1), (1, 1)] [(.string ByteArray.empty), (.int .u64 0)] := StT.mk' (z := .agg #[(.string ByteArray.empty), (.int .u64 0)]) Tryz.underlying14 (by kernel_rfl) rfl (by kernel_rfl)
instance : ElT Tryz.prog 14 2 24 := ElT.mk' (z := .agg #[(.string ByteArray.empty), (.int .u64 0)]) (by kernel_rfl) rfl (by decide)
instance : Sz Tryz.prog 15 1 := Sz.mk' (by kernel_rfl)
instance : PtrT Tryz.prog 15 408 := ⟨Tryz.underlying15⟩
instance : One Tryz.prog 15 := One.mk' Tryz.underlying15 rfl
instance : Zc Tryz.prog 15 [(.pointer none)] := Zc.mk' (z := .pointer none) (by kernel_rfl) rfl
instance : ElT Tryz.prog 15 1 8 := ElT.mk' (z := .pointer none) (by kernel_rfl) rfl (by decide)
instance : Sz Tryz.prog 16 1 := Sz.mk' (by kernel_rfl)
instance : PtrT Tryz.prog 16 411 := ⟨Tryz.underlying16⟩
instance : One Tryz.prog 16 := One.mk' Tryz.underlying16 rfl
instance : Zc Tryz.prog 16 [(.pointer none)] := Zc.mk' (z := .pointer none) (by kernel_rfl) rfl
instance : ElT Tryz.prog 16 1 8 := ElT.mk' (z := .pointer none) (by kernel_rfl) rfl (by decide)
instance : Sz Tryz.prog 17 1 := Sz.mk' (by kernel_rfl)
instance : PtrT Tryz.prog 17 418 := ⟨Tryz.underlying17⟩
instance : One Tryz.prog 17 := One.mk' Tryz.underlying17 rfl
instance : Zc Tryz.prog 17 [(.pointer none)] := Zc.mk' (z := .pointer none) (by kernel_rfl) rfl
instance : ElT Tryz.prog 17 1 8 := ElT.mk' (z := .pointer none) (by kernel_rfl) rfl (by decide)
instance : Sz Tryz.prog 18 1 := Sz.mk' (by kernel_rfl)
instance : Ag Tryz.prog 18 := Ag.mk' Tryz.underlying18 rfl
instance : Fld Tryz.prog 18 0 0 17 := Fld.mk' Tryz.underlying18 rfl
instance : Zc Tryz.prog 18 [(.pointer none)] := Zc.mk' (z := .agg #[(.pointer none)]) (by kernel_rfl) rfl
instance : StT Tryz.prog 18 [(0, 1)] [(.pointer none)] := StT.mk' (z := .agg #[(.pointer none)]) Tryz.underlying18 (by kernel_rfl) rfl (by kernel_rfl)
instance : ElT Tryz.prog 18 1 8 := ElT.mk' (z := .agg #[(.pointer none)]) (by kernel_rfl) rfl (by decide)
instance : Sz Tryz.prog 19 1 := Sz.mk' (by kernel_rfl)
instance : Ag Tryz.prog 19 := Ag.mk' Tryz.underlying19 rfl
instance : Fld Tryz.prog 19 0 0 17 := Fld.mk' Tryz.underlying19 rfl
instance : Zc Tryz.prog 19 [(.pointer none)] := Zc.mk' (z := .agg #[(.pointer none)]) (by kernel_rfl) rfl
instance : StT Tryz.prog 19 [(0, 1)] [(.pointer none)] := StT.mk' (z := .agg #[(.pointer none)]) Tryz.underlying19 (by kernel_rfl) rfl (by kernel_rfl)
instance : ElT Tryz.prog 19 1 8 := ElT.mk' (z := .agg #[(.pointer none)]) (by kernel_rfl) rfl (by decide)
instance : Sz Tryz.prog 20 1 := Sz.mk' (by kernel_rfl)
instance : One Tryz.prog 20 := One.mk' Tryz.underlying20 rfl
instance : Zc Tryz.prog 20 [(.nilIface)] := Zc.mk' (z := .nilIface) (by kernel_rfl) rfl
instance : ElT Tryz.prog 20 1 16 := ElT.mk' (z := .nilIface) (by kernel_rfl) rfl (by decide)
instance : Sz Tryz.prog 21 1 := Sz.mk' (by kernel_rfl)
instance : IntT Tryz.prog 21 .i32 := ⟨Tryz.underlying21⟩
instance : One Tryz.prog 21 := One.mk' Tryz.underlying21 rfl
instance : Zc Tryz.prog 21 [(.int .i32 0)] := Zc.mk' (z := .int .i32 0) (by kernel_rfl) rfl
instance : ElT Tryz.prog 21 1 4 := ElT.mk' (z := .int .i32 0) (by kernel_rfl) rfl (by decide)
instance : Sz Tryz.prog 22 1 := Sz.mk' (by kernel_rfl)
instance : One Tryz.prog 22 := One.mk' Tryz.underlying22 rfl
instance : Zc Tryz.prog 22 [(.nilFunc)] := Zc.mk' (z := .nilFunc) (by kernel_rfl) rfl
instance : ElT Tryz.prog 22 1 8 := ElT.mk' (z := .nilFunc) (by kernel_rfl) rfl (by decide)
instance : Sz Tryz.prog 23 1 := Sz.mk' (by kernel_rfl)
instance : PtrT Tryz.prog 23 110 := ⟨Tryz.underlying23⟩
instance : One Tryz.prog 23 := One.mk' Tryz.underlying23 rfl
instance : Zc Tryz.prog 23 [(.pointer none)] := Zc.mk' (z := .pointer none) (by kernel_rfl) rfl
instance : ElT Tryz.prog 23 1 8 := ElT.mk' (z := .pointer none) (by kernel_rfl) rfl (by decide)
instance : Sz Tryz.prog 24 1 := Sz.mk' (by kernel_rfl)
instance : IntT Tryz.prog 24 .i64 := ⟨Tryz.underlying24⟩
instance : One Tryz.prog 24 := One.mk' Tryz.underlying24 rfl
instance : Zc Tryz.prog 24 [(.int .i64 0)] := Zc.mk' (z := .int .i64 0) (by kernel_rfl) rfl
instance : ElT Tryz.prog 24 1 8 := ElT.mk' (z := .int .i64 0) (by kernel_rfl) rfl (by decide)
instance : Sz Tryz.prog 26 1 := Sz.mk' (by kernel_rfl)
instance : One Tryz.prog 26 := One.mk' Tryz.underlying26 rfl
instance : Zc Tryz.prog 26 [(.nilFunc)] := Zc.mk' (z := .nilFunc) (by kernel_rfl) rfl
instance : ElT Tryz.prog 26 1 8 := ElT.mk' (z := .nilFunc) (by kernel_rfl) rfl (by decide)
instance : Sz Tryz.prog 27 1 := Sz.mk' (by kernel_rfl)
instance : IntT Tryz.prog 27 .u64 := ⟨Tryz.underlying27⟩
instance : One Tryz.prog 27 := One.mk' Tryz.underlying27 rfl
instance : Zc Tryz.prog 27 [(.int .u64 0)] := Zc.mk' (z := .int .u64 0) (by kernel_rfl) rfl
instance : ElT Tryz.prog 27 1 8 := ElT.mk' (z := .int .u64 0) (by kernel_rfl) rfl (by decide)
instance : Sz Tryz.prog 28 1 := Sz.mk' (by kernel_rfl)
instance : SlT Tryz.prog 28 105 := ⟨Tryz.underlying28⟩
instance : One Tryz.prog 28 := One.mk' Tryz.underlying28 rfl
instance : Zc Tryz.prog 28 [(.slice none 0 0)] := Zc.mk' (z := .slice none 0 0) (by kernel_rfl) rfl
instance : ElT Tryz.prog 28 1 24 := ElT.mk' (z := .slice none 0 0) (by kernel_rfl) rfl (by decide)
instance : Sz Tryz.prog 29 1 := Sz.mk' (by kernel_rfl)
instance : SlT Tryz.prog 29 138 := ⟨Tryz.underlying29⟩
instance : One Tryz.prog 29 := One.mk' Tryz.underlying29 rfl
instance : Zc Tryz.prog 29 [(.slice none 0 0)] := Zc.mk' (z := .slice none 0 0) (by kernel_rfl) rfl
instance : ElT Tryz.prog 29 1 24 := ElT.mk' (z := .slice none 0 0) (by kernel_rfl) rfl (by decide)
instance : Sz Tryz.prog 30 8 := Sz.mk' (by kernel_rfl)
instance : Ag Tryz.prog 30 := Ag.mk' Tryz.underlying30 rfl
instance : Fld Tryz.prog 30 0 0 27 := Fld.mk' Tryz.underlying30 rfl
instance : Fld Tryz.prog 30 1 1 3 := Fld.mk' Tryz.underlying30 rfl
instance : Fld Tryz.prog 30 2 2 3 := Fld.mk' Tryz.underlying30 rfl
instance : Fld Tryz.prog 30 3 3 3 := Fld.mk' Tryz.underlying30 rfl
instance : Fld Tryz.prog 30 4 4 3 := Fld.mk' Tryz.underlying30 rfl
instance : Fld Tryz.prog 30 5 5 28 := Fld.mk' Tryz.underlying30 rfl
instance : Fld Tryz.prog 30 6 6 29 := Fld.mk' Tryz.underlying30 rfl
instance : Fld Tryz.prog 30 7 7 9 := Fld.mk' Tryz.underlying30 rfl
instance : Zc Tryz.prog 30 [(.int .u64 0), (.int .i64 0), (.int .i64 0), (.int .i64 0), (.int .i64 0), (.slice none 0 0), (.slice none 0 0), (.string ByteArray.empty)] := Zc.mk' (z := .agg #[(.int .u64 0), (.int .i64 0), (.int .i64 0), (.int .i64 0), (.int .i64 0), (.slice none 0 0), (.slice none 0 0), (.string ByteArray.empty)]) (by kernel_rfl) rfl
instance : StT Tryz.prog 30 [(0, 1), (1, 1), (2, 1), (3, 1), (4, 1), (5, 1), (6, 1), (7, 1)] [(.int .u64 0), (.int .i64 0), (.int .i64 0), (.int .i64 0), (.int .i64 0), (.slice none 0 0), (.slice none 0 0), (.string ByteArray.empty)] := StT.mk' (z := .agg #[(.int .u64 0), (.int .i64 0), (.int .i64 0), (.int .i64 0), (.int .i64 0), (.slice none 0 0), (.slice none 0 0), (.string ByteArray.empty)]) Tryz.underlying30 (by kernel_rfl) rfl (by kernel_rfl)
instance : ElT Tryz.prog 30 8 104 := ElT.mk' (z := .agg #[(.int .u64 0), (.int .i64 0), (.int .i64 0), (.int .i64 0), (.int .i64 0), (.slice none 0 0), (.slice none 0 0), (.string ByteArray.empty)]) (by kernel_rfl) rfl (by decide)
instance : Sz Tryz.prog 31 8 := Sz.mk' (by kernel_rfl)
instance : Ag Tryz.prog 31 := Ag.mk' Tryz.underlying31 rfl
instance : Fld Tryz.prog 31 0 0 27 := Fld.mk' Tryz.underlying31 rfl
instance : Fld Tryz.prog 31 1 1 3 := Fld.mk' Tryz.underlying31 rfl
instance : Fld Tryz.prog 31 2 2 3 := Fld.mk' Tryz.underlying31 rfl
instance : Fld Tryz.prog 31 3 3 3 := Fld.mk' Tryz.underlying31 rfl
instance : Fld Tryz.prog 31 4 4 3 := Fld.mk' Tryz.underlying31 rfl
instance : Fld Tryz.prog 31 5 5 28 := Fld.mk' Tryz.underlying31 rfl
instance : Fld Tryz.prog 31 6 6 29 := Fld.mk' Tryz.underlying31 rfl
instance : Fld Tryz.prog 31 7 7 9 := Fld.mk' Tryz.underlying31 rfl
instance : Zc Tryz.prog 31 [(.int .u64 0), (.int .i64 0), (.int .i64 0), (.int .i64 0), (.int .i64 0), (.slice none 0 0), (.slice none 0 0), (.string ByteArray.empty)] := Zc.mk' (z := .agg #[(.int .u64 0), (.int .i64 0), (.int .i64 0), (.int .i64 0), (.int .i64 0), (.slice none 0 0), (.slice none 0 0), (.string ByteArray.empty)]) (by kernel_rfl) rfl
instance : StT Tryz.prog 31 [(0, 1), (1, 1), (2, 1), (3, 1), (4, 1), (5, 1), (6, 1), (7, 1)] [(.int .u64 0), (.int .i64 0), (.int .i64 0), (.int .i64 0), (.int .i64 0), (.slice none 0 0), (.slice none 0 0), (.string ByteArray.empty)] := StT.mk' (z := .agg #[(.int .u64 0), (.int .i64 0), (.int .i64 0), (.int .i64 0), (.int .i64 0), (.slice none 0 0), (.slice none 0 0), (.string ByteArray.empty)]) Tryz.underlying31 (by kernel_rfl) rfl (by kernel_rfl)
instance : ElT Tryz.prog 31 8 104 := ElT.mk' (z := .agg #[(.int .u64 0), (.int .i64 0), (.int .i64 0), (.int .i64 0), (.int .i64 0), (.slice none 0 0), (.slice none 0 0), (.string ByteArray.empty)]) (by kernel_rfl) rfl (by decide)
instance : Sz Tryz.prog 32 1 := Sz.mk' (by kernel_rfl)
instance : SlT Tryz.prog 32 3 := ⟨Tryz.underlying32⟩
instance : One Tryz.prog 32 := One.mk' Tryz.underlying32 rfl
instance : Zc Tryz.prog 32 [(.slice none 0 0)] := Zc.mk' (z := .slice none 0 0) (by kernel_rfl) rfl
instance : ElT Tryz.prog 32 1 24 := ElT.mk' (z := .slice none 0 0) (by kernel_rfl) rfl (by decide)
instance : Sz Tryz.prog 33 10 := Sz.mk' (by kernel_rfl)
instance : Ag Tryz.prog 33 := Ag.mk' Tryz.underlying33 rfl
instance : Fld Tryz.prog 33 0 0 31 := Fld.mk' Tryz.underlying33 rfl
instance : Fld Tryz.prog 33 1 8 3 := Fld.mk' Tryz.underlying33 rfl
instance : Fld Tryz.prog 33 2 9 32 := Fld.mk' Tryz.underlying33 rfl
instance : Zc Tryz.prog 33 [(.int .u64 0), (.int .i64 0), (.int .i64 0), (.int .i64 0), (.int .i64 0), (.slice none 0 0), (.slice none 0 0), (.string ByteArray.empty), (.int .i64 0), (.slice none 0 0)] := Zc.mk' (z := .agg #[(.int .u64 0), (.int .i64 0), (.int .i64 0), (.int .i64 0), (.int .i64 0), (.slice none 0 0), (.slice none 0 0), (.string ByteArray.empty), (.int .i64 0), (.slice none 0 0)]) (by kernel_rfl) rfl
instance : StT Tryz.prog 33 [(0, 8), (8, 1), (9, 1)] [(.int .u64 0), (.int .i64 0), (.int .i64 0), (.int .i64 0), (.int .i64 0), (.slice none 0 0), (.slice none 0 0), (.string ByteArray.empty), (.int .i64 0), (.slice none 0 0)] := StT.mk' (z := .agg #[(.int .u64 0), (.int .i64 0), (.int .i64 0), (.int .i64 0), (.int .i64 0), (.slice none 0 0), (.slice none 0 0), (.string ByteArray.empty), (.int .i64 0), (.slice none 0 0)]) Tryz.underlying33 (by kernel_rfl) rfl (by kernel_rfl)
instance : ElT Tryz.prog 33 10 136 := ElT.mk' (z := .agg #[(.int .u64 0), (.int .i64 0), (.int .i64 0), (.int .i64 0), (.int .i64 0), (.slice none 0 0), (.slice none 0 0), (.string ByteArray.empty), (.int .i64 0), (.slice none 0 0)]) (by kernel_rfl) rfl (by decide)
instance : Sz Tryz.prog 34 10 := Sz.mk' (by kernel_rfl)
instance : Ag Tryz.prog 34 := Ag.mk' Tryz.underlying34 rfl
instance : Fld Tryz.prog 34 0 0 31 := Fld.mk' Tryz.underlying34 rfl
instance : Fld Tryz.prog 34 1 8 3 := Fld.mk' Tryz.underlying34 rfl
instance : Fld Tryz.prog 34 2 9 32 := Fld.mk' Tryz.underlying34 rfl
instance : Zc Tryz.prog 34 [(.int .u64 0), (.int .i64 0), (.int .i64 0), (.int .i64 0), (.int .i64 0), (.slice none 0 0), (.slice none 0 0), (.string ByteArray.empty), (.int .i64 0), (.slice none 0 0)] := Zc.mk' (z := .agg #[(.int .u64 0), (.int .i64 0), (.int .i64 0), (.int .i64 0), (.int .i64 0), (.slice none 0 0), (.slice none 0 0), (.string ByteArray.empty), (.int .i64 0), (.slice none 0 0)]) (by kernel_rfl) rfl
instance : StT Tryz.prog 34 [(0, 8), (8, 1), (9, 1)] [(.int .u64 0), (.int .i64 0), (.int .i64 0), (.int .i64 0), (.int .i64 0), (.slice none 0 0), (.slice none 0 0), (.string ByteArray.empty), (.int .i64 0), (.slice none 0 0)] := StT.mk' (z := .agg #[(.int .u64 0), (.int .i64 0), (.int .i64 0), (.int .i64 0), (.int .i64 0), (.slice none 0 0), (.slice none 0 0), (.string ByteArray.empty), (.int .i64 0), (.slice none 0 0)]) Tryz.underlying34 (by kernel_rfl) rfl (by kernel_rfl)
instance : ElT Tryz.prog 34 10 136 := ElT.mk' (z := .agg #[(.int .u64 0), (.int .i64 0), (.int .i64 0), (.int .i64 0), (.int .i64 0), (.slice none 0 0), (.slice none 0 0), (.string ByteArray.empty), (.int .i64 0), (.slice none 0 0)]) (by kernel_rfl) rfl (by decide)
instance : Sz Tryz.prog 36 1 := Sz.mk' (by kernel_rfl)
instance : One Tryz.prog 36 := One.mk' Tryz.underlying36 rfl
instance : Zc Tryz.prog 36 [(.nilFunc)] := Zc.mk' (z := .nilFunc) (by kernel_rfl) rfl
instance : ElT Tryz.prog 36 1 8 := ElT.mk' (z := .nilFunc) (by kernel_rfl) rfl (by decide)
instance : Sz Tryz.prog 37 1 := Sz.mk' (by kernel_rfl)
instance : One Tryz.prog 37 := One.mk' Tryz.underlying37 rfl
instance : Zc Tryz.prog 37 [(.nilFunc)] := Zc.mk' (z := .nilFunc) (by kernel_rfl) rfl
instance : ElT Tryz.prog 37 1 8 := ElT.mk' (z := .nilFunc) (by kernel_rfl) rfl (by decide)
instance : Sz Tryz.prog 38 1 := Sz.mk' (by kernel_rfl)
instance : SlT Tryz.prog 38 154 := ⟨Tryz.underlying38⟩
instance : One Tryz.prog 38 := One.mk' Tryz.underlying38 rfl
instance : Zc Tryz.prog 38 [(.slice none 0 0)] := Zc.mk' (z := .slice none 0 0) (by kernel_rfl) rfl
instance : ElT Tryz.prog 38 1 24 := ElT.mk' (z := .slice none 0 0) (by kernel_rfl) rfl (by decide)
instance : Sz Tryz.prog 39 1 := Sz.mk' (by kernel_rfl)
instance : SlT Tryz.prog 39 103 := ⟨Tryz.underlying39⟩
instance : One Tryz.prog 39 := One.mk' Tryz.underlying39 rfl
instance : Zc Tryz.prog 39 [(.slice none 0 0)] := Zc.mk' (z := .slice none 0 0) (by kernel_rfl) rfl
instance : ElT Tryz.prog 39 1 24 := ElT.mk' (z := .slice none 0 0) (by kernel_rfl) rfl (by decide)
instance : Sz Tryz.prog 40 7 := Sz.mk' (by kernel_rfl)
instance : Ag Tryz.prog 40 := Ag.mk' Tryz.underlying40 rfl
instance : Fld Tryz.prog 40 0 0 27 := Fld.mk' Tryz.underlying40 rfl
instance : Fld Tryz.prog 40 1 1 3 := Fld.mk' Tryz.underlying40 rfl
instance : Fld Tryz.prog 40 2 2 3 := Fld.mk' Tryz.underlying40 rfl
instance : Fld Tryz.prog 40 3 3 3 := Fld.mk' Tryz.underlying40 rfl
instance : Fld Tryz.prog 40 4 4 38 := Fld.mk' Tryz.underlying40 rfl
instance : Fld Tryz.prog 40 5 5 39 := Fld.mk' Tryz.underlying40 rfl
instance : Fld Tryz.prog 40 6 6 9 := Fld.mk' Tryz.underlying40 rfl
instance : Zc Tryz.prog 40 [(.int .u64 0), (.int .i64 0), (.int .i64 0), (.int .i64 0), (.slice none 0 0), (.slice none 0 0), (.string ByteArray.empty)] := Zc.mk' (z := .agg #[(.int .u64 0), (.int .i64 0), (.int .i64 0), (.int .i64 0), (.slice none 0 0), (.slice none 0 0), (.string ByteArray.empty)]) (by kernel_rfl) rfl
instance : StT Tryz.prog 40 [(0, 1), (1, 1), (2, 1), (3, 1), (4, 1), (5, 1), (6, 1)] [(.int .u64 0), (.int .i64 0), (.int .i64 0), (.int .i64 0), (.slice none 0 0), (.slice none 0 0), (.string ByteArray.empty)] := StT.mk' (z := .agg #[(.int .u64 0), (.int .i64 0), (.int .i64 0), (.int .i64 0), (.slice none 0 0), (.slice none 0 0), (.string ByteArray.empty)]) Tryz.underlying40 (by kernel_rfl) rfl (by kernel_rfl)
instance : ElT Tryz.prog 40 7 96 := ElT.mk' (z := .agg #[(.int .u64 0), (.int .i64 0), (.int .i64 0), (.int .i64 0), (.slice none 0 0), (.slice none 0 0), (.string ByteArray.empty)]) (by kernel_rfl) rfl (by decide)
instance : Sz Tryz.prog 41 7 := Sz.mk' (by kernel_rfl)
instance : Ag Tryz.prog 41 := Ag.mk' Tryz.underlying41 rfl
instance : Fld Tryz.prog 41 0 0 27 := Fld.mk' Tryz.underlying41 rfl
instance : Fld Tryz.prog 41 1 1 3 := Fld.mk' Tryz.underlying41 rfl
instance : Fld Tryz.prog 41 2 2 3 := Fld.mk' Tryz.underlying41 rfl
instance : Fld Tryz.prog 41 3 3 3 := Fld.mk' Tryz.underlying41 rfl
instance : Fld Tryz.prog 41 4 4 38 := Fld.mk' Tryz.underlying41 rfl
instance : Fld Tryz.prog 41 5 5 39 := Fld.mk' Tryz.underlying41 rfl
instance : Fld Tryz.prog 41 6 6 9 := Fld.mk' Tryz.underlying41 rfl
instance : Zc Tryz.prog 41 [(.int .u64 0), (.int .i64 0), (.int .i64 0), (.int .i64 0), (.slice none 0 0), (.slice none 0 0), (.string ByteArray.empty)] := Zc.mk' (z := .agg #[(.int .u64 0), (.int .i64 0), (.int .i64 0), (.int .i64 0), (.slice none 0 0), (.slice none 0 0), (.string ByteArray.empty)]) (by kernel_rfl) rfl
instance : StT Tryz.prog 41 [(0, 1), (1, 1), (2, 1), (3, 1), (4, 1), (5, 1), (6, 1)] [(.int .u64 0), (.int .i64 0), (.int .i64 0), (.int .i64 0), (.slice none 0 0), (.slice none 0 0), (.string ByteArray.empty)] := StT.mk' (z := .agg #[(.int .u64 0), (.int .i64 0), (.int .i64 0), (.int .i64 0), (.slice none 0 0), (.slice none 0 0), (.string ByteArray.empty)]) Tryz.underlying41 (by kernel_rfl) rfl (by kernel_rfl)
instance : ElT Tryz.prog 41 7 96 := ElT.mk' (z := .agg #[(.int .u64 0), (.int .i64 0), (.int .i64 0), (.int .i64 0), (.slice none 0 0), (.slice none 0 0), (.string ByteArray.empty)]) (by kernel_rfl) rfl (by decide)
instance : Sz Tryz.prog 43 1 := Sz.mk' (by kernel_rfl)
instance : One Tryz.prog 43 := One.mk' Tryz.underlying43 rfl
instance : Zc Tryz.prog 43 [(.nilFunc)] := Zc.mk' (z := .nilFunc) (by kernel_rfl) rfl
instance : ElT Tryz.prog 43 1 8 := ElT.mk' (z := .nilFunc) (by kernel_rfl) rfl (by decide)
instance : Sz Tryz.prog 45 1 := Sz.mk' (by kernel_rfl)
instance : One Tryz.prog 45 := One.mk' Tryz.underlying45 rfl
instance : Zc Tryz.prog 45 [(.nilFunc)] := Zc.mk' (z := .nilFunc) (by kernel_rfl) rfl
instance : ElT Tryz.prog 45 1 8 := ElT.mk' (z := .nilFunc) (by kernel_rfl) rfl (by decide)
instance : Sz Tryz.prog 47 1 := Sz.mk' (by kernel_rfl)
instance : One Tryz.prog 47 := One.mk' Tryz.underlying47 rfl
instance : Zc Tryz.prog 47 [(.nilFunc)] := Zc.mk' (z := .nilFunc) (by kernel_rfl) rfl
instance : ElT Tryz.prog 47 1 8 := ElT.mk' (z := .nilFunc) (by kernel_rfl) rfl (by decide)
instance : Sz Tryz.prog 48 2 := Sz.mk' (by kernel_rfl)
instance : Ag Tryz.prog 48 := Ag.mk' Tryz.underlying48 rfl
instance : EqS Tryz.prog 48 [.i64, .i64] := EqS.mk' Tryz.underlying48 (by kernel_rfl) (by kernel_rfl) (by kernel_rfl)
instance : Fld Tryz.prog 48 0 0 3 := Fld.mk' Tryz.underlying48 rfl
instance : Fld Tryz.prog 48 1 1 3 := Fld.mk' Tryz.underlying48 rfl
instance : Zc Tryz.prog 48 [(.int .i64 0), (.int .i64 0)] := Zc.mk' (z := .agg #[(.int .i64 0), (.int .i64 0)]) (by kernel_rfl) rfl
instance : StT Tryz.prog 48 [(0, 1), (1, 1)] [(.int .i64 0), (.int .i64 0)] := StT.mk' (z := .agg #[(.int .i64 0), (.int .i64 0)]) Tryz.underlying48 (by kernel_rfl) rfl (by kernel_rfl)
instance : ElT Tryz.prog 48 2 16 := ElT.mk' (z := .agg #[(.int .i64 0), (.int .i64 0)]) (by kernel_rfl) rfl (by decide)
instance : Sz Tryz.prog 49 2 := Sz.mk' (by kernel_rfl)
instance : Ag Tryz.prog 49 := Ag.mk' Tryz.underlying49 rfl
instance : EqS Tryz.prog 49 [.i64, .i64] := EqS.mk' Tryz.underlying49 (by kernel_rfl) (by kernel_rfl) (by kernel_rfl)
instance : Fld Tryz.prog 49 0 0 3 := Fld.mk' Tryz.underlying49 rfl
instance : Fld Tryz.prog 49 1 1 3 := Fld.mk' Tryz.underlying49 rfl
instance : Zc Tryz.prog 49 [(.int .i64 0), (.int .i64 0)] := Zc.mk' (z := .agg #[(.int .i64 0), (.int .i64 0)]) (by kernel_rfl) rfl
instance : StT Tryz.prog 49 [(0, 1), (1, 1)] [(.int .i64 0), (.int .i64 0)] := StT.mk' (z := .agg #[(.int .i64 0), (.int .i64 0)]) Tryz.underlying49 (by kernel_rfl) rfl (by kernel_rfl)
instance : ElT Tryz.prog 49 2 16 := ElT.mk' (z := .agg #[(.int .i64 0), (.int .i64 0)]) (by kernel_rfl) rfl (by decide)
instance : Sz Tryz.prog 50 1 := Sz.mk' (by kernel_rfl)
instance : One Tryz.prog 50 := One.mk' Tryz.underlying50 rfl
instance : Zc Tryz.prog 50 [(.nilFunc)] := Zc.mk' (z := .nilFunc) (by kernel_rfl) rfl
instance : ElT Tryz.prog 50 1 8 := ElT.mk' (z := .nilFunc) (by kernel_rfl) rfl (by decide)
instance : Sz Tryz.prog 51 1 := Sz.mk' (by kernel_rfl)
instance : SlT Tryz.prog 51 128 := ⟨Tryz.underlying51⟩
instance : One Tryz.prog 51 := One.mk' Tryz.underlying51 rfl
instance : Zc Tryz.prog 51 [(.slice none 0 0)] := Zc.mk' (z := .slice none 0 0) (by kernel_rfl) rfl
instance : ElT Tryz.prog 51 1 24 := ElT.mk' (z := .slice none 0 0) (by kernel_rfl) rfl (by decide)
instance : Sz Tryz.prog 52 3 := Sz.mk' (by kernel_rfl)
instance : Ag Tryz.prog 52 := Ag.mk' Tryz.underlying52 rfl
instance : Fld Tryz.prog 52 0 0 9 := Fld.mk' Tryz.underlying52 rfl
instance : Fld Tryz.prog 52 1 1 3 := Fld.mk' Tryz.underlying52 rfl
instance : Fld Tryz.prog 52 2 2 32 := Fld.mk' Tryz.underlying52 rfl
instance : Zc Tryz.prog 52 [(.string ByteArray.empty), (.int .i64 0), (.slice none 0 0)] := Zc.mk' (z := .agg #[(.string ByteArray.empty), (.int .i64 0), (.slice none 0 0)]) (by kernel_rfl) rfl
instance : StT Tryz.prog 52 [(0, 1), (1, 1), (2, 1)] [(.string ByteArray.empty), (.int .i64 0), (.slice none 0 0)] := StT.mk' (z := .agg #[(.string ByteArray.empty), (.int .i64 0), (.slice none 0 0)]) Tryz.underlying52 (by kernel_rfl) rfl (by kernel_rfl)
instance : ElT Tryz.prog 52 3 48 := ElT.mk' (z := .agg #[(.string ByteArray.empty), (.int .i64 0), (.slice none 0 0)]) (by kernel_rfl) rfl (by decide)
instance : Sz Tryz.prog 53 3 := Sz.mk' (by kernel_rfl)
instance : Ag Tryz.prog 53 := Ag.mk' Tryz.underlying53 rfl
instance : Fld Tryz.prog 53 0 0 9 := Fld.mk' Tryz.underlying53 rfl
instance : Fld Tryz.prog 53 1 1 3 := Fld.mk' Tryz.underlying53 rfl
instance : Fld Tryz.prog 53 2 2 32 := Fld.mk' Tryz.underlying53 rfl
instance : Zc Tryz.prog 53 [(.string ByteArray.empty), (.int .i64 0), (.slice none 0 0)] := Zc.mk' (z := .agg #[(.string ByteArray.empty), (.int .i64 0), (.slice none 0 0)]) (by kernel_rfl) rfl
instance : StT Tryz.prog 53 [(0, 1), (1, 1), (2, 1)] [(.string ByteArray.empty), (.int .i64 0), (.slice none 0 0)] := StT.mk' (z := .agg #[(.string ByteArray.empty), (.int .i64 0), (.slice none 0 0)]) Tryz.underlying53 (by kernel_rfl) rfl (by kernel_rfl)
instance : ElT Tryz.prog 53 3 48 := ElT.mk' (z := .agg #[(.string ByteArray.empty), (.int .i64 0), (.slice none 0 0)]) (by kernel_rfl) rfl (by decide)
instance : Sz Tryz.prog 54 1 := Sz.mk' (by kernel_rfl)
instance : One Tryz.prog 54 := One.mk' Tryz.underlying54 rfl
instance : Zc Tryz.prog 54 [(.nilFunc)] := Zc.mk' (z := .nilFunc) (by kernel_rfl) rfl
instance : ElT Tryz.prog 54 1 8 := ElT.mk' (z := .nilFunc) (by kernel_rfl) rfl (by decide)
instance : Sz Tryz.prog 55 1 := Sz.mk' (by kernel_rfl)
instance : One Tryz.prog 55 := One.mk' Tryz.underlying55 rfl
instance : Zc Tryz.prog 55 [(.nilFunc)] := Zc.mk' (z := .nilFunc) (by kernel_rfl) rfl
instance : ElT Tryz.prog 55 1 8 := ElT.mk' (z := .nilFunc) (by kernel_rfl) rfl (by decide)
instance : Sz Tryz.prog 56 1 := Sz.mk' (by kernel_rfl)
instance : PtrT Tryz.prog 56 60 := ⟨Tryz.underlying56⟩
instance : One Tryz.prog 56 := One.mk' Tryz.underlying56 rfl
instance : Zc Tryz.prog 56 [(.pointer none)] := Zc.mk' (z := .pointer none) (by kernel_rfl) rfl
instance : ElT Tryz.prog 56 1 8 := ElT.mk' (z := .pointer none) (by kernel_rfl) rfl (by decide)
instance : Sz Tryz.prog 57 1 := Sz.mk' (by kernel_rfl)
instance : SlT Tryz.prog 57 271 := ⟨Tryz.underlying57⟩
instance : One Tryz.prog 57 := One.mk' Tryz.underlying57 rfl
instance : Zc Tryz.prog 57 [(.slice none 0 0)] := Zc.mk' (z := .slice none 0 0) (by kernel_rfl) rfl
instance : ElT Tryz.prog 57 1 24 := ElT.mk' (z := .slice none 0 0) (by kernel_rfl) rfl (by decide)
instance : Sz Tryz.prog 58 1 := Sz.mk' (by kernel_rfl)
instance : SlT Tryz.prog 58 201 := ⟨Tryz.underlying58⟩
instance : One Tryz.prog 58 := One.mk' Tryz.underlying58 rfl
instance : Zc Tryz.prog 58 [(.slice none 0 0)] := Zc.mk' (z := .slice none 0 0) (by kernel_rfl) rfl
instance : ElT Tryz.prog 58 1 24 := ElT.mk' (z := .slice none 0 0) (by kernel_rfl) rfl (by decide)
instance : Sz Tryz.prog 59 4 := Sz.mk' (by kernel_rfl)
instance : Ag Tryz.prog 59 := Ag.mk' Tryz.underlying59 rfl
instance : Fld Tryz.prog 59 0 0 57 := Fld.mk' Tryz.underlying59 rfl
instance : Fld Tryz.prog 59 1 1 3 := Fld.mk' Tryz.underlying59 rfl
instance : Fld Tryz.prog 59 2 2 32 := Fld.mk' Tryz.underlying59 rfl
instance : Fld Tryz.prog 59 3 3 58 := Fld.mk' Tryz.underlying59 rfl
instance : Zc Tryz.prog 59 [(.slice none 0 0), (.int .i64 0), (.slice none 0 0), (.slice none 0 0)] := Zc.mk' (z := .agg #[(.slice none 0 0), (.int .i64 0), (.slice none 0 0), (.slice none 0 0)]) (by kernel_rfl) rfl
instance : StT Tryz.prog 59 [(0, 1), (1, 1), (2, 1), (3, 1)] [(.slice none 0 0), (.int .i64 0), (.slice none 0 0), (.slice none 0 0)] := StT.mk' (z := .agg #[(.slice none 0 0), (.int .i64 0), (.slice none 0 0), (.slice none 0 0)]) Tryz.underlying59 (by kernel_rfl) rfl (by kernel_rfl)
instance : ElT Tryz.prog 59 4 80 := ElT.mk' (z := .agg #[(.slice none 0 0), (.int .i64 0), (.slice none 0 0), (.slice none 0 0)]) (by kernel_rfl) rfl (by decide)
instance : Sz Tryz.prog 60 4 := Sz.mk' (by kernel_rfl)
instance : Ag Tryz.prog 60 := Ag.mk' Tryz.underlying60 rfl
instance : Fld Tryz.prog 60 0 0 57 := Fld.mk' Tryz.underlying60 rfl
instance : Fld Tryz.prog 60 1 1 3 := Fld.mk' Tryz.underlying60 rfl
instance : Fld Tryz.prog 60 2 2 32 := Fld.mk' Tryz.underlying60 rfl
instance : Fld Tryz.prog 60 3 3 58 := Fld.mk' Tryz.underlying60 rfl
instance : Zc Tryz.prog 60 [(.slice none 0 0), (.int .i64 0), (.slice none 0 0), (.slice none 0 0)] := Zc.mk' (z := .agg #[(.slice none 0 0), (.int .i64 0), (.slice none 0 0), (.slice none 0 0)]) (by kernel_rfl) rfl
instance : StT Tryz.prog 60 [(0, 1), (1, 1), (2, 1), (3, 1)] [(.slice none 0 0), (.int .i64 0), (.slice none 0 0), (.slice none 0 0)] := StT.mk' (z := .agg #[(.slice none 0 0), (.int .i64 0), (.slice none 0 0), (.slice none 0 0)]) Tryz.underlying60 (by kernel_rfl) rfl (by kernel_rfl)
instance : ElT Tryz.prog 60 4 80 := ElT.mk' (z := .agg #[(.slice none 0 0), (.int .i64 0), (.slice none 0 0), (.slice none 0 0)]) (by kernel_rfl) rfl (by decide)
instance : Sz Tryz.prog 61 1 := Sz.mk' (by kernel_rfl)
instance : One Tryz.prog 61 := One.mk' Tryz.underlying61 rfl
instance : Zc Tryz.prog 61 [(.nilFunc)] := Zc.mk' (z := .nilFunc) (by kernel_rfl) rfl
instance : ElT Tryz.prog 61 1 8 := ElT.mk' (z := .nilFunc) (by kernel_rfl) rfl (by decide)
instance : Sz Tryz.prog 62 1 := Sz.mk' (by kernel_rfl)
instance : One Tryz.prog 62 := One.mk' Tryz.underlying62 rfl
instance : Zc Tryz.prog 62 [(.nilFunc)] := Zc.mk' (z := .nilFunc) (by kernel_rfl) rfl
instance : ElT Tryz.prog 62 1 8 := ElT.mk' (z := .nilFunc) (by kernel_rfl) rfl (by decide)
instance : Sz Tryz.prog 63 1 := Sz.mk' (by kernel_rfl)
instance : One Tryz.prog 63 := One.mk' Tryz.underlying63 rfl
instance : Zc Tryz.prog 63 [(.nilFunc)] := Zc.mk' (z := .nilFunc) (by kernel_rfl) rfl
instance : ElT Tryz.prog 63 1 8 := ElT.mk' (z := .nilFunc) (by kernel_rfl) rfl (by decide)
instance : Sz Tryz.prog 64 1 := Sz.mk' (by kernel_rfl)
instance : One Tryz.prog 64 := One.mk' Tryz.underlying64 rfl
instance : Zc Tryz.prog 64 [(.nilFunc)] := Zc.mk' (z := .nilFunc) (by kernel_rfl) rfl
instance : ElT Tryz.prog 64 1 8 := ElT.mk' (z := .nilFunc) (by kernel_rfl) rfl (by decide)
instance : Sz Tryz.prog 65 1 := Sz.mk' (by kernel_rfl)
instance : One Tryz.prog 65 := One.mk' Tryz.underlying65 rfl
instance : Zc Tryz.prog 65 [(.nilFunc)] := Zc.mk' (z := .nilFunc) (by kernel_rfl) rfl
instance : ElT Tryz.prog 65 1 8 := ElT.mk' (z := .nilFunc) (by kernel_rfl) rfl (by decide)
instance : Sz Tryz.prog 66 1 := Sz.mk' (by kernel_rfl)
instance : SlT Tryz.prog 66 135 := ⟨Tryz.underlying66⟩
instance : One Tryz.prog 66 := One.mk' Tryz.underlying66 rfl
instance : Zc Tryz.prog 66 [(.slice none 0 0)] := Zc.mk' (z := .slice none 0 0) (by kernel_rfl) rfl
instance : ElT Tryz.prog 66 1 24 := ElT.mk' (z := .slice none 0 0) (by kernel_rfl) rfl (by decide)
instance : Sz Tryz.prog 67 8 := Sz.mk' (by kernel_rfl)
instance : Ag Tryz.prog 67 := Ag.mk' Tryz.underlying67 rfl
instance : Fld Tryz.prog 67 0 0 27 := Fld.mk' Tryz.underlying67 rfl
instance : Fld Tryz.prog 67 1 1 3 := Fld.mk' Tryz.underlying67 rfl
instance : Fld Tryz.prog 67 2 2 3 := Fld.mk' Tryz.underlying67 rfl
instance : Fld Tryz.prog 67 3 3 3 := Fld.mk' Tryz.underlying67 rfl
instance : Fld Tryz.prog 67 4 4 3 := Fld.mk' Tryz.underlying67 rfl
instance : Fld Tryz.prog 67 5 5 28 := Fld.mk' Tryz.underlying67 rfl
instance : Fld Tryz.prog 67 6 6 66 := Fld.mk' Tryz.underlying67 rfl
instance : Fld Tryz.prog 67 7 7 9 := Fld.mk' Tryz.underlying67 rfl
instance : Zc Tryz.prog 67 [(.int .u64 0), (.int .i64 0), (.int .i64 0), (.int .i64 0), (.int .i64 0), (.slice none 0 0), (.slice none 0 0), (.string ByteArray.empty)] := Zc.mk' (z := .agg #[(.int .u64 0), (.int .i64 0), (.int .i64 0), (.int .i64 0), (.int .i64 0), (.slice none 0 0), (.slice none 0 0), (.string ByteArray.empty)]) (by kernel_rfl) rfl
instance : StT Tryz.prog 67 [(0, 1), (1, 1), (2, 1), (3, 1), (4, 1), (5, 1), (6, 1), (7, 1)] [(.int .u64 0), (.int .i64 0), (.int .i64 0), (.int .i64 0), (.int .i64 0), (.slice none 0 0), (.slice none 0 0), (.string ByteArray.empty)] := StT.mk' (z := .agg #[(.int .u64 0), (.int .i64 0), (.int .i64 0), (.int .i64 0), (.int .i64 0), (.slice none 0 0), (.slice none 0 0), (.string ByteArray.empty)]) Tryz.underlying67 (by kernel_rfl) rfl (by kernel_rfl)
instance : ElT Tryz.prog 67 8 104 := ElT.mk' (z := .agg #[(.int .u64 0), (.int .i64 0), (.int .i64 0), (.int .i64 0), (.int .i64 0), (.slice none 0 0), (.slice none 0 0), (.string ByteArray.empty)]) (by kernel_rfl) rfl (by decide)
instance : Sz Tryz.prog 68 8 := Sz.mk' (by kernel_rfl)
instance : Ag Tryz.prog 68 := Ag.mk' Tryz.underlying68 rfl
instance : Fld Tryz.prog 68 0 0 27 := Fld.mk' Tryz.underlying68 rfl
instance : Fld Tryz.prog 68 1 1 3 := Fld.mk' Tryz.underlying68 rfl
instance : Fld Tryz.prog 68 2 2 3 := Fld.mk' Tryz.underlying68 rfl
instance : Fld Tryz.prog 68 3 3 3 := Fld.mk' Tryz.underlying68 rfl
instance : Fld Tryz.prog 68 4 4 3 := Fld.mk' Tryz.underlying68 rfl
instance : Fld Tryz.prog 68 5 5 28 := Fld.mk' Tryz.underlying68 rfl
instance : Fld Tryz.prog 68 6 6 66 := Fld.mk' Tryz.underlying68 rfl
instance : Fld Tryz.prog 68 7 7 9 := Fld.mk' Tryz.underlying68 rfl
instance : Zc Tryz.prog 68 [(.int .u64 0), (.int .i64 0), (.int .i64 0), (.int .i64 0), (.int .i64 0), (.slice none 0 0), (.slice none 0 0), (.string ByteArray.empty)] := Zc.mk' (z := .agg #[(.int .u64 0), (.int .i64 0), (.int .i64 0), (.int .i64 0), (.int .i64 0), (.slice none 0 0), (.slice none 0 0), (.string ByteArray.empty)]) (by kernel_rfl) rfl
instance : StT Tryz.prog 68 [(0, 1), (1, 1), (2, 1), (3, 1), (4, 1), (5, 1), (6, 1), (7, 1)] [(.int .u64 0), (.int .i64 0), (.int .i64 0), (.int .i64 0), (.int .i64 0), (.slice none 0 0), (.slice none 0 0), (.string ByteArray.empty)] := StT.mk' (z := .agg #[(.int .u64 0), (.int .i64 0), (.int .i64 0), (.int .i64 0), (.int .i64 0), (.slice none 0 0), (.slice none 0 0), (.string ByteArray.empty)]) Tryz.underlying68 (by kernel_rfl) rfl (by kernel_rfl)
instance : ElT Tryz.prog 68 8 104 := ElT.mk' (z := .agg #[(.int .u64 0), (.int .i64 0), (.int .i64 0), (.int .i64 0), (.int .i64 0), (.slice none 0 0), (.slice none 0 0), (.string ByteArray.empty)]) (by kernel_rfl) rfl (by decide)
instance : Sz Tryz.prog 69 1 := Sz.mk' (by kernel_rfl)
instance : One Tryz.prog 69 := One.mk' Tryz.underlying69 rfl
instance : Zc Tryz.prog 69 [(.nilFunc)] := Zc.mk' (z := .nilFunc) (by kernel_rfl) rfl
instance : ElT Tryz.prog 69 1 8 := ElT.mk' (z := .nilFunc) (by kernel_rfl) rfl (by decide)
instance : Sz Tryz.prog 70 10 := Sz.mk' (by kernel_rfl)
instance : Ag Tryz.prog 70 := Ag.mk' Tryz.underlying70 rfl
instance : Fld Tryz.prog 70 0 0 68 := Fld.mk' Tryz.underlying70 rfl
instance : Fld Tryz.prog 70 1 8 3 := Fld.mk' Tryz.underlying70 rfl
instance : Fld Tryz.prog 70 2 9 32 := Fld.mk' Tryz.underlying70 rfl
instance : Zc Tryz.prog 70 [(.int .u64 0), (.int .i64 0), (.int .i64 0), (.int .i64 0), (.int .i64 0), (.slice none 0 0), (.slice none 0 0), (.string ByteArray.empty), (.int .i64 0), (.slice none 0 0)] := Zc.mk' (z := .agg #[(.int .u64 0), (.int .i64 0), (.int .i64 0), (.int .i64 0), (.int .i64 0), (.slice none 0 0), (.slice none 0 0), (.string ByteArray.empty), (.int .i64 0), (.slice none 0 0)]) (by kernel_rfl) rfl
instance : StT Tryz.prog 70 [(0, 8), (8, 1), (9, 1)] [(.int .u64 0), (.int .i64 0), (.int .i64 0), (.int .i64 0), (.int .i64 0), (.slice none 0 0), (.slice none 0 0), (.string ByteArray.empty), (.int .i64 0), (.slice none 0 0)] := StT.mk' (z := .agg #[(.int .u64 0), (.int .i64 0), (.int .i64 0), (.int .i64 0), (.int .i64 0), (.slice none 0 0), (.slice none 0 0), (.string ByteArray.empty), (.int .i64 0), (.slice none 0 0)]) Tryz.underlying70 (by kernel_rfl) rfl (by kernel_rfl)
instance : ElT Tryz.prog 70 10 136 := ElT.mk' (z := .agg #[(.int .u64 0), (.int .i64 0), (.int .i64 0), (.int .i64 0), (.int .i64 0), (.slice none 0 0), (.slice none 0 0), (.string ByteArray.empty), (.int .i64 0), (.slice none 0 0)]) (by kernel_rfl) rfl (by decide)
instance : Sz Tryz.prog 71 10 := Sz.mk' (by kernel_rfl)
instance : Ag Tryz.prog 71 := Ag.mk' Tryz.underlying71 rfl
instance : Fld Tryz.prog 71 0 0 68 := Fld.mk' Tryz.underlying71 rfl
instance : Fld Tryz.prog 71 1 8 3 := Fld.mk' Tryz.underlying71 rfl
instance : Fld Tryz.prog 71 2 9 32 := Fld.mk' Tryz.underlying71 rfl
instance : Zc Tryz.prog 71 [(.int .u64 0), (.int .i64 0), (.int .i64 0), (.int .i64 0), (.int .i64 0), (.slice none 0 0), (.slice none 0 0), (.string ByteArray.empty), (.int .i64 0), (.slice none 0 0)] := Zc.mk' (z := .agg #[(.int .u64 0), (.int .i64 0), (.int .i64 0), (.int .i64 0), (.int .i64 0), (.slice none 0 0), (.slice none 0 0), (.string ByteArray.empty), (.int .i64 0), (.slice none 0 0)]) (by kernel_rfl) rfl
instance : StT Tryz.prog 71 [(0, 8), (8, 1), (9, 1)] [(.int .u64 0), (.int .i64 0), (.int .i64 0), (.int .i64 0), (.int .i64 0), (.slice none 0 0), (.slice none 0 0), (.string ByteArray.empty), (.int .i64 0), (.slice none 0 0)] := StT.mk' (z := .agg #[(.int .u64 0), (.int .i64 0), (.int .i64 0), (.int .i64 0), (.int .i64 0), (.slice none 0 0), (.slice none 0 0), (.string ByteArray.empty), (.int .i64 0), (.slice none 0 0)]) Tryz.underlying71 (by kernel_rfl) rfl (by kernel_rfl)
instance : ElT Tryz.prog 71 10 136 := ElT.mk' (z := .agg #[(.int .u64 0), (.int .i64 0), (.int .i64 0), (.int .i64 0), (.int .i64 0), (.slice none 0 0), (.slice none 0 0), (.string ByteArray.empty), (.int .i64 0), (.slice none 0 0)]) (by kernel_rfl) rfl (by decide)
instance : Sz Tryz.prog 73 1 := Sz.mk' (by kernel_rfl)
instance : One Tryz.prog 73 := One.mk' Tryz.underlying73 rfl
instance : Zc Tryz.prog 73 [(.nilFunc)] := Zc.mk' (z := .nilFunc) (by kernel_rfl) rfl
instance : ElT Tryz.prog 73 1 8 := ElT.mk' (z := .nilFunc) (by kernel_rfl) rfl (by decide)
instance : Sz Tryz.prog 74 1 := Sz.mk' (by kernel_rfl)
instance : One Tryz.prog 74 := One.mk' Tryz.underlying74 rfl
instance : Zc Tryz.prog 74 [(.nilFunc)] := Zc.mk' (z := .nilFunc) (by kernel_rfl) rfl
instance : ElT Tryz.prog 74 1 8 := ElT.mk' (z := .nilFunc) (by kernel_rfl) rfl (by decide)
instance : Sz Tryz.prog 75 1 := Sz.mk' (by kernel_rfl)
instance : One Tryz.prog 75 := One.mk' Tryz.underlying75 rfl
instance : Zc Tryz.prog 75 [(.nilFunc)] := Zc.mk' (z := .nilFunc) (by kernel_rfl) rfl
instance : ElT Tryz.prog 75 1 8 := ElT.mk' (z := .nilFunc) (by kernel_rfl) rfl (by decide)
instance : Sz Tryz.prog 76 1 := Sz.mk' (by kernel_rfl)
instance : SlT Tryz.prog 76 9 := ⟨Tryz.underlying76⟩
instance : One Tryz.prog 76 := One.mk' Tryz.underlying76 rfl
instance : Zc Tryz.prog 76 [(.slice none 0 0)] := Zc.mk' (z := .slice none 0 0) (by kernel_rfl) rfl
instance : ElT Tryz.prog 76 1 24 := ElT.mk' (z := .slice none 0 0) (by kernel_rfl) rfl (by decide)
instance : Sz Tryz.prog 77 1 := Sz.mk' (by kernel_rfl)
instance : One Tryz.prog 77 := One.mk' Tryz.underlying77 rfl
instance : Zc Tryz.prog 77 [(.nilFunc)] := Zc.mk' (z := .nilFunc) (by kernel_rfl) rfl
instance : ElT Tryz.prog 77 1 8 := ElT.mk' (z := .nilFunc) (by kernel_rfl) rfl (by decide)
instance : Sz Tryz.prog 78 1 := Sz.mk' (by kernel_rfl)
instance : One Tryz.prog 78 := One.mk' Tryz.underlying78 rfl
instance : Zc Tryz.prog 78 [(.nilFunc)] := Zc.mk' (z := .nilFunc) (by kernel_rfl) rfl
instance : ElT Tryz.prog 78 1 8 := ElT.mk' (z := .nilFunc) (by kernel_rfl) rfl (by decide)
instance : Sz Tryz.prog 79 4 := Sz.mk' (by kernel_rfl)
instance : Ag Tryz.prog 79 := Ag.mk' Tryz.underlying79 rfl
instance : Fld Tryz.prog 79 0 0 49 := Fld.mk' Tryz.underlying79 rfl
instance : Fld Tryz.prog 79 1 2 3 := Fld.mk' Tryz.underlying79 rfl
instance : Fld Tryz.prog 79 2 3 32 := Fld.mk' Tryz.underlying79 rfl
instance : Zc Tryz.prog 79 [(.int .i64 0), (.int .i64 0), (.int .i64 0), (.slice none 0 0)] := Zc.mk' (z := .agg #[(.int .i64 0), (.int .i64 0), (.int .i64 0), (.slice none 0 0)]) (by kernel_rfl) rfl
instance : StT Tryz.prog 79 [(0, 2), (2, 1), (3, 1)] [(.int .i64 0), (.int .i64 0), (.int .i64 0), (.slice none 0 0)] := StT.mk' (z := .agg #[(.int .i64 0), (.int .i64 0), (.int .i64 0), (.slice none 0 0)]) Tryz.underlying79 (by kernel_rfl) rfl (by kernel_rfl)
instance : ElT Tryz.prog 79 4 48 := ElT.mk' (z := .agg #[(.int .i64 0), (.int .i64 0), (.int .i64 0), (.slice none 0 0)]) (by kernel_rfl) rfl (by decide)
instance : Sz Tryz.prog 80 4 := Sz.mk' (by kernel_rfl)
instance : Ag Tryz.prog 80 := Ag.mk' Tryz.underlying80 rfl
instance : Fld Tryz.prog 80 0 0 49 := Fld.mk' Tryz.underlying80 rfl
instance : Fld Tryz.prog 80 1 2 3 := Fld.mk' Tryz.underlying80 rfl
instance : Fld Tryz.prog 80 2 3 32 := Fld.mk' Tryz.underlying80 rfl
instance : Zc Tryz.prog 80 [(.int .i64 0), (.int .i64 0), (.int .i64 0), (.slice none 0 0)] := Zc.mk' (z := .agg #[(.int .i64 0), (.int .i64 0), (.int .i64 0), (.slice none 0 0)]) (by kernel_rfl) rfl
instance : StT Tryz.prog 80 [(0, 2), (2, 1), (3, 1)] [(.int .i64 0), (.int .i64 0), (.int .i64 0), (.slice none 0 0)] := StT.mk' (z := .agg #[(.int .i64 0), (.int .i64 0), (.int .i64 0), (.slice none 0 0)]) Tryz.underlying80 (by kernel_rfl) rfl (by kernel_rfl)
instance : ElT Tryz.prog 80 4 48 := ElT.mk' (z := .agg #[(.int .i64 0), (.int .i64 0), (.int .i64 0), (.slice none 0 0)]) (by kernel_rfl) rfl (by decide)
instance : Sz Tryz.prog 81 1 := Sz.mk' (by kernel_rfl)
instance : SlT Tryz.prog 81 152 := ⟨Tryz.underlying81⟩
instance : One Tryz.prog 81 := One.mk' Tryz.underlying81 rfl
instance : Zc Tryz.prog 81 [(.slice none 0 0)] := Zc.mk' (z := .slice none 0 0) (by kernel_rfl) rfl
instance : ElT Tryz.prog 81 1 24 := ElT.mk' (z := .slice none 0 0) (by kernel_rfl) rfl (by decide)
instance : Sz Tryz.prog 82 7 := Sz.mk' (by kernel_rfl)
instance : Ag Tryz.prog 82 := Ag.mk' Tryz.underlying82 rfl
instance : Fld Tryz.prog 82 0 0 27 := Fld.mk' Tryz.underlying82 rfl
instance : Fld Tryz.prog 82 1 1 3 := Fld.mk' Tryz.underlying82 rfl
instance : Fld Tryz.prog 82 2 2 3 := Fld.mk' Tryz.underlying82 rfl
instance : Fld Tryz.prog 82 3 3 3 := Fld.mk' Tryz.underlying82 rfl
instance : Fld Tryz.prog 82 4 4 81 := Fld.mk' Tryz.underlying82 rfl
instance : Fld Tryz.prog 82 5 5 39 := Fld.mk' Tryz.underlying82 rfl
instance : Fld Tryz.prog 82 6 6 9 := Fld.mk' Tryz.underlying82 rfl
instance : Zc Tryz.prog 82 [(.int .u64 0), (.int .i64 0), (.int .i64 0), (.int .i64 0), (.slice none 0 0), (.slice none 0 0), (.string ByteArray.empty)] := Zc.mk' (z := .agg #[(.int .u64 0), (.int .i64 0), (.int .i64 0), (.int .i64 0), (.slice none 0 0), (.slice none 0 0), (.string ByteArray.empty)]) (by kernel_rfl) rfl
instance : StT Tryz.prog 82 [(0, 1), (1, 1), (2, 1), (3, 1), (4, 1), (5, 1), (6, 1)] [(.int .u64 0), (.int .i64 0), (.int .i64 0), (.int .i64 0), (.slice none 0 0), (.slice none 0 0), (.string ByteArray.empty)] := StT.mk' (z := .agg #[(.int .u64 0), (.int .i64 0), (.int .i64 0), (.int .i64 0), (.slice none 0 0), (.slice none 0 0), (.string ByteArray.empty)]) Tryz.underlying82 (by kernel_rfl) rfl (by kernel_rfl)
instance : ElT Tryz.prog 82 7 96 := ElT.mk' (z := .agg #[(.int .u64 0), (.int .i64 0), (.int .i64 0), (.int .i64 0), (.slice none 0 0), (.slice none 0 0), (.string ByteArray.empty)]) (by kernel_rfl) rfl (by decide)
instance : Sz Tryz.prog 83 7 := Sz.mk' (by kernel_rfl)
instance : Ag Tryz.prog 83 := Ag.mk' Tryz.underlying83 rfl
instance : Fld Tryz.prog 83 0 0 27 := Fld.mk' Tryz.underlying83 rfl
instance : Fld Tryz.prog 83 1 1 3 := Fld.mk' Tryz.underlying83 rfl
instance : Fld Tryz.prog 83 2 2 3 := Fld.mk' Tryz.underlying83 rfl
instance : Fld Tryz.prog 83 3 3 3 := Fld.mk' Tryz.underlying83 rfl
instance : Fld Tryz.prog 83 4 4 81 := Fld.mk' Tryz.underlying83 rfl
instance : Fld Tryz.prog 83 5 5 39 := Fld.mk' Tryz.underlying83 rfl
instance : Fld Tryz.prog 83 6 6 9 := Fld.mk' Tryz.underlying83 rfl
instance : Zc Tryz.prog 83 [(.int .u64 0), (.int .i64 0), (.int .i64 0), (.int .i64 0), (.slice none 0 0), (.slice none 0 0), (.string ByteArray.empty)] := Zc.mk' (z := .agg #[(.int .u64 0), (.int .i64 0), (.int .i64 0), (.int .i64 0), (.slice none 0 0), (.slice none 0 0), (.string ByteArray.empty)]) (by kernel_rfl) rfl
instance : StT Tryz.prog 83 [(0, 1), (1, 1), (2, 1), (3, 1), (4, 1), (5, 1), (6, 1)] [(.int .u64 0), (.int .i64 0), (.int .i64 0), (.int .i64 0), (.slice none 0 0), (.slice none 0 0), (.string ByteArray.empty)] := StT.mk' (z := .agg #[(.int .u64 0), (.int .i64 0), (.int .i64 0), (.int .i64 0), (.slice none 0 0), (.slice none 0 0), (.string ByteArray.empty)]) Tryz.underlying83 (by kernel_rfl) rfl (by kernel_rfl)
instance : ElT Tryz.prog 83 7 96 := ElT.mk' (z := .agg #[(.int .u64 0), (.int .i64 0), (.int .i64 0), (.int .i64 0), (.slice none 0 0), (.slice none 0 0), (.string ByteArray.empty)]) (by kernel_rfl) rfl (by decide)
instance : Sz Tryz.prog 85 1 := Sz.mk' (by kernel_rfl)
instance : One Tryz.prog 85 := One.mk' Tryz.underlying85 rfl
instance : Zc Tryz.prog 85 [(.nilFunc)] := Zc.mk' (z := .nilFunc) (by kernel_rfl) rfl
instance : ElT Tryz.prog 85 1 8 := ElT.mk' (z := .nilFunc) (by kernel_rfl) rfl (by decide)
instance : Sz Tryz.prog 87 1 := Sz.mk' (by kernel_rfl)
instance : One Tryz.prog 87 := One.mk' Tryz.underlying87 rfl
instance : Zc Tryz.prog 87 [(.nilFunc)] := Zc.mk' (z := .nilFunc) (by kernel_rfl) rfl
instance : ElT Tryz.prog 87 1 8 := ElT.mk' (z := .nilFunc) (by kernel_rfl) rfl (by decide)
instance : Sz Tryz.prog 88 1 := Sz.mk' (by kernel_rfl)
instance : One Tryz.prog 88 := One.mk' Tryz.underlying88 rfl
instance : Zc Tryz.prog 88 [(.nilFunc)] := Zc.mk' (z := .nilFunc) (by kernel_rfl) rfl
instance : ElT Tryz.prog 88 1 8 := ElT.mk' (z := .nilFunc) (by kernel_rfl) rfl (by decide)
instance : Sz Tryz.prog 89 1 := Sz.mk' (by kernel_rfl)
instance : One Tryz.prog 89 := One.mk' Tryz.underlying89 rfl
instance : Zc Tryz.prog 89 [(.nilFunc)] := Zc.mk' (z := .nilFunc) (by kernel_rfl) rfl
instance : ElT Tryz.prog 89 1 8 := ElT.mk' (z := .nilFunc) (by kernel_rfl) rfl (by decide)
instance : Sz Tryz.prog 90 1 := Sz.mk' (by kernel_rfl)
instance : One Tryz.prog 90 := One.mk' Tryz.underlying90 rfl
instance : Zc Tryz.prog 90 [(.nilFunc)] := Zc.mk' (z := .nilFunc) (by kernel_rfl) rfl
instance : ElT Tryz.prog 90 1 8 := ElT.mk' (z := .nilFunc) (by kernel_rfl) rfl (by decide)
instance : Sz Tryz.prog 91 1 := Sz.mk' (by kernel_rfl)
instance : One Tryz.prog 91 := One.mk' Tryz.underlying91 rfl
instance : Zc Tryz.prog 91 [(.nilFunc)] := Zc.mk' (z := .nilFunc) (by kernel_rfl) rfl
instance : ElT Tryz.prog 91 1 8 := ElT.mk' (z := .nilFunc) (by kernel_rfl) rfl (by decide)
instance : Sz Tryz.prog 92 1 := Sz.mk' (by kernel_rfl)
instance : SlT Tryz.prog 92 41 := ⟨Tryz.underlying92⟩
instance : One Tryz.prog 92 := One.mk' Tryz.underlying92 rfl
instance : Zc Tryz.prog 92 [(.slice none 0 0)] := Zc.mk' (z := .slice none 0 0) (by kernel_rfl) rfl
instance : ElT Tryz.prog 92 1 24 := ElT.mk' (z := .slice none 0 0) (by kernel_rfl) rfl (by decide)
instance : Sz Tryz.prog 93 1 := Sz.mk' (by kernel_rfl)
instance : SlT Tryz.prog 93 4 := ⟨Tryz.underlying93⟩
instance : One Tryz.prog 93 := One.mk' Tryz.underlying93 rfl
instance : Zc Tryz.prog 93 [(.slice none 0 0)] := Zc.mk' (z := .slice none 0 0) (by kernel_rfl) rfl
instance : ElT Tryz.prog 93 1 24 := ElT.mk' (z := .slice none 0 0) (by kernel_rfl) rfl (by decide)
instance : Sz Tryz.prog 94 2 := Sz.mk' (by kernel_rfl)
instance : ArrT Tryz.prog 94 2 3 := ⟨Tryz.underlying94⟩
instance : Ag Tryz.prog 94 := Ag.mk' Tryz.underlying94 rfl
instance : Zc Tryz.prog 94 [(.int .i64 0), (.int .i64 0)] := Zc.mk' (z := .agg #[(.int .i64 0), (.int .i64 0)]) (by kernel_rfl) rfl
instance : ElT Tryz.prog 94 2 16 := ElT.mk' (z := .agg #[(.int .i64 0), (.int .i64 0)]) (by kernel_rfl) rfl (by decide)
instance : Sz Tryz.prog 95 1 := Sz.mk' (by kernel_rfl)
instance : One Tryz.prog 95 := One.mk' Tryz.underlying95 rfl
instance : Zc Tryz.prog 95 [(.nilFunc)] := Zc.mk' (z := .nilFunc) (by kernel_rfl) rfl
instance : ElT Tryz.prog 95 1 8 := ElT.mk' (z := .nilFunc) (by kernel_rfl) rfl (by decide)
instance : Sz Tryz.prog 96 1 := Sz.mk' (by kernel_rfl)
instance : One Tryz.prog 96 := One.mk' Tryz.underlying96 rfl
instance : Zc Tryz.prog 96 [(.nilFunc)] := Zc.mk' (z := .nilFunc) (by kernel_rfl) rfl
instance : ElT Tryz.prog 96 1 8 := ElT.mk' (z := .nilFunc) (by kernel_rfl) rfl (by decide)
instance : Sz Tryz.prog 97 1 := Sz.mk' (by kernel_rfl)
instance : One Tryz.prog 97 := One.mk' Tryz.underlying97 rfl
instance : Zc Tryz.prog 97 [(.nilFunc)] := Zc.mk' (z := .nilFunc) (by kernel_rfl) rfl
instance : ElT Tryz.prog 97 1 8 := ElT.mk' (z := .nilFunc) (by kernel_rfl) rfl (by decide)
instance : Sz Tryz.prog 98 1 := Sz.mk' (by kernel_rfl)
instance : One Tryz.prog 98 := One.mk' Tryz.underlying98 rfl
instance : Zc Tryz.prog 98 [(.nilFunc)] := Zc.mk' (z := .nilFunc) (by kernel_rfl) rfl
instance : ElT Tryz.prog 98 1 8 := ElT.mk' (z := .nilFunc) (by kernel_rfl) rfl (by decide)
instance : Sz Tryz.prog 99 1 := Sz.mk' (by kernel_rfl)
instance : One Tryz.prog 99 := One.mk' Tryz.underlying99 rfl
instance : Zc Tryz.prog 99 [(.nilFunc)] := Zc.mk' (z := .nilFunc) (by kernel_rfl) rfl
instance : ElT Tryz.prog 99 1 8 := ElT.mk' (z := .nilFunc) (by kernel_rfl) rfl (by decide)
instance : Sz Tryz.prog 100 1 := Sz.mk' (by kernel_rfl)
instance : One Tryz.prog 100 := One.mk' Tryz.underlying100 rfl
instance : Zc Tryz.prog 100 [(.nilFunc)] := Zc.mk' (z := .nilFunc) (by kernel_rfl) rfl
instance : ElT Tryz.prog 100 1 8 := ElT.mk' (z := .nilFunc) (by kernel_rfl) rfl (by decide)
instance : Sz Tryz.prog 101 1 := Sz.mk' (by kernel_rfl)
instance : One Tryz.prog 101 := One.mk' Tryz.underlying101 rfl
instance : Zc Tryz.prog 101 [(.nilFunc)] := Zc.mk' (z := .nilFunc) (by kernel_rfl) rfl
instance : ElT Tryz.prog 101 1 8 := ElT.mk' (z := .nilFunc) (by kernel_rfl) rfl (by decide)
instance : Sz Tryz.prog 102 2 := Sz.mk' (by kernel_rfl)
instance : Ag Tryz.prog 102 := Ag.mk' Tryz.underlying102 rfl
instance : EqS Tryz.prog 102 [.i64, .i64] := EqS.mk' Tryz.underlying102 (by kernel_rfl) (by kernel_rfl) (by kernel_rfl)
instance : Fld Tryz.prog 102 0 0 3 := Fld.mk' Tryz.underlying102 rfl
instance : Fld Tryz.prog 102 1 1 3 := Fld.mk' Tryz.underlying102 rfl
instance : Zc Tryz.prog 102 [(.int .i64 0), (.int .i64 0)] := Zc.mk' (z := .agg #[(.int .i64 0), (.int .i64 0)]) (by kernel_rfl) rfl
instance : StT Tryz.prog 102 [(0, 1), (1, 1)] [(.int .i64 0), (.int .i64 0)] := StT.mk' (z := .agg #[(.int .i64 0), (.int .i64 0)]) Tryz.underlying102 (by kernel_rfl) rfl (by kernel_rfl)
instance : ElT Tryz.prog 102 2 16 := ElT.mk' (z := .agg #[(.int .i64 0), (.int .i64 0)]) (by kernel_rfl) rfl (by decide)
instance : Sz Tryz.prog 103 2 := Sz.mk' (by kernel_rfl)
instance : Ag Tryz.prog 103 := Ag.mk' Tryz.underlying103 rfl
instance : EqS Tryz.prog 103 [.i64, .i64] := EqS.mk' Tryz.underlying103 (by kernel_rfl) (by kernel_rfl) (by kernel_rfl)
instance : Fld Tryz.prog 103 0 0 3 := Fld.mk' Tryz.underlying103 rfl
instance : Fld Tryz.prog 103 1 1 3 := Fld.mk' Tryz.underlying103 rfl
instance : Zc Tryz.prog 103 [(.int .i64 0), (.int .i64 0)] := Zc.mk' (z := .agg #[(.int .i64 0), (.int .i64 0)]) (by kernel_rfl) rfl
instance : StT Tryz.prog 103 [(0, 1), (1, 1)] [(.int .i64 0), (.int .i64 0)] := StT.mk' (z := .agg #[(.int .i64 0), (.int .i64 0)]) Tryz.underlying103 (by kernel_rfl) rfl (by kernel_rfl)
instance : ElT Tryz.prog 103 2 16 := ElT.mk' (z := .agg #[(.int .i64 0), (.int .i64 0)]) (by kernel_rfl) rfl (by decide)
instance : Sz Tryz.prog 104 4 := Sz.mk' (by kernel_rfl)
instance : Ag Tryz.prog 104 := Ag.mk' Tryz.underlying104 rfl
instance : Fld Tryz.prog 104 0 0 103 := Fld.mk' Tryz.underlying104 rfl
instance : Fld Tryz.prog 104 1 2 49 := Fld.mk' Tryz.underlying104 rfl
instance : Zc Tryz.prog 104 [(.int .i64 0), (.int .i64 0), (.int .i64 0), (.int .i64 0)] := Zc.mk' (z := .agg #[(.int .i64 0), (.int .i64 0), (.int .i64 0), (.int .i64 0)]) (by kernel_rfl) rfl
instance : StT Tryz.prog 104 [(0, 2), (2, 2)] [(.int .i64 0), (.int .i64 0), (.int .i64 0), (.int .i64 0)] := StT.mk' (z := .agg #[(.int .i64 0), (.int .i64 0), (.int .i64 0), (.int .i64 0)]) Tryz.underlying104 (by kernel_rfl) rfl (by kernel_rfl)
instance : ElT Tryz.prog 104 4 32 := ElT.mk' (z := .agg #[(.int .i64 0), (.int .i64 0), (.int .i64 0), (.int .i64 0)]) (by kernel_rfl) rfl (by decide)
instance : Sz Tryz.prog 105 4 := Sz.mk' (by kernel_rfl)
instance : Ag Tryz.prog 105 := Ag.mk' Tryz.underlying105 rfl
instance : Fld Tryz.prog 105 0 0 103 := Fld.mk' Tryz.underlying105 rfl
instance : Fld Tryz.prog 105 1 2 49 := Fld.mk' Tryz.underlying105 rfl
instance : Zc Tryz.prog 105 [(.int .i64 0), (.int .i64 0), (.int .i64 0), (.int .i64 0)] := Zc.mk' (z := .agg #[(.int .i64 0), (.int .i64 0), (.int .i64 0), (.int .i64 0)]) (by kernel_rfl) rfl
instance : StT Tryz.prog 105 [(0, 2), (2, 2)] [(.int .i64 0), (.int .i64 0), (.int .i64 0), (.int .i64 0)] := StT.mk' (z := .agg #[(.int .i64 0), (.int .i64 0), (.int .i64 0), (.int .i64 0)]) Tryz.underlying105 (by kernel_rfl) rfl (by kernel_rfl)
instance : ElT Tryz.prog 105 4 32 := ElT.mk' (z := .agg #[(.int .i64 0), (.int .i64 0), (.int .i64 0), (.int .i64 0)]) (by kernel_rfl) rfl (by decide)
instance : Sz Tryz.prog 106 1 := Sz.mk' (by kernel_rfl)
instance : One Tryz.prog 106 := One.mk' Tryz.underlying106 rfl
instance : Zc Tryz.prog 106 [(.nilFunc)] := Zc.mk' (z := .nilFunc) (by kernel_rfl) rfl
instance : ElT Tryz.prog 106 1 8 := ElT.mk' (z := .nilFunc) (by kernel_rfl) rfl (by decide)
instance : Sz Tryz.prog 107 1 := Sz.mk' (by kernel_rfl)
instance : One Tryz.prog 107 := One.mk' Tryz.underlying107 rfl
instance : Zc Tryz.prog 107 [(.map none)] := Zc.mk' (z := .map none) (by kernel_rfl) rfl
instance : ElT Tryz.prog 107 1 8 := ElT.mk' (z := .map none) (by kernel_rfl) rfl (by decide)
instance : Sz Tryz.prog 108 1 := Sz.mk' (by kernel_rfl)
instance : SlT Tryz.prog 108 198 := ⟨Tryz.underlying108⟩
instance : One Tryz.prog 108 := One.mk' Tryz.underlying108 rfl
instance : Zc Tryz.prog 108 [(.slice none 0 0)] := Zc.mk' (z := .slice none 0 0) (by kernel_rfl) rfl
instance : ElT Tryz.prog 108 1 24 := ElT.mk' (z := .slice none 0 0) (by kernel_rfl) rfl (by decide)
instance : Sz Tryz.prog 109 5 := Sz.mk' (by kernel_rfl)
instance : Ag Tryz.prog 109 := Ag.mk' Tryz.underlying109 rfl
instance : Fld Tryz.prog 109 0 0 107 := Fld.mk' Tryz.underlying109 rfl
instance : Fld Tryz.prog 109 1 1 3 := Fld.mk' Tryz.underlying109 rfl
instance : Fld Tryz.prog 109 2 2 3 := Fld.mk' Tryz.underlying109 rfl
instance : Fld Tryz.prog 109 3 3 32 := Fld.mk' Tryz.underlying109 rfl
instance : Fld Tryz.prog 109 4 4 108 := Fld.mk' Tryz.underlying109 rfl
instance : Zc Tryz.prog 109 [(.map none), (.int .i64 0), (.int .i64 0), (.slice none 0 0), (.slice none 0 0)] := Zc.mk' (z := .agg #[(.map none), (.int .i64 0), (.int .i64 0), (.slice none 0 0), (.slice none 0 0)]) (by kernel_rfl) rfl
instance : StT Tryz.prog 109 [(0, 1), (1, 1), (2, 1), (3, 1), (4, 1)] [(.map none), (.int .i64 0), (.int .i64 0), (.slice none 0 0), (.slice none 0 0)] := StT.mk' (z := .agg #[(.map none), (.int .i64 0), (.int .i64 0), (.slice none 0 0), (.slice none 0 0)]) Tryz.underlying109 (by kernel_rfl) rfl (by kernel_rfl)
instance : ElT Tryz.prog 109 5 72 := ElT.mk' (z := .agg #[(.map none), (.int .i64 0), (.int .i64 0), (.slice none 0 0), (.slice none 0 0)]) (by kernel_rfl) rfl (by decide)
instance : Sz Tryz.prog 110 5 := Sz.mk' (by kernel_rfl)
instance : Ag Tryz.prog 110 := Ag.mk' Tryz.underlying110 rfl
instance : Fld Tryz.prog 110 0 0 107 := Fld.mk' Tryz.underlying110 rfl
instance : Fld Tryz.prog 110 1 1 3 := Fld.mk' Tryz.underlying110 rfl
instance : Fld Tryz.prog 110 2 2 3 := Fld.mk' Tryz.underlying110 rfl
instance : Fld Tryz.prog 110 3 3 32 := Fld.mk' Tryz.underlying110 rfl
instance : Fld Tryz.prog 110 4 4 108 := Fld.mk' Tryz.underlying110 rfl
instance : Zc Tryz.prog 110 [(.map none), (.int .i64 0), (.int .i64 0), (.slice none 0 0), (.slice none 0 0)] := Zc.mk' (z := .agg #[(.map none), (.int .i64 0), (.int .i64 0), (.slice none 0 0), (.slice none 0 0)]) (by kernel_rfl) rfl
instance : StT Tryz.prog 110 [(0, 1), (1, 1), (2, 1), (3, 1), (4, 1)] [(.map none), (.int .i64 0), (.int .i64 0), (.slice none 0 0), (.slice none 0 0)] := StT.mk' (z := .agg #[(.map none), (.int .i64 0), (.int .i64 0), (.slice none 0 0), (.slice none 0 0)]) Tryz.underlying110 (by kernel_rfl) rfl (by kernel_rfl)
instance : ElT Tryz.prog 110 5 72 := ElT.mk' (z := .agg #[(.map none), (.int .i64 0), (.int .i64 0), (.slice none 0 0), (.slice none 0 0)]) (by kernel_rfl) rfl (by decide)
instance : Sz Tryz.prog 111 1 := Sz.mk' (by kernel_rfl)
instance : One Tryz.prog 111 := One.mk' Tryz.underlying111 rfl
instance : Zc Tryz.prog 111 [(.nilFunc)] := Zc.mk' (z := .nilFunc) (by kernel_rfl) rfl
instance : ElT Tryz.prog 111 1 8 := ElT.mk' (z := .nilFunc) (by kernel_rfl) rfl (by decide)
instance : Sz Tryz.prog 112 1 := Sz.mk' (by kernel_rfl)
instance : One Tryz.prog 112 := One.mk' Tryz.underlying112 rfl
instance : Zc Tryz.prog 112 [(.nilFunc)] := Zc.mk' (z := .nilFunc) (by kernel_rfl) rfl
instance : ElT Tryz.prog 112 1 8 := ElT.mk' (z := .nilFunc) (by kernel_rfl) rfl (by decide)
instance : Sz Tryz.prog 114 1 := Sz.mk' (by kernel_rfl)
instance : One Tryz.prog 114 := One.mk' Tryz.underlying114 rfl
instance : Zc Tryz.prog 114 [(.nilFunc)] := Zc.mk' (z := .nilFunc) (by kernel_rfl) rfl
instance : ElT Tryz.prog 114 1 8 := ElT.mk' (z := .nilFunc) (by kernel_rfl) rfl (by decide)
instance : Sz Tryz.prog 116 1 := Sz.mk' (by kernel_rfl)
instance : One Tryz.prog 116 := One.mk' Tryz.underlying116 rfl
instance : Zc Tryz.prog 116 [(.nilFunc)] := Zc.mk' (z := .nilFunc) (by kernel_rfl) rfl
instance : ElT Tryz.prog 116 1 8 := ElT.mk' (z := .nilFunc) (by kernel_rfl) rfl (by decide)
instance : Sz Tryz.prog 117 1 := Sz.mk' (by kernel_rfl)
instance : One Tryz.prog 117 := One.mk' Tryz.underlying117 rfl
instance : Zc Tryz.prog 117 [(.nilFunc)] := Zc.mk' (z := .nilFunc) (by kernel_rfl) rfl
instance : ElT Tryz.prog 117 1 8 := ElT.mk' (z := .nilFunc) (by kernel_rfl) rfl (by decide)
instance : Sz Tryz.prog 118 1 := Sz.mk' (by kernel_rfl)
instance : One Tryz.prog 118 := One.mk' Tryz.underlying118 rfl
instance : Zc Tryz.prog 118 [(.nilFunc)] := Zc.mk' (z := .nilFunc) (by kernel_rfl) rfl
instance : ElT Tryz.prog 118 1 8 := ElT.mk' (z := .nilFunc) (by kernel_rfl) rfl (by decide)
instance : Sz Tryz.prog 119 3 := Sz.mk' (by kernel_rfl)
instance : Ag Tryz.prog 119 := Ag.mk' Tryz.underlying119 rfl
instance : Fld Tryz.prog 119 0 0 9 := Fld.mk' Tryz.underlying119 rfl
instance : Fld Tryz.prog 119 1 1 3 := Fld.mk' Tryz.underlying119 rfl
instance : Fld Tryz.prog 119 2 2 3 := Fld.mk' Tryz.underlying119 rfl
instance : Zc Tryz.prog 119 [(.string ByteArray.empty), (.int .i64 0), (.int .i64 0)] := Zc.mk' (z := .agg #[(.string ByteArray.empty), (.int .i64 0), (.int .i64 0)]) (by kernel_rfl) rfl
instance : StT Tryz.prog 119 [(0, 1), (1, 1), (2, 1)] [(.string ByteArray.empty), (.int .i64 0), (.int .i64 0)] := StT.mk' (z := .agg #[(.string ByteArray.empty), (.int .i64 0), (.int .i64 0)]) Tryz.underlying119 (by kernel_rfl) rfl (by kernel_rfl)
instance : ElT Tryz.prog 119 3 32 := ElT.mk' (z := .agg #[(.string ByteArray.empty), (.int .i64 0), (.int .i64 0)]) (by kernel_rfl) rfl (by decide)
instance : Sz Tryz.prog 120 3 := Sz.mk' (by kernel_rfl)
instance : Ag Tryz.prog 120 := Ag.mk' Tryz.underlying120 rfl
instance : Fld Tryz.prog 120 0 0 9 := Fld.mk' Tryz.underlying120 rfl
instance : Fld Tryz.prog 120 1 1 3 := Fld.mk' Tryz.underlying120 rfl
instance : Fld Tryz.prog 120 2 2 3 := Fld.mk' Tryz.underlying120 rfl
instance : Zc Tryz.prog 120 [(.string ByteArray.empty), (.int .i64 0), (.int .i64 0)] := Zc.mk' (z := .agg #[(.string ByteArray.empty), (.int .i64 0), (.int .i64 0)]) (by kernel_rfl) rfl
instance : StT Tryz.prog 120 [(0, 1), (1, 1), (2, 1)] [(.string ByteArray.empty), (.int .i64 0), (.int .i64 0)] := StT.mk' (z := .agg #[(.string ByteArray.empty), (.int .i64 0), (.int .i64 0)]) Tryz.underlying120 (by kernel_rfl) rfl (by kernel_rfl)
instance : ElT Tryz.prog 120 3 32 := ElT.mk' (z := .agg #[(.string ByteArray.empty), (.int .i64 0), (.int .i64 0)]) (by kernel_rfl) rfl (by decide)
instance : Sz Tryz.prog 121 1 := Sz.mk' (by kernel_rfl)
instance : One Tryz.prog 121 := One.mk' Tryz.underlying121 rfl
instance : Zc Tryz.prog 121 [(.nilFunc)] := Zc.mk' (z := .nilFunc) (by kernel_rfl) rfl
instance : ElT Tryz.prog 121 1 8 := ElT.mk' (z := .nilFunc) (by kernel_rfl) rfl (by decide)
instance : Sz Tryz.prog 122 1 := Sz.mk' (by kernel_rfl)
instance : One Tryz.prog 122 := One.mk' Tryz.underlying122 rfl
instance : Zc Tryz.prog 122 [(.nilFunc)] := Zc.mk' (z := .nilFunc) (by kernel_rfl) rfl
instance : ElT Tryz.prog 122 1 8 := ElT.mk' (z := .nilFunc) (by kernel_rfl) rfl (by decide)
instance : Sz Tryz.prog 123 1 := Sz.mk' (by kernel_rfl)
instance : One Tryz.prog 123 := One.mk' Tryz.underlying123 rfl
instance : Zc Tryz.prog 123 [(.nilFunc)] := Zc.mk' (z := .nilFunc) (by kernel_rfl) rfl
instance : ElT Tryz.prog 123 1 8 := ElT.mk' (z := .nilFunc) (by kernel_rfl) rfl (by decide)
instance : Sz Tryz.prog 124 1 := Sz.mk' (by kernel_rfl)
instance : One Tryz.prog 124 := One.mk' Tryz.underlying124 rfl
instance : Zc Tryz.prog 124 [(.nilFunc)] := Zc.mk' (z := .nilFunc) (by kernel_rfl) rfl
instance : ElT Tryz.prog 124 1 8 := ElT.mk' (z := .nilFunc) (by kernel_rfl) rfl (by decide)
instance : Sz Tryz.prog 125 1 := Sz.mk' (by kernel_rfl)
instance : One Tryz.prog 125 := One.mk' Tryz.underlying125 rfl
instance : Zc Tryz.prog 125 [(.nilFunc)] := Zc.mk' (z := .nilFunc) (by kernel_rfl) rfl
instance : ElT Tryz.prog 125 1 8 := ElT.mk' (z := .nilFunc) (by kernel_rfl) rfl (by decide)
instance : Sz Tryz.prog 126 1 := Sz.mk' (by kernel_rfl)
instance : One Tryz.prog 126 := One.mk' Tryz.underlying126 rfl
instance : Zc Tryz.prog 126 [(.nilFunc)] := Zc.mk' (z := .nilFunc) (by kernel_rfl) rfl
instance : ElT Tryz.prog 126 1 8 := ElT.mk' (z := .nilFunc) (by kernel_rfl) rfl (by decide)
instance : Sz Tryz.prog 127 3 := Sz.mk' (by kernel_rfl)
instance : Ag Tryz.prog 127 := Ag.mk' Tryz.underlying127 rfl
instance : Fld Tryz.prog 127 0 0 3 := Fld.mk' Tryz.underlying127 rfl
instance : Fld Tryz.prog 127 1 1 3 := Fld.mk' Tryz.underlying127 rfl
instance : Fld Tryz.prog 127 2 2 9 := Fld.mk' Tryz.underlying127 rfl
instance : Zc Tryz.prog 127 [(.int .i64 0), (.int .i64 0), (.string ByteArray.empty)] := Zc.mk' (z := .agg #[(.int .i64 0), (.int .i64 0), (.string ByteArray.empty)]) (by kernel_rfl) rfl
instance : StT Tryz.prog 127 [(0, 1), (1, 1), (2, 1)] [(.int .i64 0), (.int .i64 0), (.string ByteArray.empty)] := StT.mk' (z := .agg #[(.int .i64 0), (.int .i64 0), (.string ByteArray.empty)]) Tryz.underlying127 (by kernel_rfl) rfl (by kernel_rfl)
instance : ElT Tryz.prog 127 3 32 := ElT.mk' (z := .agg #[(.int .i64 0), (.int .i64 0), (.string ByteArray.empty)]) (by kernel_rfl) rfl (by decide)
instance : Sz Tryz.prog 128 3 := Sz.mk' (by kernel_rfl)
instance : Ag Tryz.prog 128 := Ag.mk' Tryz.underlying128 rfl
instance : Fld Tryz.prog 128 0 0 3 := Fld.mk' Tryz.underlying128 rfl
instance : Fld Tryz.prog 128 1 1 3 := Fld.mk' Tryz.underlying128 rfl
instance : Fld Tryz.prog 128 2 2 9 := Fld.mk' Tryz.underlying128 rfl
instance : Zc Tryz.prog 128 [(.int .i64 0), (.int .i64 0), (.string ByteArray.empty)] := Zc.mk' (z := .agg #[(.int .i64 0), (.int .i64 0), (.string ByteArray.empty)]) (by kernel_rfl) rfl
instance : StT Tryz.prog 128 [(0, 1), (1, 1), (2, 1)] [(.int .i64 0), (.int .i64 0), (.string ByteArray.empty)] := StT.mk' (z := .agg #[(.int .i64 0), (.int .i64 0), (.string ByteArray.empty)]) Tryz.underlying128 (by kernel_rfl) rfl (by kernel_rfl)
instance : ElT Tryz.prog 128 3 32 := ElT.mk' (z := .agg #[(.int .i64 0), (.int .i64 0), (.string ByteArray.empty)]) (by kernel_rfl) rfl (by decide)
instance : Sz Tryz.prog 129 1 := Sz.mk' (by kernel_rfl)
instance : One Tryz.prog 129 := One.mk' Tryz.underlying129 rfl
instance : Zc Tryz.prog 129 [(.nilFunc)] := Zc.mk' (z := .nilFunc) (by kernel_rfl) rfl
instance : ElT Tryz.prog 129 1 8 := ElT.mk' (z := .nilFunc) (by kernel_rfl) rfl (by decide)
instance : Sz Tryz.prog 130 1 := Sz.mk' (by kernel_rfl)
instance : One Tryz.prog 130 := One.mk' Tryz.underlying130 rfl
instance : Zc Tryz.prog 130 [(.nilFunc)] := Zc.mk' (z := .nilFunc) (by kernel_rfl) rfl
instance : ElT Tryz.prog 130 1 8 := ElT.mk' (z := .nilFunc) (by kernel_rfl) rfl (by decide)
instance : Sz Tryz.prog 131 1 := Sz.mk' (by kernel_rfl)
instance : One Tryz.prog 131 := One.mk' Tryz.underlying131 rfl
instance : Zc Tryz.prog 131 [(.nilFunc)] := Zc.mk' (z := .nilFunc) (by kernel_rfl) rfl
instance : ElT Tryz.prog 131 1 8 := ElT.mk' (z := .nilFunc) (by kernel_rfl) rfl (by decide)
instance : Sz Tryz.prog 132 1 := Sz.mk' (by kernel_rfl)
instance : One Tryz.prog 132 := One.mk' Tryz.underlying132 rfl
instance : Zc Tryz.prog 132 [(.nilFunc)] := Zc.mk' (z := .nilFunc) (by kernel_rfl) rfl
instance : ElT Tryz.prog 132 1 8 := ElT.mk' (z := .nilFunc) (by kernel_rfl) rfl (by decide)
instance : Sz Tryz.prog 133 1 := Sz.mk' (by kernel_rfl)
instance : One Tryz.prog 133 := One.mk' Tryz.underlying133 rfl
instance : Zc Tryz.prog 133 [(.nilFunc)] := Zc.mk' (z := .nilFunc) (by kernel_rfl) rfl
instance : ElT Tryz.prog 133 1 8 := ElT.mk' (z := .nilFunc) (by kernel_rfl) rfl (by decide)
instance : Sz Tryz.prog 134 3 := Sz.mk' (by kernel_rfl)
instance : Ag Tryz.prog 134 := Ag.mk' Tryz.underlying134 rfl
instance : EqS Tryz.prog 134 [.i64, .i64, .i64] := EqS.mk' Tryz.underlying134 (by kernel_rfl) (by kernel_rfl) (by kernel_rfl)
instance : Fld Tryz.prog 134 0 0 3 := Fld.mk' Tryz.underlying134 rfl
instance : Fld Tryz.prog 134 1 1 3 := Fld.mk' Tryz.underlying134 rfl
instance : Fld Tryz.prog 134 2 2 3 := Fld.mk' Tryz.underlying134 rfl
instance : Zc Tryz.prog 134 [(.int .i64 0), (.int .i64 0), (.int .i64 0)] := Zc.mk' (z := .agg #[(.int .i64 0), (.int .i64 0), (.int .i64 0)]) (by kernel_rfl) rfl
instance : StT Tryz.prog 134 [(0, 1), (1, 1), (2, 1)] [(.int .i64 0), (.int .i64 0), (.int .i64 0)] := StT.mk' (z := .agg #[(.int .i64 0), (.int .i64 0), (.int .i64 0)]) Tryz.underlying134 (by kernel_rfl) rfl (by kernel_rfl)
instance : ElT Tryz.prog 134 3 24 := ElT.mk' (z := .agg #[(.int .i64 0), (.int .i64 0), (.int .i64 0)]) (by kernel_rfl) rfl (by decide)
instance : Sz Tryz.prog 135 3 := Sz.mk' (by kernel_rfl)
instance : Ag Tryz.prog 135 := Ag.mk' Tryz.underlying135 rfl
instance : EqS Tryz.prog 135 [.i64, .i64, .i64] := EqS.mk' Tryz.underlying135 (by kernel_rfl) (by kernel_rfl) (by kernel_rfl)
instance : Fld Tryz.prog 135 0 0 3 := Fld.mk' Tryz.underlying135 rfl
instance : Fld Tryz.prog 135 1 1 3 := Fld.mk' Tryz.underlying135 rfl
instance : Fld Tryz.prog 135 2 2 3 := Fld.mk' Tryz.underlying135 rfl
instance : Zc Tryz.prog 135 [(.int .i64 0), (.int .i64 0), (.int .i64 0)] := Zc.mk' (z := .agg #[(.int .i64 0), (.int .i64 0), (.int .i64 0)]) (by kernel_rfl) rfl
instance : StT Tryz.prog 135 [(0, 1), (1, 1), (2, 1)] [(.int .i64 0), (.int .i64 0), (.int .i64 0)] := StT.mk' (z := .agg #[(.int .i64 0), (.int .i64 0), (.int .i64 0)]) Tryz.underlying135 (by kernel_rfl) rfl (by kernel_rfl)
instance : ElT Tryz.prog 135 3 24 := ElT.mk' (z := .agg #[(.int .i64 0), (.int .i64 0), (.int .i64 0)]) (by kernel_rfl) rfl (by decide)
instance : Sz Tryz.prog 136 1 := Sz.mk' (by kernel_rfl)
instance : One Tryz.prog 136 := One.mk' Tryz.underlying136 rfl
instance : Zc Tryz.prog 136 [(.nilFunc)] := Zc.mk' (z := .nilFunc) (by kernel_rfl) rfl
instance : ElT Tryz.prog 136 1 8 := ElT.mk' (z := .nilFunc) (by kernel_rfl) rfl (by decide)
instance : Sz Tryz.prog 137 1 := Sz.mk' (by kernel_rfl)
instance : One Tryz.prog 137 := One.mk' Tryz.underlying137 rfl
instance : Zc Tryz.prog 137 [(.nilFunc)] := Zc.mk' (z := .nilFunc) (by kernel_rfl) rfl
instance : ElT Tryz.prog 137 1 8 := ElT.mk' (z := .nilFunc) (by kernel_rfl) rfl (by decide)
instance : Sz Tryz.prog 138 3 := Sz.mk' (by kernel_rfl)
instance : Ag Tryz.prog 138 := Ag.mk' Tryz.underlying138 rfl
instance : EqS Tryz.prog 138 [.i64, .i64, .i64] := EqS.mk' Tryz.underlying138 (by kernel_rfl) (by kernel_rfl) (by kernel_rfl)
instance : Fld Tryz.prog 138 0 0 3 := Fld.mk' Tryz.underlying138 rfl
instance : Fld Tryz.prog 138 1 1 3 := Fld.mk' Tryz.underlying138 rfl
instance : Fld Tryz.prog 138 2 2 3 := Fld.mk' Tryz.underlying138 rfl
instance : Zc Tryz.prog 138 [(.int .i64 0), (.int .i64 0), (.int .i64 0)] := Zc.mk' (z := .agg #[(.int .i64 0), (.int .i64 0), (.int .i64 0)]) (by kernel_rfl) rfl
instance : StT Tryz.prog 138 [(0, 1), (1, 1), (2, 1)] [(.int .i64 0), (.int .i64 0), (.int .i64 0)] := StT.mk' (z := .agg #[(.int .i64 0), (.int .i64 0), (.int .i64 0)]) Tryz.underlying138 (by kernel_rfl) rfl (by kernel_rfl)
instance : ElT Tryz.prog 138 3 24 := ElT.mk' (z := .agg #[(.int .i64 0), (.int .i64 0), (.int .i64 0)]) (by kernel_rfl) rfl (by decide)
instance : Sz Tryz.prog 139 1 := Sz.mk' (by kernel_rfl)
instance : One Tryz.prog 139 := One.mk' Tryz.underlying139 rfl
instance : Zc Tryz.prog 139 [(.nilFunc)] := Zc.mk' (z := .nilFunc) (by kernel_rfl) rfl
instance : ElT Tryz.prog 139 1 8 := ElT.mk' (z := .nilFunc) (by kernel_rfl) rfl (by decide)
instance : Sz Tryz.prog 140 1 := Sz.mk' (by kernel_rfl)
instance : One Tryz.prog 140 := One.mk' Tryz.underlying140 rfl
instance : Zc Tryz.prog 140 [(.nilFunc)] := Zc.mk' (z := .nilFunc) (by kernel_rfl) rfl
instance : ElT Tryz.prog 140 1 8 := ElT.mk' (z := .nilFunc) (by kernel_rfl) rfl (by decide)
instance : Sz Tryz.prog 141 1 := Sz.mk' (by kernel_rfl)
instance : One Tryz.prog 141 := One.mk' Tryz.underlying141 rfl
instance : Zc Tryz.prog 141 [(.nilFunc)] := Zc.mk' (z := .nilFunc) (by kernel_rfl) rfl
instance : ElT Tryz.prog 141 1 8 := ElT.mk' (z := .nilFunc) (by kernel_rfl) rfl (by decide)
instance : Sz Tryz.prog 142 1 := Sz.mk' (by kernel_rfl)
instance : SlT Tryz.prog 142 83 := ⟨Tryz.underlying142⟩
instance : One Tryz.prog 142 := One.mk' Tryz.underlying142 rfl
instance : Zc Tryz.prog 142 [(.slice none 0 0)] := Zc.mk' (z := .slice none 0 0) (by kernel_rfl) rfl
instance : ElT Tryz.prog 142 1 24 := ElT.mk' (z := .slice none 0 0) (by kernel_rfl) rfl (by decide)
instance : Sz Tryz.prog 143 1 := Sz.mk' (by kernel_rfl)
instance : One Tryz.prog 143 := One.mk' Tryz.underlying143 rfl
instance : Zc Tryz.prog 143 [(.nilFunc)] := Zc.mk' (z := .nilFunc) (by kernel_rfl) rfl
instance : ElT Tryz.prog 143 1 8 := ElT.mk' (z := .nilFunc) (by kernel_rfl) rfl (by decide)
instance : Sz Tryz.prog 144 1 := Sz.mk' (by kernel_rfl)
instance : One Tryz.prog 144 := One.mk' Tryz.underlying144 rfl
instance : Zc Tryz.prog 144 [(.nilFunc)] := Zc.mk' (z := .nilFunc) (by kernel_rfl) rfl
instance : ElT Tryz.prog 144 1 8 := ElT.mk' (z := .nilFunc) (by kernel_rfl) rfl (by decide)
instance : Sz Tryz.prog 145 1 := Sz.mk' (by kernel_rfl)
instance : One Tryz.prog 145 := One.mk' Tryz.underlying145 rfl
instance : Zc Tryz.prog 145 [(.nilFunc)] := Zc.mk' (z := .nilFunc) (by kernel_rfl) rfl
instance : ElT Tryz.prog 145 1 8 := ElT.mk' (z := .nilFunc) (by kernel_rfl) rfl (by decide)
instance : Sz Tryz.prog 146 1 := Sz.mk' (by kernel_rfl)
instance : One Tryz.prog 146 := One.mk' Tryz.underlying146 rfl
instance : Zc Tryz.prog 146 [(.nilFunc)] := Zc.mk' (z := .nilFunc) (by kernel_rfl) rfl
instance : ElT Tryz.prog 146 1 8 := ElT.mk' (z := .nilFunc) (by kernel_rfl) rfl (by decide)
instance : Sz Tryz.prog 147 1 := Sz.mk' (by kernel_rfl)
instance : One Tryz.prog 147 := One.mk' Tryz.underlying147 rfl
instance : Zc Tryz.prog 147 [(.nilFunc)] := Zc.mk' (z := .nilFunc) (by kernel_rfl) rfl
instance : ElT Tryz.prog 147 1 8 := ElT.mk' (z := .nilFunc) (by kernel_rfl) rfl (by decide)
instance : Sz Tryz.prog 148 1 := Sz.mk' (by kernel_rfl)
instance : One Tryz.prog 148 := One.mk' Tryz.underlying148 rfl
instance : Zc Tryz.prog 148 [(.nilFunc)] := Zc.mk' (z := .nilFunc) (by kernel_rfl) rfl
instance : ElT Tryz.prog 148 1 8 := ElT.mk' (z := .nilFunc) (by kernel_rfl) rfl (by decide)
instance : Sz Tryz.prog 149 1 := Sz.mk' (by kernel_rfl)
instance : One Tryz.prog 149 := One.mk' Tryz.underlying149 rfl
instance : Zc Tryz.prog 149 [(.nilFunc)] := Zc.mk' (z := .nilFunc) (by kernel_rfl) rfl
instance : ElT Tryz.prog 149 1 8 := ElT.mk' (z := .nilFunc) (by kernel_rfl) rfl (by decide)
instance : Sz Tryz.prog 150 1 := Sz.mk' (by kernel_rfl)
instance : One Tryz.prog 150 := One.mk' Tryz.underlying150 rfl
instance : Zc Tryz.prog 150 [(.nilFunc)] := Zc.mk' (z := .nilFunc) (by kernel_rfl) rfl
instance : ElT Tryz.prog 150 1 8 := ElT.mk' (z := .nilFunc) (by kernel_rfl) rfl (by decide)
instance : Sz Tryz.prog 151 4 := Sz.mk' (by kernel_rfl)
instance : Ag Tryz.prog 151 := Ag.mk' Tryz.underlying151 rfl
instance : Fld Tryz.prog 151 0 0 3 := Fld.mk' Tryz.underlying151 rfl
instance : Fld Tryz.prog 151 1 1 3 := Fld.mk' Tryz.underlying151 rfl
instance : Fld Tryz.prog 151 2 2 49 := Fld.mk' Tryz.underlying151 rfl
instance : Zc Tryz.prog 151 [(.int .i64 0), (.int .i64 0), (.int .i64 0), (.int .i64 0)] := Zc.mk' (z := .agg #[(.int .i64 0), (.int .i64 0), (.int .i64 0), (.int .i64 0)]) (by kernel_rfl) rfl
instance : StT Tryz.prog 151 [(0, 1), (1, 1), (2, 2)] [(.int .i64 0), (.int .i64 0), (.int .i64 0), (.int .i64 0)] := StT.mk' (z := .agg #[(.int .i64 0), (.int .i64 0), (.int .i64 0), (.int .i64 0)]) Tryz.underlying151 (by kernel_rfl) rfl (by kernel_rfl)
instance : ElT Tryz.prog 151 4 32 := ElT.mk' (z := .agg #[(.int .i64 0), (.int .i64 0), (.int .i64 0), (.int .i64 0)]) (by kernel_rfl) rfl (by decide)
instance : Sz Tryz.prog 152 4 := Sz.mk' (by kernel_rfl)
instance : Ag Tryz.prog 152 := Ag.mk' Tryz.underlying152 rfl
instance : Fld Tryz.prog 152 0 0 3 := Fld.mk' Tryz.underlying152 rfl
instance : Fld Tryz.prog 152 1 1 3 := Fld.mk' Tryz.underlying152 rfl
instance : Fld Tryz.prog 152 2 2 49 := Fld.mk' Tryz.underlying152 rfl
instance : Zc Tryz.prog 152 [(.int .i64 0), (.int .i64 0), (.int .i64 0), (.int .i64 0)] := Zc.mk' (z := .agg #[(.int .i64 0), (.int .i64 0), (.int .i64 0), (.int .i64 0)]) (by kernel_rfl) rfl
instance : StT Tryz.prog 152 [(0, 1), (1, 1), (2, 2)] [(.int .i64 0), (.int .i64 0), (.int .i64 0), (.int .i64 0)] := StT.mk' (z := .agg #[(.int .i64 0), (.int .i64 0), (.int .i64 0), (.int .i64 0)]) Tryz.underlying152 (by kernel_rfl) rfl (by kernel_rfl)
instance : ElT Tryz.prog 152 4 32 := ElT.mk' (z := .agg #[(.int .i64 0), (.int .i64 0), (.int .i64 0), (.int .i64 0)]) (by kernel_rfl) rfl (by decide)
instance : Sz Tryz.prog 153 4 := Sz.mk' (by kernel_rfl)
instance : Ag Tryz.prog 153 := Ag.mk' Tryz.underlying153 rfl
instance : Fld Tryz.prog 153 0 0 103 := Fld.mk' Tryz.underlying153 rfl
instance : Fld Tryz.prog 153 1 2 49 := Fld.mk' Tryz.underlying153 rfl
instance : Zc Tryz.prog 153 [(.int .i64 0), (.int .i64 0), (.int .i64 0), (.int .i64 0)] := Zc.mk' (z := .agg #[(.int .i64 0), (.int .i64 0), (.int .i64 0), (.int .i64 0)]) (by kernel_rfl) rfl
instance : StT Tryz.prog 153 [(0, 2), (2, 2)] [(.int .i64 0), (.int .i64 0), (.int .i64 0), (.int .i64 0)] := StT.mk' (z := .agg #[(.int .i64 0), (.int .i64 0), (.int .i64 0), (.int .i64 0)]) Tryz.underlying153 (by kernel_rfl) rfl (by kernel_rfl)
instance : ElT Tryz.prog 153 4 32 := ElT.mk' (z := .agg #[(.int .i64 0), (.int .i64 0), (.int .i64 0), (.int .i64 0)]) (by kernel_rfl) rfl (by decide)
instance : Sz Tryz.prog 154 4 := Sz.mk' (by kernel_rfl)
instance : Ag Tryz.prog 154 := Ag.mk' Tryz.underlying154 rfl
instance : Fld Tryz.prog 154 0 0 103 := Fld.mk' Tryz.underlying154 rfl
instance : Fld Tryz.prog 154 1 2 49 := Fld.mk' Tryz.underlying154 rfl
instance : Zc Tryz.prog 154 [(.int .i64 0), (.int .i64 0), (.int .i64 0), (.int .i64 0)] := Zc.mk' (z := .agg #[(.int .i64 0), (.int .i64 0), (.int .i64 0), (.int .i64 0)]) (by kernel_rfl) rfl
instance : StT Tryz.prog 154 [(0, 2), (2, 2)] [(.int .i64 0), (.int .i64 0), (.int .i64 0), (.int .i64 0)] := StT.mk' (z := .agg #[(.int .i64 0), (.int .i64 0), (.int .i64 0), (.int .i64 0)]) Tryz.underlying154 (by kernel_rfl) rfl (by kernel_rfl)
instance : ElT Tryz.prog 154 4 32 := ElT.mk' (z := .agg #[(.int .i64 0), (.int .i64 0), (.int .i64 0), (.int .i64 0)]) (by kernel_rfl) rfl (by decide)
instance : Sz Tryz.prog 155 1 := Sz.mk' (by kernel_rfl)
instance : PtrT Tryz.prog 155 226 := ⟨Tryz.underlying155⟩
instance : One Tryz.prog 155 := One.mk' Tryz.underlying155 rfl
instance : Zc Tryz.prog 155 [(.pointer none)] := Zc.mk' (z := .pointer none) (by kernel_rfl) rfl
instance : ElT Tryz.prog 155 1 8 := ElT.mk' (z := .pointer none) (by kernel_rfl) rfl (by decide)
instance : Sz Tryz.prog 156 1 := Sz.mk' (by kernel_rfl)
instance : One Tryz.prog 156 := One.mk' Tryz.underlying156 rfl
instance : Zc Tryz.prog 156 [(.nilFunc)] := Zc.mk' (z := .nilFunc) (by kernel_rfl) rfl
instance : ElT Tryz.prog 156 1 8 := ElT.mk' (z := .nilFunc) (by kernel_rfl) rfl (by decide)
instance : Sz Tryz.prog 158 1 := Sz.mk' (by kernel_rfl)
instance : One Tryz.prog 158 := One.mk' Tryz.underlying158 rfl
instance : Zc Tryz.prog 158 [(.nilFunc)] := Zc.mk' (z := .nilFunc) (by kernel_rfl) rfl
instance : ElT Tryz.prog 158 1 8 := ElT.mk' (z := .nilFunc) (by kernel_rfl) rfl (by decide)
instance : Sz Tryz.prog 159 1 := Sz.mk' (by kernel_rfl)
instance : One Tryz.prog 159 := One.mk' Tryz.underlying159 rfl
instance : Zc Tryz.prog 159 [(.nilFunc)] := Zc.mk' (z := .nilFunc) (by kernel_rfl) rfl
instance : ElT Tryz.prog 159 1 8 := ElT.mk' (z := .nilFunc) (by kernel_rfl) rfl (by decide)
instance : Sz Tryz.prog 161 1 := Sz.mk' (by kernel_rfl)
instance : One Tryz.prog 161 := One.mk' Tryz.underlying161 rfl
instance : Zc Tryz.prog 161 [(.nilFunc)] := Zc.mk' (z := .nilFunc) (by kernel_rfl) rfl
instance : ElT Tryz.prog 161 1 8 := ElT.mk' (z := .nilFunc) (by kernel_rfl) rfl (by decide)
instance : Sz Tryz.prog 162 1 := Sz.mk' (by kernel_rfl)
instance : One Tryz.prog 162 := One.mk' Tryz.underlying162 rfl
instance : Zc Tryz.prog 162 [(.nilFunc)] := Zc.mk' (z := .nilFunc) (by kernel_rfl) rfl
instance : ElT Tryz.prog 162 1 8 := ElT.mk' (z := .nilFunc) (by kernel_rfl) rfl (by decide)
instance : Sz Tryz.prog 163 1 := Sz.mk' (by kernel_rfl)
instance : One Tryz.prog 163 := One.mk' Tryz.underlying163 rfl
instance : Zc Tryz.prog 163 [(.nilFunc)] := Zc.mk' (z := .nilFunc) (by kernel_rfl) rfl
instance : ElT Tryz.prog 163 1 8 := ElT.mk' (z := .nilFunc) (by kernel_rfl) rfl (by decide)
instance : Sz Tryz.prog 164 1 := Sz.mk' (by kernel_rfl)
instance : One Tryz.prog 164 := One.mk' Tryz.underlying164 rfl
instance : Zc Tryz.prog 164 [(.nilFunc)] := Zc.mk' (z := .nilFunc) (by kernel_rfl) rfl
instance : ElT Tryz.prog 164 1 8 := ElT.mk' (z := .nilFunc) (by kernel_rfl) rfl (by decide)
instance : Sz Tryz.prog 165 1 := Sz.mk' (by kernel_rfl)
instance : One Tryz.prog 165 := One.mk' Tryz.underlying165 rfl
instance : Zc Tryz.prog 165 [(.nilFunc)] := Zc.mk' (z := .nilFunc) (by kernel_rfl) rfl
instance : ElT Tryz.prog 165 1 8 := ElT.mk' (z := .nilFunc) (by kernel_rfl) rfl (by decide)
instance : Sz Tryz.prog 166 1 := Sz.mk' (by kernel_rfl)
instance : One Tryz.prog 166 := One.mk' Tryz.underlying166 rfl
instance : Zc Tryz.prog 166 [(.nilFunc)] := Zc.mk' (z := .nilFunc) (by kernel_rfl) rfl
instance : ElT Tryz.prog 166 1 8 := ElT.mk' (z := .nilFunc) (by kernel_rfl) rfl (by decide)
instance : Sz Tryz.prog 167 1 := Sz.mk' (by kernel_rfl)
instance : One Tryz.prog 167 := One.mk' Tryz.underlying167 rfl
instance : Zc Tryz.prog 167 [(.nilFunc)] := Zc.mk' (z := .nilFunc) (by kernel_rfl) rfl
instance : ElT Tryz.prog 167 1 8 := ElT.mk' (z := .nilFunc) (by kernel_rfl) rfl (by decide)
instance : Sz Tryz.prog 168 1 := Sz.mk' (by kernel_rfl)
instance : One Tryz.prog 168 := One.mk' Tryz.underlying168 rfl
instance : Zc Tryz.prog 168 [(.nilFunc)] := Zc.mk' (z := .nilFunc) (by kernel_rfl) rfl
instance : ElT Tryz.prog 168 1 8 := ElT.mk' (z := .nilFunc) (by kernel_rfl) rfl (by decide)
instance : Sz Tryz.prog 169 1 := Sz.mk' (by kernel_rfl)
instance : One Tryz.prog 169 := One.mk' Tryz.underlying169 rfl
instance : Zc Tryz.prog 169 [(.nilFunc)] := Zc.mk' (z := .nilFunc) (by kernel_rfl) rfl
instance : ElT Tryz.prog 169 1 8 := ElT.mk' (z := .nilFunc) (by kernel_rfl) rfl (by decide)
instance : Sz Tryz.prog 170 1 := Sz.mk' (by kernel_rfl)
instance : One Tryz.prog 170 := One.mk' Tryz.underlying170 rfl
instance : Zc Tryz.prog 170 [(.nilFunc)] := Zc.mk' (z := .nilFunc) (by kernel_rfl) rfl
instance : ElT Tryz.prog 170 1 8 := ElT.mk' (z := .nilFunc) (by kernel_rfl) rfl (by decide)
instance : Sz Tryz.prog 171 1 := Sz.mk' (by kernel_rfl)
instance : One Tryz.prog 171 := One.mk' Tryz.underlying171 rfl
instance : Zc Tryz.prog 171 [(.nilFunc)] := Zc.mk' (z := .nilFunc) (by kernel_rfl) rfl
instance : ElT Tryz.prog 171 1 8 := ElT.mk' (z := .nilFunc) (by kernel_rfl) rfl (by decide)
instance : Sz Tryz.prog 172 1 := Sz.mk' (by kernel_rfl)
instance : One Tryz.prog 172 := One.mk' Tryz.underlying172 rfl
instance : Zc Tryz.prog 172 [(.nilFunc)] := Zc.mk' (z := .nilFunc) (by kernel_rfl) rfl
instance : ElT Tryz.prog 172 1 8 := ElT.mk' (z := .nilFunc) (by kernel_rfl) rfl (by decide)
instance : Sz Tryz.prog 173 1 := Sz.mk' (by kernel_rfl)
instance : One Tryz.prog 173 := One.mk' Tryz.underlying173 rfl
instance : Zc Tryz.prog 173 [(.nilFunc)] := Zc.mk' (z := .nilFunc) (by kernel_rfl) rfl
instance : ElT Tryz.prog 173 1 8 := ElT.mk' (z := .nilFunc) (by kernel_rfl) rfl (by decide)
instance : Sz Tryz.prog 174 1 := Sz.mk' (by kernel_rfl)
instance : One Tryz.prog 174 := One.mk' Tryz.underlying174 rfl
instance : Zc Tryz.prog 174 [(.nilFunc)] := Zc.mk' (z := .nilFunc) (by kernel_rfl) rfl
instance : ElT Tryz.prog 174 1 8 := ElT.mk' (z := .nilFunc) (by kernel_rfl) rfl (by decide)
instance : Sz Tryz.prog 176 1 := Sz.mk' (by kernel_rfl)
instance : One Tryz.prog 176 := One.mk' Tryz.underlying176 rfl
instance : Zc Tryz.prog 176 [(.nilFunc)] := Zc.mk' (z := .nilFunc) (by kernel_rfl) rfl
instance : ElT Tryz.prog 176 1 8 := ElT.mk' (z := .nilFunc) (by kernel_rfl) rfl (by decide)
instance : Sz Tryz.prog 177 1 := Sz.mk' (by kernel_rfl)
instance : One Tryz.prog 177 := One.mk' Tryz.underlying177 rfl
instance : Zc Tryz.prog 177 [(.nilFunc)] := Zc.mk' (z := .nilFunc) (by kernel_rfl) rfl
instance : ElT Tryz.prog 177 1 8 := ElT.mk' (z := .nilFunc) (by kernel_rfl) rfl (by decide)
instance : Sz Tryz.prog 178 1 := Sz.mk' (by kernel_rfl)
instance : One Tryz.prog 178 := One.mk' Tryz.underlying178 rfl
instance : Zc Tryz.prog 178 [(.nilFunc)] := Zc.mk' (z := .nilFunc) (by kernel_rfl) rfl
instance : ElT Tryz.prog 178 1 8 := ElT.mk' (z := .nilFunc) (by kernel_rfl) rfl (by decide)
instance : Sz Tryz.prog 179 1 := Sz.mk' (by kernel_rfl)
instance : One Tryz.prog 179 := One.mk' Tryz.underlying179 rfl
instance : Zc Tryz.prog 179 [(.nilFunc)] := Zc.mk' (z := .nilFunc) (by kernel_rfl) rfl
instance : ElT Tryz.prog 179 1 8 := ElT.mk' (z := .nilFunc) (by kernel_rfl) rfl (by decide)
instance : Sz Tryz.prog 180 1 := Sz.mk' (by kernel_rfl)
instance : One Tryz.prog 180 := One.mk' Tryz.underlying180 rfl
instance : Zc Tryz.prog 180 [(.nilFunc)] := Zc.mk' (z := .nilFunc) (by kernel_rfl) rfl
instance : ElT Tryz.prog 180 1 8 := ElT.mk' (z := .nilFunc) (by kernel_rfl) rfl (by decide)
instance : Sz Tryz.prog 181 1 := Sz.mk' (by kernel_rfl)
instance : One Tryz.prog 181 := One.mk' Tryz.underlying181 rfl
instance : Zc Tryz.prog 181 [(.nilFunc)] := Zc.mk' (z := .nilFunc) (by kernel_rfl) rfl
instance : ElT Tryz.prog 181 1 8 := ElT.mk' (z := .nilFunc) (by kernel_rfl) rfl (by decide)
instance : Sz Tryz.prog 182 1 := Sz.mk' (by kernel_rfl)
instance : PtrT Tryz.prog 182 257 := ⟨Tryz.underlying182⟩
instance : One Tryz.prog 182 := One.mk' Tryz.underlying182 rfl
instance : Zc Tryz.prog 182 [(.pointer none)] := Zc.mk' (z := .pointer none) (by kernel_rfl) rfl
instance : ElT Tryz.prog 182 1 8 := ElT.mk' (z := .pointer none) (by kernel_rfl) rfl (by decide)
instance : Sz Tryz.prog 183 1 := Sz.mk' (by kernel_rfl)
instance : One Tryz.prog 183 := One.mk' Tryz.underlying183 rfl
instance : Zc Tryz.prog 183 [(.nilFunc)] := Zc.mk' (z := .nilFunc) (by kernel_rfl) rfl
instance : ElT Tryz.prog 183 1 8 := ElT.mk' (z := .nilFunc) (by kernel_rfl) rfl (by decide)
instance : Sz Tryz.prog 184 1 := Sz.mk' (by kernel_rfl)
instance : One Tryz.prog 184 := One.mk' Tryz.underlying184 rfl
instance : Zc Tryz.prog 184 [(.nilFunc)] := Zc.mk' (z := .nilFunc) (by kernel_rfl) rfl
instance : ElT Tryz.prog 184 1 8 := ElT.mk' (z := .nilFunc) (by kernel_rfl) rfl (by decide)
instance : Sz Tryz.prog 185 1 := Sz.mk' (by kernel_rfl)
instance : One Tryz.prog 185 := One.mk' Tryz.underlying185 rfl
instance : Zc Tryz.prog 185 [(.nilFunc)] := Zc.mk' (z := .nilFunc) (by kernel_rfl) rfl
instance : ElT Tryz.prog 185 1 8 := ElT.mk' (z := .nilFunc) (by kernel_rfl) rfl (by decide)
instance : Sz Tryz.prog 186 1 := Sz.mk' (by kernel_rfl)
instance : IntT Tryz.prog 186 .u32 := ⟨Tryz.underlying186⟩
instance : One Tryz.prog 186 := One.mk' Tryz.underlying186 rfl
instance : Zc Tryz.prog 186 [(.int .u32 0)] := Zc.mk' (z := .int .u32 0) (by kernel_rfl) rfl
instance : ElT Tryz.prog 186 1 4 := ElT.mk' (z := .int .u32 0) (by kernel_rfl) rfl (by decide)
instance : Sz Tryz.prog 188 1 := Sz.mk' (by kernel_rfl)
instance : One Tryz.prog 188 := One.mk' Tryz.underlying188 rfl
instance : Zc Tryz.prog 188 [(.nilFunc)] := Zc.mk' (z := .nilFunc) (by kernel_rfl) rfl
instance : ElT Tryz.prog 188 1 8 := ElT.mk' (z := .nilFunc) (by kernel_rfl) rfl (by decide)
instance : Sz Tryz.prog 189 1 := Sz.mk' (by kernel_rfl)
instance : One Tryz.prog 189 := One.mk' Tryz.underlying189 rfl
instance : Zc Tryz.prog 189 [(.nilFunc)] := Zc.mk' (z := .nilFunc) (by kernel_rfl) rfl
instance : ElT Tryz.prog 189 1 8 := ElT.mk' (z := .nilFunc) (by kernel_rfl) rfl (by decide)
instance : Sz Tryz.prog 191 1 := Sz.mk' (by kernel_rfl)
instance : One Tryz.prog 191 := One.mk' Tryz.underlying191 rfl
instance : Zc Tryz.prog 191 [(.nilFunc)] := Zc.mk' (z := .nilFunc) (by kernel_rfl) rfl
instance : ElT Tryz.prog 191 1 8 := ElT.mk' (z := .nilFunc) (by kernel_rfl) rfl (by decide)
instance : Sz Tryz.prog 192 1 := Sz.mk' (by kernel_rfl)
instance : One Tryz.prog 192 := One.mk' Tryz.underlying192 rfl
instance : Zc Tryz.prog 192 [(.nilFunc)] := Zc.mk' (z := .nilFunc) (by kernel_rfl) rfl
instance : ElT Tryz.prog 192 1 8 := ElT.mk' (z := .nilFunc) (by kernel_rfl) rfl (by decide)
instance : Sz Tryz.prog 193 1 := Sz.mk' (by kernel_rfl)
instance : One Tryz.prog 193 := One.mk' Tryz.underlying193 rfl
instance : Zc Tryz.prog 193 [(.nilFunc)] := Zc.mk' (z := .nilFunc) (by kernel_rfl) rfl
instance : ElT Tryz.prog 193 1 8 := ElT.mk' (z := .nilFunc) (by kernel_rfl) rfl (by decide)
instance : Sz Tryz.prog 194 1 := Sz.mk' (by kernel_rfl)
instance : One Tryz.prog 194 := One.mk' Tryz.underlying194 rfl
instance : Zc Tryz.prog 194 [(.nilFunc)] := Zc.mk' (z := .nilFunc) (by kernel_rfl) rfl
instance : ElT Tryz.prog 194 1 8 := ElT.mk' (z := .nilFunc) (by kernel_rfl) rfl (by decide)
instance : Sz Tryz.prog 195 1 := Sz.mk' (by kernel_rfl)
instance : One Tryz.prog 195 := One.mk' Tryz.underlying195 rfl
instance : Zc Tryz.prog 195 [(.nilFunc)] := Zc.mk' (z := .nilFunc) (by kernel_rfl) rfl
instance : ElT Tryz.prog 195 1 8 := ElT.mk' (z := .nilFunc) (by kernel_rfl) rfl (by decide)
instance : Sz Tryz.prog 196 1 := Sz.mk' (by kernel_rfl)
instance : One Tryz.prog 196 := One.mk' Tryz.underlying196 rfl
instance : Zc Tryz.prog 196 [(.nilFunc)] := Zc.mk' (z := .nilFunc) (by kernel_rfl) rfl
instance : ElT Tryz.prog 196 1 8 := ElT.mk' (z := .nilFunc) (by kernel_rfl) rfl (by decide)
instance : Sz Tryz.prog 197 3 := Sz.mk' (by kernel_rfl)
instance : Ag Tryz.prog 197 := Ag.mk' Tryz.underlying197 rfl
instance : Fld Tryz.prog 197 0 0 196 := Fld.mk' Tryz.underlying197 rfl
instance : Fld Tryz.prog 197 1 1 9 := Fld.mk' Tryz.underlying197 rfl
instance : Fld Tryz.prog 197 2 2 9 := Fld.mk' Tryz.underlying197 rfl
instance : Zc Tryz.prog 197 [(.nilFunc), (.string ByteArray.empty), (.string ByteArray.empty)] := Zc.mk' (z := .agg #[(.nilFunc), (.string ByteArray.empty), (.string ByteArray.empty)]) (by kernel_rfl) rfl
instance : StT Tryz.prog 197 [(0, 1), (1, 1), (2, 1)] [(.nilFunc), (.string ByteArray.empty), (.string ByteArray.empty)] := StT.mk' (z := .agg #[(.nilFunc), (.string ByteArray.empty), (.string ByteArray.empty)]) Tryz.underlying197 (by kernel_rfl) rfl (by kernel_rfl)
instance : ElT Tryz.prog 197 3 40 := ElT.mk' (z := .agg #[(.nilFunc), (.string ByteArray.empty), (.string ByteArray.empty)]) (by kernel_rfl) rfl (by decide)
instance : Sz Tryz.prog 198 3 := Sz.mk' (by kernel_rfl)
instance : Ag Tryz.prog 198 := Ag.mk' Tryz.underlying198 rfl
instance : Fld Tryz.prog 198 0 0 196 := Fld.mk' Tryz.underlying198 rfl
instance : Fld Tryz.prog 198 1 1 9 := Fld.mk' Tryz.underlying198 rfl
instance : Fld Tryz.prog 198 2 2 9 := Fld.mk' Tryz.underlying198 rfl
instance : Zc Tryz.prog 198 [(.nilFunc), (.string ByteArray.empty), (.string ByteArray.empty)] := Zc.mk' (z := .agg #[(.nilFunc), (.string ByteArray.empty), (.string ByteArray.empty)]) (by kernel_rfl) rfl
instance : StT Tryz.prog 198 [(0, 1), (1, 1), (2, 1)] [(.nilFunc), (.string ByteArray.empty), (.string ByteArray.empty)] := StT.mk' (z := .agg #[(.nilFunc), (.string ByteArray.empty), (.string ByteArray.empty)]) Tryz.underlying198 (by kernel_rfl) rfl (by kernel_rfl)
instance : ElT Tryz.prog 198 3 40 := ElT.mk' (z := .agg #[(.nilFunc), (.string ByteArray.empty), (.string ByteArray.empty)]) (by kernel_rfl) rfl (by decide)
instance : Sz Tryz.prog 199 1 := Sz.mk' (by kernel_rfl)
instance : One Tryz.prog 199 := One.mk' Tryz.underlying199 rfl
instance : Zc Tryz.prog 199 [(.nilFunc)] := Zc.mk' (z := .nilFunc) (by kernel_rfl) rfl
instance : ElT Tryz.prog 199 1 8 := ElT.mk' (z := .nilFunc) (by kernel_rfl) rfl (by decide)
instance : Sz Tryz.prog 200 3 := Sz.mk' (by kernel_rfl)
instance : Ag Tryz.prog 200 := Ag.mk' Tryz.underlying200 rfl
instance : Fld Tryz.prog 200 0 0 4 := Fld.mk' Tryz.underlying200 rfl
instance : Fld Tryz.prog 200 1 1 9 := Fld.mk' Tryz.underlying200 rfl
instance : Fld Tryz.prog 200 2 2 9 := Fld.mk' Tryz.underlying200 rfl
instance : Zc Tryz.prog 200 [(.bool false), (.string ByteArray.empty), (.string ByteArray.empty)] := Zc.mk' (z := .agg #[(.bool false), (.string ByteArray.empty), (.string ByteArray.empty)]) (by kernel_rfl) rfl
instance : StT Tryz.prog 200 [(0, 1), (1, 1), (2, 1)] [(.bool false), (.string ByteArray.empty), (.string ByteArray.empty)] := StT.mk' (z := .agg #[(.bool false), (.string ByteArray.empty), (.string ByteArray.empty)]) Tryz.underlying200 (by kernel_rfl) rfl (by kernel_rfl)
instance : ElT Tryz.prog 200 3 40 := ElT.mk' (z := .agg #[(.bool false), (.string ByteArray.empty), (.string ByteArray.empty)]) (by kernel_rfl) rfl (by decide)
instance : Sz Tryz.prog 201 3 := Sz.mk' (by kernel_rfl)
instance : Ag Tryz.prog 201 := Ag.mk' Tryz.underlying201 rfl
instance : Fld Tryz.prog 201 0 0 4 := Fld.mk' Tryz.underlying201 rfl
instance : Fld Tryz.prog 201 1 1 9 := Fld.mk' Tryz.underlying201 rfl
instance : Fld Tryz.prog 201 2 2 9 := Fld.mk' Tryz.underlying201 rfl
instance : Zc Tryz.prog 201 [(.bool false), (.string ByteArray.empty), (.string ByteArray.empty)] := Zc.mk' (z := .agg #[(.bool false), (.string ByteArray.empty), (.string ByteArray.empty)]) (by kernel_rfl) rfl
instance : StT Tryz.prog 201 [(0, 1), (1, 1), (2, 1)] [(.bool false), (.string ByteArray.empty), (.string ByteArray.empty)] := StT.mk' (z := .agg #[(.bool false), (.string ByteArray.empty), (.string ByteArray.empty)]) Tryz.underlying201 (by kernel_rfl) rfl (by kernel_rfl)
instance : ElT Tryz.prog 201 3 40 := ElT.mk' (z := .agg #[(.bool false), (.string ByteArray.empty), (.string ByteArray.empty)]) (by kernel_rfl) rfl (by decide)
instance : Sz Tryz.prog 202 1 := Sz.mk' (by kernel_rfl)
instance : One Tryz.prog 202 := One.mk' Tryz.underlying202 rfl
instance : Zc Tryz.prog 202 [(.nilFunc)] := Zc.mk' (z := .nilFunc) (by kernel_rfl) rfl
instance : ElT Tryz.prog 202 1 8 := ElT.mk' (z := .nilFunc) (by kernel_rfl) rfl (by decide)
instance : Sz Tryz.prog 203 1 := Sz.mk' (by kernel_rfl)
instance : One Tryz.prog 203 := One.mk' Tryz.underlying203 rfl
instance : Zc Tryz.prog 203 [(.nilFunc)] := Zc.mk' (z := .nilFunc) (by kernel_rfl) rfl
instance : ElT Tryz.prog 203 1 8 := ElT.mk' (z := .nilFunc) (by kernel_rfl) rfl (by decide)
instance : Sz Tryz.prog 204 1 := Sz.mk' (by kernel_rfl)
instance : One Tryz.prog 204 := One.mk' Tryz.underlying204 rfl
instance : Zc Tryz.prog 204 [(.nilFunc)] := Zc.mk' (z := .nilFunc) (by kernel_rfl) rfl
instance : ElT Tryz.prog 204 1 8 := ElT.mk' (z := .nilFunc) (by kernel_rfl) rfl (by decide)
instance : Sz Tryz.prog 205 1 := Sz.mk' (by kernel_rfl)
instance : One Tryz.prog 205 := One.mk' Tryz.underlying205 rfl
instance : Zc Tryz.prog 205 [(.nilFunc)] := Zc.mk' (z := .nilFunc) (by kernel_rfl) rfl
instance : ElT Tryz.prog 205 1 8 := ElT.mk' (z := .nilFunc) (by kernel_rfl) rfl (by decide)
instance : Sz Tryz.prog 206 1 := Sz.mk' (by kernel_rfl)
instance : One Tryz.prog 206 := One.mk' Tryz.underlying206 rfl
instance : Zc Tryz.prog 206 [(.nilFunc)] := Zc.mk' (z := .nilFunc) (by kernel_rfl) rfl
instance : ElT Tryz.prog 206 1 8 := ElT.mk' (z := .nilFunc) (by kernel_rfl) rfl (by decide)
instance : Sz Tryz.prog 207 1 := Sz.mk' (by kernel_rfl)
instance : PtrT Tryz.prog 207 275 := ⟨Tryz.underlying207⟩
instance : One Tryz.prog 207 := One.mk' Tryz.underlying207 rfl
instance : Zc Tryz.prog 207 [(.pointer none)] := Zc.mk' (z := .pointer none) (by kernel_rfl) rfl
instance : ElT Tryz.prog 207 1 8 := ElT.mk' (z := .pointer none) (by kernel_rfl) rfl (by decide)
instance : Sz Tryz.prog 208 1 := Sz.mk' (by kernel_rfl)
instance : One Tryz.prog 208 := One.mk' Tryz.underlying208 rfl
instance : Zc Tryz.prog 208 [(.nilFunc)] := Zc.mk' (z := .nilFunc) (by kernel_rfl) rfl
instance : ElT Tryz.prog 208 1 8 := ElT.mk' (z := .nilFunc) (by kernel_rfl) rfl (by decide)
instance : Sz Tryz.prog 209 1 := Sz.mk' (by kernel_rfl)
instance : One Tryz.prog 209 := One.mk' Tryz.underlying209 rfl
instance : Zc Tryz.prog 209 [(.nilFunc)] := Zc.mk' (z := .nilFunc) (by kernel_rfl) rfl
instance : ElT Tryz.prog 209 1 8 := ElT.mk' (z := .nilFunc) (by kernel_rfl) rfl (by decide)
instance : Sz Tryz.prog 210 1 := Sz.mk' (by kernel_rfl)
instance : One Tryz.prog 210 := One.mk' Tryz.underlying210 rfl
instance : Zc Tryz.prog 210 [(.nilFunc)] := Zc.mk' (z := .nilFunc) (by kernel_rfl) rfl
instance : ElT Tryz.prog 210 1 8 := ElT.mk' (z := .nilFunc) (by kernel_rfl) rfl (by decide)
instance : Sz Tryz.prog 211 1 := Sz.mk' (by kernel_rfl)
instance : One Tryz.prog 211 := One.mk' Tryz.underlying211 rfl
instance : Zc Tryz.prog 211 [(.nilFunc)] := Zc.mk' (z := .nilFunc) (by kernel_rfl) rfl
instance : ElT Tryz.prog 211 1 8 := ElT.mk' (z := .nilFunc) (by kernel_rfl) rfl (by decide)
instance : Sz Tryz.prog 212 1 := Sz.mk' (by kernel_rfl)
instance : One Tryz.prog 212 := One.mk' Tryz.underlying212 rfl
instance : Zc Tryz.prog 212 [(.nilFunc)] := Zc.mk' (z := .nilFunc) (by kernel_rfl) rfl
instance : ElT Tryz.prog 212 1 8 := ElT.mk' (z := .nilFunc) (by kernel_rfl) rfl (by decide)
instance : Sz Tryz.prog 213 1 := Sz.mk' (by kernel_rfl)
instance : One Tryz.prog 213 := One.mk' Tryz.underlying213 rfl
instance : Zc Tryz.prog 213 [(.nilFunc)] := Zc.mk' (z := .nilFunc) (by kernel_rfl) rfl
instance : ElT Tryz.prog 213 1 8 := ElT.mk' (z := .nilFunc) (by kernel_rfl) rfl (by decide)
instance : Sz Tryz.prog 214 1 := Sz.mk' (by kernel_rfl)
instance : One Tryz.prog 214 := One.mk' Tryz.underlying214 rfl
instance : Zc Tryz.prog 214 [(.nilFunc)] := Zc.mk' (z := .nilFunc) (by kernel_rfl) rfl
instance : ElT Tryz.prog 214 1 8 := ElT.mk' (z := .nilFunc) (by kernel_rfl) rfl (by decide)
instance : Sz Tryz.prog 216 1 := Sz.mk' (by kernel_rfl)
instance : One Tryz.prog 216 := One.mk' Tryz.underlying216 rfl
instance : Zc Tryz.prog 216 [(.nilFunc)] := Zc.mk' (z := .nilFunc) (by kernel_rfl) rfl
instance : ElT Tryz.prog 216 1 8 := ElT.mk' (z := .nilFunc) (by kernel_rfl) rfl (by decide)
instance : Sz Tryz.prog 217 1 := Sz.mk' (by kernel_rfl)
instance : PtrT Tryz.prog 217 219 := ⟨Tryz.underlying217⟩
instance : One Tryz.prog 217 := One.mk' Tryz.underlying217 rfl
instance : Zc Tryz.prog 217 [(.pointer none)] := Zc.mk' (z := .pointer none) (by kernel_rfl) rfl
instance : ElT Tryz.prog 217 1 8 := ElT.mk' (z := .pointer none) (by kernel_rfl) rfl (by decide)
instance : Sz Tryz.prog 218 2 := Sz.mk' (by kernel_rfl)
instance : Ag Tryz.prog 218 := Ag.mk' Tryz.underlying218 rfl
instance : Fld Tryz.prog 218 0 0 9 := Fld.mk' Tryz.underlying218 rfl
instance : Fld Tryz.prog 218 1 1 4 := Fld.mk' Tryz.underlying218 rfl
instance : Zc Tryz.prog 218 [(.string ByteArray.empty), (.bool false)] := Zc.mk' (z := .agg #[(.string ByteArray.empty), (.bool false)]) (by kernel_rfl) rfl
instance : StT Tryz.prog 218 [(0, 1), (1, 1)] [(.string ByteArray.empty), (.bool false)] := StT.mk' (z := .agg #[(.string ByteArray.empty), (.bool false)]) Tryz.underlying218 (by kernel_rfl) rfl (by kernel_rfl)
instance : ElT Tryz.prog 218 2 24 := ElT.mk' (z := .agg #[(.string ByteArray.empty), (.bool false)]) (by kernel_rfl) rfl (by decide)
instance : Sz Tryz.prog 219 2 := Sz.mk' (by kernel_rfl)
instance : Ag Tryz.prog 219 := Ag.mk' Tryz.underlying219 rfl
instance : Fld Tryz.prog 219 0 0 9 := Fld.mk' Tryz.underlying219 rfl
instance : Fld Tryz.prog 219 1 1 4 := Fld.mk' Tryz.underlying219 rfl
instance : Zc Tryz.prog 219 [(.string ByteArray.empty), (.bool false)] := Zc.mk' (z := .agg #[(.string ByteArray.empty), (.bool false)]) (by kernel_rfl) rfl
instance : StT Tryz.prog 219 [(0, 1), (1, 1)] [(.string ByteArray.empty), (.bool false)] := StT.mk' (z := .agg #[(.string ByteArray.empty), (.bool false)]) Tryz.underlying219 (by kernel_rfl) rfl (by kernel_rfl)
instance : ElT Tryz.prog 219 2 24 := ElT.mk' (z := .agg #[(.string ByteArray.empty), (.bool false)]) (by kernel_rfl) rfl (by decide)
instance : Sz Tryz.prog 220 1 := Sz.mk' (by kernel_rfl)
instance : One Tryz.prog 220 := One.mk' Tryz.underlying220 rfl
instance : Zc Tryz.prog 220 [(.nilFunc)] := Zc.mk' (z := .nilFunc) (by kernel_rfl) rfl
instance : ElT Tryz.prog 220 1 8 := ElT.mk' (z := .nilFunc) (by kernel_rfl) rfl (by decide)
instance : Sz Tryz.prog 221 1 := Sz.mk' (by kernel_rfl)
instance : One Tryz.prog 221 := One.mk' Tryz.underlying221 rfl
instance : Zc Tryz.prog 221 [(.nilFunc)] := Zc.mk' (z := .nilFunc) (by kernel_rfl) rfl
instance : ElT Tryz.prog 221 1 8 := ElT.mk' (z := .nilFunc) (by kernel_rfl) rfl (by decide)
instance : Sz Tryz.prog 222 1 := Sz.mk' (by kernel_rfl)
instance : PtrT Tryz.prog 222 224 := ⟨Tryz.underlying222⟩
instance : One Tryz.prog 222 := One.mk' Tryz.underlying222 rfl
instance : Zc Tryz.prog 222 [(.pointer none)] := Zc.mk' (z := .pointer none) (by kernel_rfl) rfl
instance : ElT Tryz.prog 222 1 8 := ElT.mk' (z := .pointer none) (by kernel_rfl) rfl (by decide)
instance : Sz Tryz.prog 223 2 := Sz.mk' (by kernel_rfl)
instance : Ag Tryz.prog 223 := Ag.mk' Tryz.underlying223 rfl
instance : Fld Tryz.prog 223 0 0 9 := Fld.mk' Tryz.underlying223 rfl
instance : Fld Tryz.prog 223 1 1 4 := Fld.mk' Tryz.underlying223 rfl
instance : Zc Tryz.prog 223 [(.string ByteArray.empty), (.bool false)] := Zc.mk' (z := .agg #[(.string ByteArray.empty), (.bool false)]) (by kernel_rfl) rfl
instance : StT Tryz.prog 223 [(0, 1), (1, 1)] [(.string ByteArray.empty), (.bool false)] := StT.mk' (z := .agg #[(.string ByteArray.empty), (.bool false)]) Tryz.underlying223 (by kernel_rfl) rfl (by kernel_rfl)
instance : ElT Tryz.prog 223 2 24 := ElT.mk' (z := .agg #[(.string ByteArray.empty), (.bool false)]) (by kernel_rfl) rfl (by decide)
instance : Sz Tryz.prog 224 2 := Sz.mk' (by kernel_rfl)
instance : Ag Tryz.prog 224 := Ag.mk' Tryz.underlying224 rfl
instance : Fld Tryz.prog 224 0 0 9 := Fld.mk' Tryz.underlying224 rfl
instance : Fld Tryz.prog 224 1 1 4 := Fld.mk' Tryz.underlying224 rfl
instance : Zc Tryz.prog 224 [(.string ByteArray.empty), (.bool false)] := Zc.mk' (z := .agg #[(.string ByteArray.empty), (.bool false)]) (by kernel_rfl) rfl
instance : StT Tryz.prog 224 [(0, 1), (1, 1)] [(.string ByteArray.empty), (.bool false)] := StT.mk' (z := .agg #[(.string ByteArray.empty), (.bool false)]) Tryz.underlying224 (by kernel_rfl) rfl (by kernel_rfl)
instance : ElT Tryz.prog 224 2 24 := ElT.mk' (z := .agg #[(.string ByteArray.empty), (.bool false)]) (by kernel_rfl) rfl (by decide)
instance : Sz Tryz.prog 225 1 := Sz.mk' (by kernel_rfl)
instance : Ag Tryz.prog 225 := Ag.mk' Tryz.underlying225 rfl
instance : Fld Tryz.prog 225 0 0 28 := Fld.mk' Tryz.underlying225 rfl
instance : Zc Tryz.prog 225 [(.slice none 0 0)] := Zc.mk' (z := .agg #[(.slice none 0 0)]) (by kernel_rfl) rfl
instance : StT Tryz.prog 225 [(0, 1)] [(.slice none 0 0)] := StT.mk' (z := .agg #[(.slice none 0 0)]) Tryz.underlying225 (by kernel_rfl) rfl (by kernel_rfl)
instance : ElT Tryz.prog 225 1 24 := ElT.mk' (z := .agg #[(.slice none 0 0)]) (by kernel_rfl) rfl (by decide)
instance : Sz Tryz.prog 226 1 := Sz.mk' (by kernel_rfl)
instance : Ag Tryz.prog 226 := Ag.mk' Tryz.underlying226 rfl
instance : Fld Tryz.prog 226 0 0 28 := Fld.mk' Tryz.underlying226 rfl
instance : Zc Tryz.prog 226 [(.slice none 0 0)] := Zc.mk' (z := .agg #[(.slice none 0 0)]) (by kernel_rfl) rfl
instance : StT Tryz.prog 226 [(0, 1)] [(.slice none 0 0)] := StT.mk' (z := .agg #[(.slice none 0 0)]) Tryz.underlying226 (by kernel_rfl) rfl (by kernel_rfl)
instance : ElT Tryz.prog 226 1 24 := ElT.mk' (z := .agg #[(.slice none 0 0)]) (by kernel_rfl) rfl (by decide)
instance : Sz Tryz.prog 227 1 := Sz.mk' (by kernel_rfl)
instance : One Tryz.prog 227 := One.mk' Tryz.underlying227 rfl
instance : Zc Tryz.prog 227 [(.nilFunc)] := Zc.mk' (z := .nilFunc) (by kernel_rfl) rfl
instance : ElT Tryz.prog 227 1 8 := ElT.mk' (z := .nilFunc) (by kernel_rfl) rfl (by decide)
instance : Sz Tryz.prog 228 1 := Sz.mk' (by kernel_rfl)
instance : One Tryz.prog 228 := One.mk' Tryz.underlying228 rfl
instance : Zc Tryz.prog 228 [(.nilFunc)] := Zc.mk' (z := .nilFunc) (by kernel_rfl) rfl
instance : ElT Tryz.prog 228 1 8 := ElT.mk' (z := .nilFunc) (by kernel_rfl) rfl (by decide)
instance : Sz Tryz.prog 229 1 := Sz.mk' (by kernel_rfl)
instance : One Tryz.prog 229 := One.mk' Tryz.underlying229 rfl
instance : Zc Tryz.prog 229 [(.nilFunc)] := Zc.mk' (z := .nilFunc) (by kernel_rfl) rfl
instance : ElT Tryz.prog 229 1 8 := ElT.mk' (z := .nilFunc) (by kernel_rfl) rfl (by decide)
instance : Sz Tryz.prog 230 1 := Sz.mk' (by kernel_rfl)
instance : One Tryz.prog 230 := One.mk' Tryz.underlying230 rfl
instance : Zc Tryz.prog 230 [(.nilFunc)] := Zc.mk' (z := .nilFunc) (by kernel_rfl) rfl
instance : ElT Tryz.prog 230 1 8 := ElT.mk' (z := .nilFunc) (by kernel_rfl) rfl (by decide)
instance : Sz Tryz.prog 231 1 := Sz.mk' (by kernel_rfl)
instance : One Tryz.prog 231 := One.mk' Tryz.underlying231 rfl
instance : Zc Tryz.prog 231 [(.nilFunc)] := Zc.mk' (z := .nilFunc) (by kernel_rfl) rfl
instance : ElT Tryz.prog 231 1 8 := ElT.mk' (z := .nilFunc) (by kernel_rfl) rfl (by decide)
instance : Sz Tryz.prog 232 1 := Sz.mk' (by kernel_rfl)
instance : One Tryz.prog 232 := One.mk' Tryz.underlying232 rfl
instance : Zc Tryz.prog 232 [(.nilFunc)] := Zc.mk' (z := .nilFunc) (by kernel_rfl) rfl
instance : ElT Tryz.prog 232 1 8 := ElT.mk' (z := .nilFunc) (by kernel_rfl) rfl (by decide)
instance : Sz Tryz.prog 233 1 := Sz.mk' (by kernel_rfl)
instance : One Tryz.prog 233 := One.mk' Tryz.underlying233 rfl
instance : Zc Tryz.prog 233 [(.nilFunc)] := Zc.mk' (z := .nilFunc) (by kernel_rfl) rfl
instance : ElT Tryz.prog 233 1 8 := ElT.mk' (z := .nilFunc) (by kernel_rfl) rfl (by decide)
instance : Sz Tryz.prog 234 1 := Sz.mk' (by kernel_rfl)
instance : One Tryz.prog 234 := One.mk' Tryz.underlying234 rfl
instance : Zc Tryz.prog 234 [(.nilFunc)] := Zc.mk' (z := .nilFunc) (by kernel_rfl) rfl
instance : ElT Tryz.prog 234 1 8 := ElT.mk' (z := .nilFunc) (by kernel_rfl) rfl (by decide)
instance : Sz Tryz.prog 235 1 := Sz.mk' (by kernel_rfl)
instance : One Tryz.prog 235 := One.mk' Tryz.underlying235 rfl
instance : Zc Tryz.prog 235 [(.nilFunc)] := Zc.mk' (z := .nilFunc) (by kernel_rfl) rfl
instance : ElT Tryz.prog 235 1 8 := ElT.mk' (z := .nilFunc) (by kernel_rfl) rfl (by decide)
instance : Sz Tryz.prog 237 1 := Sz.mk' (by kernel_rfl)
instance : One Tryz.prog 237 := One.mk' Tryz.underlying237 rfl
instance : Zc Tryz.prog 237 [(.nilFunc)] := Zc.mk' (z := .nilFunc) (by kernel_rfl) rfl
instance : ElT Tryz.prog 237 1 8 := ElT.mk' (z := .nilFunc) (by kernel_rfl) rfl (by decide)
instance : Sz Tryz.prog 238 1 := Sz.mk' (by kernel_rfl)
instance : One Tryz.prog 238 := One.mk' Tryz.underlying238 rfl
instance : Zc Tryz.prog 238 [(.nilFunc)] := Zc.mk' (z := .nilFunc) (by kernel_rfl) rfl
instance : ElT Tryz.prog 238 1 8 := ElT.mk' (z := .nilFunc) (by kernel_rfl) rfl (by decide)
instance : Sz Tryz.prog 239 1 := Sz.mk' (by kernel_rfl)
instance : One Tryz.prog 239 := One.mk' Tryz.underlying239 rfl
instance : Zc Tryz.prog 239 [(.nilFunc)] := Zc.mk' (z := .nilFunc) (by kernel_rfl) rfl
instance : ElT Tryz.prog 239 1 8 := ElT.mk' (z := .nilFunc) (by kernel_rfl) rfl (by decide)
instance : Sz Tryz.prog 240 1 := Sz.mk' (by kernel_rfl)
instance : One Tryz.prog 240 := One.mk' Tryz.underlying240 rfl
instance : Zc Tryz.prog 240 [(.map none)] := Zc.mk' (z := .map none) (by kernel_rfl) rfl
instance : ElT Tryz.prog 240 1 8 := ElT.mk' (z := .map none) (by kernel_rfl) rfl (by decide)
instance : Sz Tryz.prog 241 1 := Sz.mk' (by kernel_rfl)
instance : One Tryz.prog 241 := One.mk' Tryz.underlying241 rfl
instance : Zc Tryz.prog 241 [(.nilFunc)] := Zc.mk' (z := .nilFunc) (by kernel_rfl) rfl
instance : ElT Tryz.prog 241 1 8 := ElT.mk' (z := .nilFunc) (by kernel_rfl) rfl (by decide)
instance : Sz Tryz.prog 242 1 := Sz.mk' (by kernel_rfl)
instance : SlT Tryz.prog 242 5 := ⟨Tryz.underlying242⟩
instance : One Tryz.prog 242 := One.mk' Tryz.underlying242 rfl
instance : Zc Tryz.prog 242 [(.slice none 0 0)] := Zc.mk' (z := .slice none 0 0) (by kernel_rfl) rfl
instance : ElT Tryz.prog 242 1 24 := ElT.mk' (z := .slice none 0 0) (by kernel_rfl) rfl (by decide)
instance : Sz Tryz.prog 243 1 := Sz.mk' (by kernel_rfl)
instance : Ag Tryz.prog 243 := Ag.mk' Tryz.underlying243 rfl
instance : Fld Tryz.prog 243 0 0 242 := Fld.mk' Tryz.underlying243 rfl
instance : Zc Tryz.prog 243 [(.slice none 0 0)] := Zc.mk' (z := .agg #[(.slice none 0 0)]) (by kernel_rfl) rfl
instance : StT Tryz.prog 243 [(0, 1)] [(.slice none 0 0)] := StT.mk' (z := .agg #[(.slice none 0 0)]) Tryz.underlying243 (by kernel_rfl) rfl (by kernel_rfl)
instance : ElT Tryz.prog 243 1 24 := ElT.mk' (z := .agg #[(.slice none 0 0)]) (by kernel_rfl) rfl (by decide)
instance : Sz Tryz.prog 244 1 := Sz.mk' (by kernel_rfl)
instance : Ag Tryz.prog 244 := Ag.mk' Tryz.underlying244 rfl
instance : Fld Tryz.prog 244 0 0 242 := Fld.mk' Tryz.underlying244 rfl
instance : Zc Tryz.prog 244 [(.slice none 0 0)] := Zc.mk' (z := .agg #[(.slice none 0 0)]) (by kernel_rfl) rfl
instance : StT Tryz.prog 244 [(0, 1)] [(.slice none 0 0)] := StT.mk' (z := .agg #[(.slice none 0 0)]) Tryz.underlying244 (by kernel_rfl) rfl (by kernel_rfl)
instance : ElT Tryz.prog 244 1 24 := ElT.mk' (z := .agg #[(.slice none 0 0)]) (by kernel_rfl) rfl (by decide)
instance : Sz Tryz.prog 245 1 := Sz.mk' (by kernel_rfl)
instance : One Tryz.prog 245 := One.mk' Tryz.underlying245 rfl
instance : Zc Tryz.prog 245 [(.nilFunc)] := Zc.mk' (z := .nilFunc) (by kernel_rfl) rfl
instance : ElT Tryz.prog 245 1 8 := ElT.mk' (z := .nilFunc) (by kernel_rfl) rfl (by decide)
instance : Sz Tryz.prog 246 1 := Sz.mk' (by kernel_rfl)
instance : One Tryz.prog 246 := One.mk' Tryz.underlying246 rfl
instance : Zc Tryz.prog 246 [(.nilFunc)] := Zc.mk' (z := .nilFunc) (by kernel_rfl) rfl
instance : ElT Tryz.prog 246 1 8 := ElT.mk' (z := .nilFunc) (by kernel_rfl) rfl (by decide)
instance : Sz Tryz.prog 247 1 := Sz.mk' (by kernel_rfl)
instance : One Tryz.prog 247 := One.mk' Tryz.underlying247 rfl
instance : Zc Tryz.prog 247 [(.nilFunc)] := Zc.mk' (z := .nilFunc) (by kernel_rfl) rfl
instance : ElT Tryz.prog 247 1 8 := ElT.mk' (z := .nilFunc) (by kernel_rfl) rfl (by decide)
instance : Sz Tryz.prog 248 1 := Sz.mk' (by kernel_rfl)
instance : PtrT Tryz.prog 248 244 := ⟨Tryz.underlying248⟩
instance : One Tryz.prog 248 := One.mk' Tryz.underlying248 rfl
instance : Zc Tryz.prog 248 [(.pointer none)] := Zc.mk' (z := .pointer none) (by kernel_rfl) rfl
instance : ElT Tryz.prog 248 1 8 := ElT.mk' (z := .pointer none) (by kernel_rfl) rfl (by decide)
instance : Sz Tryz.prog 249 1 := Sz.mk' (by kernel_rfl)
instance : One Tryz.prog 249 := One.mk' Tryz.underlying249 rfl
instance : Zc Tryz.prog 249 [(.nilFunc)] := Zc.mk' (z := .nilFunc) (by kernel_rfl) rfl
instance : ElT Tryz.prog 249 1 8 := ElT.mk' (z := .nilFunc) (by kernel_rfl) rfl (by decide)
instance : Sz Tryz.prog 250 1 := Sz.mk' (by kernel_rfl)
instance : One Tryz.prog 250 := One.mk' Tryz.underlying250 rfl
instance : Zc Tryz.prog 250 [(.nilFunc)] := Zc.mk' (z := .nilFunc) (by kernel_rfl) rfl
instance : ElT Tryz.prog 250 1 8 := ElT.mk' (z := .nilFunc) (by kernel_rfl) rfl (by decide)
instance : Sz Tryz.prog 252 1 := Sz.mk' (by kernel_rfl)
instance : One Tryz.prog 252 := One.mk' Tryz.underlying252 rfl
instance : Zc Tryz.prog 252 [(.nilFunc)] := Zc.mk' (z := .nilFunc) (by kernel_rfl) rfl
instance : ElT Tryz.prog 252 1 8 := ElT.mk' (z := .nilFunc) (by kernel_rfl) rfl (by decide)
instance : Sz Tryz.prog 253 1 := Sz.mk' (by kernel_rfl)
instance : One Tryz.prog 253 := One.mk' Tryz.underlying253 rfl
instance : Zc Tryz.prog 253 [(.nilFunc)] := Zc.mk' (z := .nilFunc) (by kernel_rfl) rfl
instance : ElT Tryz.prog 253 1 8 := ElT.mk' (z := .nilFunc) (by kernel_rfl) rfl (by decide)
instance : Sz Tryz.prog 254 2 := Sz.mk' (by kernel_rfl)
instance : Ag Tryz.prog 254 := Ag.mk' Tryz.underlying254 rfl
instance : EqS Tryz.prog 254 [.i64, .i64] := EqS.mk' Tryz.underlying254 (by kernel_rfl) (by kernel_rfl) (by kernel_rfl)
instance : Fld Tryz.prog 254 0 0 3 := Fld.mk' Tryz.underlying254 rfl
instance : Fld Tryz.prog 254 1 1 24 := Fld.mk' Tryz.underlying254 rfl
instance : Zc Tryz.prog 254 [(.int .i64 0), (.int .i64 0)] := Zc.mk' (z := .agg #[(.int .i64 0), (.int .i64 0)]) (by kernel_rfl) rfl
instance : StT Tryz.prog 254 [(0, 1), (1, 1)] [(.int .i64 0), (.int .i64 0)] := StT.mk' (z := .agg #[(.int .i64 0), (.int .i64 0)]) Tryz.underlying254 (by kernel_rfl) rfl (by kernel_rfl)
instance : ElT Tryz.prog 254 2 16 := ElT.mk' (z := .agg #[(.int .i64 0), (.int .i64 0)]) (by kernel_rfl) rfl (by decide)
instance : Sz Tryz.prog 255 2 := Sz.mk' (by kernel_rfl)
instance : Ag Tryz.prog 255 := Ag.mk' Tryz.underlying255 rfl
instance : EqS Tryz.prog 255 [.i64, .i64] := EqS.mk' Tryz.underlying255 (by kernel_rfl) (by kernel_rfl) (by kernel_rfl)
instance : Fld Tryz.prog 255 0 0 3 := Fld.mk' Tryz.underlying255 rfl
instance : Fld Tryz.prog 255 1 1 24 := Fld.mk' Tryz.underlying255 rfl
instance : Zc Tryz.prog 255 [(.int .i64 0), (.int .i64 0)] := Zc.mk' (z := .agg #[(.int .i64 0), (.int .i64 0)]) (by kernel_rfl) rfl
instance : StT Tryz.prog 255 [(0, 1), (1, 1)] [(.int .i64 0), (.int .i64 0)] := StT.mk' (z := .agg #[(.int .i64 0), (.int .i64 0)]) Tryz.underlying255 (by kernel_rfl) rfl (by kernel_rfl)
instance : ElT Tryz.prog 255 2 16 := ElT.mk' (z := .agg #[(.int .i64 0), (.int .i64 0)]) (by kernel_rfl) rfl (by decide)
instance : Sz Tryz.prog 256 3 := Sz.mk' (by kernel_rfl)
instance : Ag Tryz.prog 256 := Ag.mk' Tryz.underlying256 rfl
instance : Fld Tryz.prog 256 0 0 255 := Fld.mk' Tryz.underlying256 rfl
instance : Fld Tryz.prog 256 1 2 9 := Fld.mk' Tryz.underlying256 rfl
instance : Zc Tryz.prog 256 [(.int .i64 0), (.int .i64 0), (.string ByteArray.empty)] := Zc.mk' (z := .agg #[(.int .i64 0), (.int .i64 0), (.string ByteArray.empty)]) (by kernel_rfl) rfl
instance : StT Tryz.prog 256 [(0, 2), (2, 1)] [(.int .i64 0), (.int .i64 0), (.string ByteArray.empty)] := StT.mk' (z := .agg #[(.int .i64 0), (.int .i64 0), (.string ByteArray.empty)]) Tryz.underlying256 (by kernel_rfl) rfl (by kernel_rfl)
instance : ElT Tryz.prog 256 3 32 := ElT.mk' (z := .agg #[(.int .i64 0), (.int .i64 0), (.string ByteArray.empty)]) (by kernel_rfl) rfl (by decide)
instance : Sz Tryz.prog 257 3 := Sz.mk' (by kernel_rfl)
instance : Ag Tryz.prog 257 := Ag.mk' Tryz.underlying257 rfl
instance : Fld Tryz.prog 257 0 0 255 := Fld.mk' Tryz.underlying257 rfl
instance : Fld Tryz.prog 257 1 2 9 := Fld.mk' Tryz.underlying257 rfl
instance : Zc Tryz.prog 257 [(.int .i64 0), (.int .i64 0), (.string ByteArray.empty)] := Zc.mk' (z := .agg #[(.int .i64 0), (.int .i64 0), (.string ByteArray.empty)]) (by kernel_rfl) rfl
instance : StT Tryz.prog 257 [(0, 2), (2, 1)] [(.int .i64 0), (.int .i64 0), (.string ByteArray.empty)] := StT.mk' (z := .agg #[(.int .i64 0), (.int .i64 0), (.string ByteArray.empty)]) Tryz.underlying257 (by kernel_rfl) rfl (by kernel_rfl)
instance : ElT Tryz.prog 257 3 32 := ElT.mk' (z := .agg #[(.int .i64 0), (.int .i64 0), (.string ByteArray.empty)]) (by kernel_rfl) rfl (by decide)
instance : Sz Tryz.prog 258 1 := Sz.mk' (by kernel_rfl)
instance : One Tryz.prog 258 := One.mk' Tryz.underlying258 rfl
instance : Zc Tryz.prog 258 [(.nilFunc)] := Zc.mk' (z := .nilFunc) (by kernel_rfl) rfl
instance : ElT Tryz.prog 258 1 8 := ElT.mk' (z := .nilFunc) (by kernel_rfl) rfl (by decide)
instance : Sz Tryz.prog 259 1 := Sz.mk' (by kernel_rfl)
instance : One Tryz.prog 259 := One.mk' Tryz.underlying259 rfl
instance : Zc Tryz.prog 259 [(.nilFunc)] := Zc.mk' (z := .nilFunc) (by kernel_rfl) rfl
instance : ElT Tryz.prog 259 1 8 := ElT.mk' (z := .nilFunc) (by kernel_rfl) rfl (by decide)
instance : Sz Tryz.prog 260 1 := Sz.mk' (by kernel_rfl)
instance : One Tryz.prog 260 := One.mk' Tryz.underlying260 rfl
instance : Zc Tryz.prog 260 [(.nilFunc)] := Zc.mk' (z := .nilFunc) (by kernel_rfl) rfl
instance : ElT Tryz.prog 260 1 8 := ElT.mk' (z := .nilFunc) (by kernel_rfl) rfl (by decide)
instance : Sz Tryz.prog 261 1 := Sz.mk' (by kernel_rfl)
instance : One Tryz.prog 261 := One.mk' Tryz.underlying261 rfl
instance : Zc Tryz.prog 261 [(.nilFunc)] := Zc.mk' (z := .nilFunc) (by kernel_rfl) rfl
instance : ElT Tryz.prog 261 1 8 := ElT.mk' (z := .nilFunc) (by kernel_rfl) rfl (by decide)
instance : Sz Tryz.prog 262 1 := Sz.mk' (by kernel_rfl)
instance : One Tryz.prog 262 := One.mk' Tryz.underlying262 rfl
instance : Zc Tryz.prog 262 [(.nilFunc)] := Zc.mk' (z := .nilFunc) (by kernel_rfl) rfl
instance : ElT Tryz.prog 262 1 8 := ElT.mk' (z := .nilFunc) (by kernel_rfl) rfl (by decide)
instance : Sz Tryz.prog 263 4 := Sz.mk' (by kernel_rfl)
instance : ArrT Tryz.prog 263 4 3 := ⟨Tryz.underlying263⟩
instance : Ag Tryz.prog 263 := Ag.mk' Tryz.underlying263 rfl
instance : Zc Tryz.prog 263 [(.int .i64 0), (.int .i64 0), (.int .i64 0), (.int .i64 0)] := Zc.mk' (z := .agg #[(.int .i64 0), (.int .i64 0), (.int .i64 0), (.int .i64 0)]) (by kernel_rfl) rfl
instance : ElT Tryz.prog 263 4 32 := ElT.mk' (z := .agg #[(.int .i64 0), (.int .i64 0), (.int .i64 0), (.int .i64 0)]) (by kernel_rfl) rfl (by decide)
instance : Sz Tryz.prog 264 1 := Sz.mk' (by kernel_rfl)
instance : One Tryz.prog 264 := One.mk' Tryz.underlying264 rfl
instance : Zc Tryz.prog 264 [(.nilFunc)] := Zc.mk' (z := .nilFunc) (by kernel_rfl) rfl
instance : ElT Tryz.prog 264 1 8 := ElT.mk' (z := .nilFunc) (by kernel_rfl) rfl (by decide)
instance : Sz Tryz.prog 265 1 := Sz.mk' (by kernel_rfl)
instance : One Tryz.prog 265 := One.mk' Tryz.underlying265 rfl
instance : Zc Tryz.prog 265 [(.nilFunc)] := Zc.mk' (z := .nilFunc) (by kernel_rfl) rfl
instance : ElT Tryz.prog 265 1 8 := ElT.mk' (z := .nilFunc) (by kernel_rfl) rfl (by decide)
instance : Sz Tryz.prog 266 1 := Sz.mk' (by kernel_rfl)
instance : One Tryz.prog 266 := One.mk' Tryz.underlying266 rfl
instance : Zc Tryz.prog 266 [(.nilFunc)] := Zc.mk' (z := .nilFunc) (by kernel_rfl) rfl
instance : ElT Tryz.prog 266 1 8 := ElT.mk' (z := .nilFunc) (by kernel_rfl) rfl (by decide)
instance : Sz Tryz.prog 268 1 := Sz.mk' (by kernel_rfl)
instance : One Tryz.prog 268 := One.mk' Tryz.underlying268 rfl
instance : Zc Tryz.prog 268 [(.nilFunc)] := Zc.mk' (z := .nilFunc) (by kernel_rfl) rfl
instance : ElT Tryz.prog 268 1 8 := ElT.mk' (z := .nilFunc) (by kernel_rfl) rfl (by decide)
instance : Sz Tryz.prog 269 1 := Sz.mk' (by kernel_rfl)
instance : One Tryz.prog 269 := One.mk' Tryz.underlying269 rfl
instance : Zc Tryz.prog 269 [(.nilFunc)] := Zc.mk' (z := .nilFunc) (by kernel_rfl) rfl
instance : ElT Tryz.prog 269 1 8 := ElT.mk' (z := .nilFunc) (by kernel_rfl) rfl (by decide)
instance : Sz Tryz.prog 270 2 := Sz.mk' (by kernel_rfl)
instance : Ag Tryz.prog 270 := Ag.mk' Tryz.underlying270 rfl
instance : Fld Tryz.prog 270 0 0 9 := Fld.mk' Tryz.underlying270 rfl
instance : Fld Tryz.prog 270 1 1 9 := Fld.mk' Tryz.underlying270 rfl
instance : Zc Tryz.prog 270 [(.string ByteArray.empty), (.string ByteArray.empty)] := Zc.mk' (z := .agg #[(.string ByteArray.empty), (.string ByteArray.empty)]) (by kernel_rfl) rfl
instance : StT Tryz.prog 270 [(0, 1), (1, 1)] [(.string ByteArray.empty), (.string ByteArray.empty)] := StT.mk' (z := .agg #[(.string ByteArray.empty), (.string ByteArray.empty)]) Tryz.underlying270 (by kernel_rfl) rfl (by kernel_rfl)
instance : ElT Tryz.prog 270 2 32 := ElT.mk' (z := .agg #[(.string ByteArray.empty), (.string ByteArray.empty)]) (by kernel_rfl) rfl (by decide)
instance : Sz Tryz.prog 271 2 := Sz.mk' (by kernel_rfl)
instance : Ag Tryz.prog 271 := Ag.mk' Tryz.underlying271 rfl
instance : Fld Tryz.prog 271 0 0 9 := Fld.mk' Tryz.underlying271 rfl
instance : Fld Tryz.prog 271 1 1 9 := Fld.mk' Tryz.underlying271 rfl
instance : Zc Tryz.prog 271 [(.string ByteArray.empty), (.string ByteArray.empty)] := Zc.mk' (z := .agg #[(.string ByteArray.empty), (.string ByteArray.empty)]) (by kernel_rfl) rfl
instance : StT Tryz.prog 271 [(0, 1), (1, 1)] [(.string ByteArray.empty), (.string ByteArray.empty)] := StT.mk' (z := .agg #[(.string ByteArray.empty), (.string ByteArray.empty)]) Tryz.underlying271 (by kernel_rfl) rfl (by kernel_rfl)
instance : ElT Tryz.prog 271 2 32 := ElT.mk' (z := .agg #[(.string ByteArray.empty), (.string ByteArray.empty)]) (by kernel_rfl) rfl (by decide)
instance : Sz Tryz.prog 272 1 := Sz.mk' (by kernel_rfl)
instance : One Tryz.prog 272 := One.mk' Tryz.underlying272 rfl
instance : Zc Tryz.prog 272 [(.nilFunc)] := Zc.mk' (z := .nilFunc) (by kernel_rfl) rfl
instance : ElT Tryz.prog 272 1 8 := ElT.mk' (z := .nilFunc) (by kernel_rfl) rfl (by decide)
instance : Sz Tryz.prog 273 1 := Sz.mk' (by kernel_rfl)
instance : SlT Tryz.prog 273 49 := ⟨Tryz.underlying273⟩
instance : One Tryz.prog 273 := One.mk' Tryz.underlying273 rfl
instance : Zc Tryz.prog 273 [(.slice none 0 0)] := Zc.mk' (z := .slice none 0 0) (by kernel_rfl) rfl
instance : ElT Tryz.prog 273 1 24 := ElT.mk' (z := .slice none 0 0) (by kernel_rfl) rfl (by decide)
instance : Sz Tryz.prog 274 2 := Sz.mk' (by kernel_rfl)
instance : Ag Tryz.prog 274 := Ag.mk' Tryz.underlying274 rfl
instance : Fld Tryz.prog 274 0 0 93 := Fld.mk' Tryz.underlying274 rfl
instance : Fld Tryz.prog 274 1 1 273 := Fld.mk' Tryz.underlying274 rfl
instance : Zc Tryz.prog 274 [(.slice none 0 0), (.slice none 0 0)] := Zc.mk' (z := .agg #[(.slice none 0 0), (.slice none 0 0)]) (by kernel_rfl) rfl
instance : StT Tryz.prog 274 [(0, 1), (1, 1)] [(.slice none 0 0), (.slice none 0 0)] := StT.mk' (z := .agg #[(.slice none 0 0), (.slice none 0 0)]) Tryz.underlying274 (by kernel_rfl) rfl (by kernel_rfl)
instance : ElT Tryz.prog 274 2 48 := ElT.mk' (z := .agg #[(.slice none 0 0), (.slice none 0 0)]) (by kernel_rfl) rfl (by decide)
instance : Sz Tryz.prog 275 2 := Sz.mk' (by kernel_rfl)
instance : Ag Tryz.prog 275 := Ag.mk' Tryz.underlying275 rfl
instance : Fld Tryz.prog 275 0 0 93 := Fld.mk' Tryz.underlying275 rfl
instance : Fld Tryz.prog 275 1 1 273 := Fld.mk' Tryz.underlying275 rfl
instance : Zc Tryz.prog 275 [(.slice none 0 0), (.slice none 0 0)] := Zc.mk' (z := .agg #[(.slice none 0 0), (.slice none 0 0)]) (by kernel_rfl) rfl
instance : StT Tryz.prog 275 [(0, 1), (1, 1)] [(.slice none 0 0), (.slice none 0 0)] := StT.mk' (z := .agg #[(.slice none 0 0), (.slice none 0 0)]) Tryz.underlying275 (by kernel_rfl) rfl (by kernel_rfl)
instance : ElT Tryz.prog 275 2 48 := ElT.mk' (z := .agg #[(.slice none 0 0), (.slice none 0 0)]) (by kernel_rfl) rfl (by decide)
instance : Sz Tryz.prog 276 1 := Sz.mk' (by kernel_rfl)
instance : One Tryz.prog 276 := One.mk' Tryz.underlying276 rfl
instance : Zc Tryz.prog 276 [(.nilFunc)] := Zc.mk' (z := .nilFunc) (by kernel_rfl) rfl
instance : ElT Tryz.prog 276 1 8 := ElT.mk' (z := .nilFunc) (by kernel_rfl) rfl (by decide)
instance : Sz Tryz.prog 277 1 := Sz.mk' (by kernel_rfl)
instance : One Tryz.prog 277 := One.mk' Tryz.underlying277 rfl
instance : Zc Tryz.prog 277 [(.nilFunc)] := Zc.mk' (z := .nilFunc) (by kernel_rfl) rfl
instance : ElT Tryz.prog 277 1 8 := ElT.mk' (z := .nilFunc) (by kernel_rfl) rfl (by decide)
instance : Sz Tryz.prog 278 1 := Sz.mk' (by kernel_rfl)
instance : One Tryz.prog 278 := One.mk' Tryz.underlying278 rfl
instance : Zc Tryz.prog 278 [(.nilFunc)] := Zc.mk' (z := .nilFunc) (by kernel_rfl) rfl
instance : ElT Tryz.prog 278 1 8 := ElT.mk' (z := .nilFunc) (by kernel_rfl) rfl (by decide)
instance : Sz Tryz.prog 279 1 := Sz.mk' (by kernel_rfl)
instance : One Tryz.prog 279 := One.mk' Tryz.underlying279 rfl
instance : Zc Tryz.prog 279 [(.nilFunc)] := Zc.mk' (z := .nilFunc) (by kernel_rfl) rfl
instance : ElT Tryz.prog 279 1 8 := ElT.mk' (z := .nilFunc) (by kernel_rfl) rfl (by decide)
instance : Sz Tryz.prog 280 1 := Sz.mk' (by kernel_rfl)
instance : One Tryz.prog 280 := One.mk' Tryz.underlying280 rfl
instance : Zc Tryz.prog 280 [(.nilFunc)] := Zc.mk' (z := .nilFunc) (by kernel_rfl) rfl
instance : ElT Tryz.prog 280 1 8 := ElT.mk' (z := .nilFunc) (by kernel_rfl) rfl (by decide)
instance : Sz Tryz.prog 281 1 := Sz.mk' (by kernel_rfl)
instance : One Tryz.prog 281 := One.mk' Tryz.underlying281 rfl
instance : Zc Tryz.prog 281 [(.nilFunc)] := Zc.mk' (z := .nilFunc) (by kernel_rfl) rfl
instance : ElT Tryz.prog 281 1 8 := ElT.mk' (z := .nilFunc) (by kernel_rfl) rfl (by decide)
instance : Sz Tryz.prog 282 1 := Sz.mk' (by kernel_rfl)
instance : One Tryz.prog 282 := One.mk' Tryz.underlying282 rfl
instance : Zc Tryz.prog 282 [(.nilFunc)] := Zc.mk' (z := .nilFunc) (by kernel_rfl) rfl
instance : ElT Tryz.prog 282 1 8 := ElT.mk' (z := .nilFunc) (by kernel_rfl) rfl (by decide)
instance : Sz Tryz.prog 283 1 := Sz.mk' (by kernel_rfl)
instance : One Tryz.prog 283 := One.mk' Tryz.underlying283 rfl
instance : Zc Tryz.prog 283 [(.nilFunc)] := Zc.mk' (z := .nilFunc) (by kernel_rfl) rfl
instance : ElT Tryz.prog 283 1 8 := ElT.mk' (z := .nilFunc) (by kernel_rfl) rfl (by decide)
instance : Sz Tryz.prog 284 1 := Sz.mk' (by kernel_rfl)
instance : IntT Tryz.prog 284 .u64 := ⟨Tryz.underlying284⟩
instance : One Tryz.prog 284 := One.mk' Tryz.underlying284 rfl
instance : Zc Tryz.prog 284 [(.int .u64 0)] := Zc.mk' (z := .int .u64 0) (by kernel_rfl) rfl
instance : ElT Tryz.prog 284 1 8 := ElT.mk' (z := .int .u64 0) (by kernel_rfl) rfl (by decide)
instance : Sz Tryz.prog 285 1 := Sz.mk' (by kernel_rfl)
instance : One Tryz.prog 285 := One.mk' Tryz.underlying285 rfl
instance : Zc Tryz.prog 285 [(.nilFunc)] := Zc.mk' (z := .nilFunc) (by kernel_rfl) rfl
instance : ElT Tryz.prog 285 1 8 := ElT.mk' (z := .nilFunc) (by kernel_rfl) rfl (by decide)
instance : Sz Tryz.prog 286 1 := Sz.mk' (by kernel_rfl)
instance : One Tryz.prog 286 := One.mk' Tryz.underlying286 rfl
instance : Zc Tryz.prog 286 [(.nilFunc)] := Zc.mk' (z := .nilFunc) (by kernel_rfl) rfl
instance : ElT Tryz.prog 286 1 8 := ElT.mk' (z := .nilFunc) (by kernel_rfl) rfl (by decide)
instance : Sz Tryz.prog 287 1 := Sz.mk' (by kernel_rfl)
instance : One Tryz.prog 287 := One.mk' Tryz.underlying287 rfl
instance : Zc Tryz.prog 287 [(.nilFunc)] := Zc.mk' (z := .nilFunc) (by kernel_rfl) rfl
instance : ElT Tryz.prog 287 1 8 := ElT.mk' (z := .nilFunc) (by kernel_rfl) rfl (by decide)
instance : Sz Tryz.prog 288 1 := Sz.mk' (by kernel_rfl)
instance : One Tryz.prog 288 := One.mk' Tryz.underlying288 rfl
instance : Zc Tryz.prog 288 [(.nilFunc)] := Zc.mk' (z := .nilFunc) (by kernel_rfl) rfl
instance : ElT Tryz.prog 288 1 8 := ElT.mk' (z := .nilFunc) (by kernel_rfl) rfl (by decide)
instance : Sz Tryz.prog 289 1 := Sz.mk' (by kernel_rfl)
instance : One Tryz.prog 289 := One.mk' Tryz.underlying289 rfl
instance : Zc Tryz.prog 289 [(.nilFunc)] := Zc.mk' (z := .nilFunc) (by kernel_rfl) rfl
instance : ElT Tryz.prog 289 1 8 := ElT.mk' (z := .nilFunc) (by kernel_rfl) rfl (by decide)
instance : Sz Tryz.prog 291 1 := Sz.mk' (by kernel_rfl)
instance : One Tryz.prog 291 := One.mk' Tryz.underlying291 rfl
instance : Zc Tryz.prog 291 [(.nilFunc)] := Zc.mk' (z := .nilFunc) (by kernel_rfl) rfl
instance : ElT Tryz.prog 291 1 8 := ElT.mk' (z := .nilFunc) (by kernel_rfl) rfl (by decide)
instance : Sz Tryz.prog 292 1 := Sz.mk' (by kernel_rfl)
instance : One Tryz.prog 292 := One.mk' Tryz.underlying292 rfl
instance : Zc Tryz.prog 292 [(.nilFunc)] := Zc.mk' (z := .nilFunc) (by kernel_rfl) rfl
instance : ElT Tryz.prog 292 1 8 := ElT.mk' (z := .nilFunc) (by kernel_rfl) rfl (by decide)
instance : Sz Tryz.prog 293 1 := Sz.mk' (by kernel_rfl)
instance : One Tryz.prog 293 := One.mk' Tryz.underlying293 rfl
instance : Zc Tryz.prog 293 [(.nilFunc)] := Zc.mk' (z := .nilFunc) (by kernel_rfl) rfl
instance : ElT Tryz.prog 293 1 8 := ElT.mk' (z := .nilFunc) (by kernel_rfl) rfl (by decide)
instance : Sz Tryz.prog 294 1 := Sz.mk' (by kernel_rfl)
instance : One Tryz.prog 294 := One.mk' Tryz.underlying294 rfl
instance : Zc Tryz.prog 294 [(.nilFunc)] := Zc.mk' (z := .nilFunc) (by kernel_rfl) rfl
instance : ElT Tryz.prog 294 1 8 := ElT.mk' (z := .nilFunc) (by kernel_rfl) rfl (by decide)
instance : Sz Tryz.prog 295 1 := Sz.mk' (by kernel_rfl)
instance : One Tryz.prog 295 := One.mk' Tryz.underlying295 rfl
instance : Zc Tryz.prog 295 [(.nilFunc)] := Zc.mk' (z := .nilFunc) (by kernel_rfl) rfl
instance : ElT Tryz.prog 295 1 8 := ElT.mk' (z := .nilFunc) (by kernel_rfl) rfl (by decide)
instance : Sz Tryz.prog 296 1 := Sz.mk' (by kernel_rfl)
instance : One Tryz.prog 296 := One.mk' Tryz.underlying296 rfl
instance : Zc Tryz.prog 296 [(.nilFunc)] := Zc.mk' (z := .nilFunc) (by kernel_rfl) rfl
instance : ElT Tryz.prog 296 1 8 := ElT.mk' (z := .nilFunc) (by kernel_rfl) rfl (by decide)
instance : Sz Tryz.prog 297 1 := Sz.mk' (by kernel_rfl)
instance : One Tryz.prog 297 := One.mk' Tryz.underlying297 rfl
instance : Zc Tryz.prog 297 [(.nilFunc)] := Zc.mk' (z := .nilFunc) (by kernel_rfl) rfl
instance : ElT Tryz.prog 297 1 8 := ElT.mk' (z := .nilFunc) (by kernel_rfl) rfl (by decide)
instance : Sz Tryz.prog 298 1 := Sz.mk' (by kernel_rfl)
instance : One Tryz.prog 298 := One.mk' Tryz.underlying298 rfl
instance : Zc Tryz.prog 298 [(.nilFunc)] := Zc.mk' (z := .nilFunc) (by kernel_rfl) rfl
instance : ElT Tryz.prog 298 1 8 := ElT.mk' (z := .nilFunc) (by kernel_rfl) rfl (by decide)
instance : Sz Tryz.prog 299 1 := Sz.mk' (by kernel_rfl)
instance : One Tryz.prog 299 := One.mk' Tryz.underlying299 rfl
instance : Zc Tryz.prog 299 [(.nilFunc)] := Zc.mk' (z := .nilFunc) (by kernel_rfl) rfl
instance : ElT Tryz.prog 299 1 8 := ElT.mk' (z := .nilFunc) (by kernel_rfl) rfl (by decide)
instance : Sz Tryz.prog 300 1 := Sz.mk' (by kernel_rfl)
instance : One Tryz.prog 300 := One.mk' Tryz.underlying300 rfl
instance : Zc Tryz.prog 300 [(.nilFunc)] := Zc.mk' (z := .nilFunc) (by kernel_rfl) rfl
instance : ElT Tryz.prog 300 1 8 := ElT.mk' (z := .nilFunc) (by kernel_rfl) rfl (by decide)
instance : Sz Tryz.prog 302 1 := Sz.mk' (by kernel_rfl)
instance : One Tryz.prog 302 := One.mk' Tryz.underlying302 rfl
instance : Zc Tryz.prog 302 [(.nilFunc)] := Zc.mk' (z := .nilFunc) (by kernel_rfl) rfl
instance : ElT Tryz.prog 302 1 8 := ElT.mk' (z := .nilFunc) (by kernel_rfl) rfl (by decide)
instance : Sz Tryz.prog 303 1 := Sz.mk' (by kernel_rfl)
instance : One Tryz.prog 303 := One.mk' Tryz.underlying303 rfl
instance : Zc Tryz.prog 303 [(.nilFunc)] := Zc.mk' (z := .nilFunc) (by kernel_rfl) rfl
instance : ElT Tryz.prog 303 1 8 := ElT.mk' (z := .nilFunc) (by kernel_rfl) rfl (by decide)
instance : Sz Tryz.prog 304 1 := Sz.mk' (by kernel_rfl)
instance : One Tryz.prog 304 := One.mk' Tryz.underlying304 rfl
instance : Zc Tryz.prog 304 [(.nilFunc)] := Zc.mk' (z := .nilFunc) (by kernel_rfl) rfl
instance : ElT Tryz.prog 304 1 8 := ElT.mk' (z := .nilFunc) (by kernel_rfl) rfl (by decide)
instance : Sz Tryz.prog 305 1 := Sz.mk' (by kernel_rfl)
instance : One Tryz.prog 305 := One.mk' Tryz.underlying305 rfl
instance : Zc Tryz.prog 305 [(.nilFunc)] := Zc.mk' (z := .nilFunc) (by kernel_rfl) rfl
instance : ElT Tryz.prog 305 1 8 := ElT.mk' (z := .nilFunc) (by kernel_rfl) rfl (by decide)
instance : Sz Tryz.prog 307 1 := Sz.mk' (by kernel_rfl)
instance : One Tryz.prog 307 := One.mk' Tryz.underlying307 rfl
instance : Zc Tryz.prog 307 [(.nilFunc)] := Zc.mk' (z := .nilFunc) (by kernel_rfl) rfl
instance : ElT Tryz.prog 307 1 8 := ElT.mk' (z := .nilFunc) (by kernel_rfl) rfl (by decide)
instance : Sz Tryz.prog 308 1 := Sz.mk' (by kernel_rfl)
instance : One Tryz.prog 308 := One.mk' Tryz.underlying308 rfl
instance : Zc Tryz.prog 308 [(.nilFunc)] := Zc.mk' (z := .nilFunc) (by kernel_rfl) rfl
instance : ElT Tryz.prog 308 1 8 := ElT.mk' (z := .nilFunc) (by kernel_rfl) rfl (by decide)
instance : Sz Tryz.prog 309 1 := Sz.mk' (by kernel_rfl)
instance : PtrT Tryz.prog 309 255 := ⟨Tryz.underlying309⟩
instance : One Tryz.prog 309 := One.mk' Tryz.underlying309 rfl
instance : Zc Tryz.prog 309 [(.pointer none)] := Zc.mk' (z := .pointer none) (by kernel_rfl) rfl
instance : ElT Tryz.prog 309 1 8 := ElT.mk' (z := .pointer none) (by kernel_rfl) rfl (by decide)
instance : Sz Tryz.prog 310 1 := Sz.mk' (by kernel_rfl)
instance : One Tryz.prog 310 := One.mk' Tryz.underlying310 rfl
instance : Zc Tryz.prog 310 [(.nilFunc)] := Zc.mk' (z := .nilFunc) (by kernel_rfl) rfl
instance : ElT Tryz.prog 310 1 8 := ElT.mk' (z := .nilFunc) (by kernel_rfl) rfl (by decide)
instance : Sz Tryz.prog 311 1 := Sz.mk' (by kernel_rfl)
instance : One Tryz.prog 311 := One.mk' Tryz.underlying311 rfl
instance : Zc Tryz.prog 311 [(.nilFunc)] := Zc.mk' (z := .nilFunc) (by kernel_rfl) rfl
instance : ElT Tryz.prog 311 1 8 := ElT.mk' (z := .nilFunc) (by kernel_rfl) rfl (by decide)
instance : Sz Tryz.prog 313 1 := Sz.mk' (by kernel_rfl)
instance : One Tryz.prog 313 := One.mk' Tryz.underlying313 rfl
instance : Zc Tryz.prog 313 [(.nilFunc)] := Zc.mk' (z := .nilFunc) (by kernel_rfl) rfl
instance : ElT Tryz.prog 313 1 8 := ElT.mk' (z := .nilFunc) (by kernel_rfl) rfl (by decide)
instance : Sz Tryz.prog 314 1 := Sz.mk' (by kernel_rfl)
instance : PtrT Tryz.prog 314 316 := ⟨Tryz.underlying314⟩
instance : One Tryz.prog 314 := One.mk' Tryz.underlying314 rfl
instance : Zc Tryz.prog 314 [(.pointer none)] := Zc.mk' (z := .pointer none) (by kernel_rfl) rfl
instance : ElT Tryz.prog 314 1 8 := ElT.mk' (z := .pointer none) (by kernel_rfl) rfl (by decide)
instance : Sz Tryz.prog 315 2 := Sz.mk' (by kernel_rfl)
instance : Ag Tryz.prog 315 := Ag.mk' Tryz.underlying315 rfl
instance : Fld Tryz.prog 315 0 0 314 := Fld.mk' Tryz.underlying315 rfl
instance : Fld Tryz.prog 315 1 1 242 := Fld.mk' Tryz.underlying315 rfl
instance : Zc Tryz.prog 315 [(.pointer none), (.slice none 0 0)] := Zc.mk' (z := .agg #[(.pointer none), (.slice none 0 0)]) (by kernel_rfl) rfl
instance : StT Tryz.prog 315 [(0, 1), (1, 1)] [(.pointer none), (.slice none 0 0)] := StT.mk' (z := .agg #[(.pointer none), (.slice none 0 0)]) Tryz.underlying315 (by kernel_rfl) rfl (by kernel_rfl)
instance : ElT Tryz.prog 315 2 32 := ElT.mk' (z := .agg #[(.pointer none), (.slice none 0 0)]) (by kernel_rfl) rfl (by decide)
instance : Sz Tryz.prog 316 2 := Sz.mk' (by kernel_rfl)
instance : Ag Tryz.prog 316 := Ag.mk' Tryz.underlying316 rfl
instance : Fld Tryz.prog 316 0 0 314 := Fld.mk' Tryz.underlying316 rfl
instance : Fld Tryz.prog 316 1 1 242 := Fld.mk' Tryz.underlying316 rfl
instance : Zc Tryz.prog 316 [(.pointer none), (.slice none 0 0)] := Zc.mk' (z := .agg #[(.pointer none), (.slice none 0 0)]) (by kernel_rfl) rfl
instance : StT Tryz.prog 316 [(0, 1), (1, 1)] [(.pointer none), (.slice none 0 0)] := StT.mk' (z := .agg #[(.pointer none), (.slice none 0 0)]) Tryz.underlying316 (by kernel_rfl) rfl (by kernel_rfl)
instance : ElT Tryz.prog 316 2 32 := ElT.mk' (z := .agg #[(.pointer none), (.slice none 0 0)]) (by kernel_rfl) rfl (by decide)
instance : Sz Tryz.prog 317 1 := Sz.mk' (by kernel_rfl)
instance : One Tryz.prog 317 := One.mk' Tryz.underlying317 rfl
instance : Zc Tryz.prog 317 [(.nilFunc)] := Zc.mk' (z := .nilFunc) (by kernel_rfl) rfl
instance : ElT Tryz.prog 317 1 8 := ElT.mk' (z := .nilFunc) (by kernel_rfl) rfl (by decide)
instance : Sz Tryz.prog 318 1 := Sz.mk' (by kernel_rfl)
instance : One Tryz.prog 318 := One.mk' Tryz.underlying318 rfl
instance : Zc Tryz.prog 318 [(.nilIface)] := Zc.mk' (z := .nilIface) (by kernel_rfl) rfl
instance : ElT Tryz.prog 318 1 16 := ElT.mk' (z := .nilIface) (by kernel_rfl) rfl (by decide)
instance : Sz Tryz.prog 319 1 := Sz.mk' (by kernel_rfl)
instance : One Tryz.prog 319 := One.mk' Tryz.underlying319 rfl
instance : Zc Tryz.prog 319 [(.nilIface)] := Zc.mk' (z := .nilIface) (by kernel_rfl) rfl
instance : ElT Tryz.prog 319 1 16 := ElT.mk' (z := .nilIface) (by kernel_rfl) rfl (by decide)
instance : Sz Tryz.prog 321 1 := Sz.mk' (by kernel_rfl)
instance : One Tryz.prog 321 := One.mk' Tryz.underlying321 rfl
instance : Zc Tryz.prog 321 [(.nilFunc)] := Zc.mk' (z := .nilFunc) (by kernel_rfl) rfl
instance : ElT Tryz.prog 321 1 8 := ElT.mk' (z := .nilFunc) (by kernel_rfl) rfl (by decide)
instance : Sz Tryz.prog 322 1 := Sz.mk' (by kernel_rfl)
instance : One Tryz.prog 322 := One.mk' Tryz.underlying322 rfl
instance : Zc Tryz.prog 322 [(.nilFunc)] := Zc.mk' (z := .nilFunc) (by kernel_rfl) rfl
instance : ElT Tryz.prog 322 1 8 := ElT.mk' (z := .nilFunc) (by kernel_rfl) rfl (by decide)
instance : Sz Tryz.prog 323 1 := Sz.mk' (by kernel_rfl)
instance : One Tryz.prog 323 := One.mk' Tryz.underlying323 rfl
instance : Zc Tryz.prog 323 [(.nilFunc)] := Zc.mk' (z := .nilFunc) (by kernel_rfl) rfl
instance : ElT Tryz.prog 323 1 8 := ElT.mk' (z := .nilFunc) (by kernel_rfl) rfl (by decide)
instance : Sz Tryz.prog 324 1 := Sz.mk' (by kernel_rfl)
instance : One Tryz.prog 324 := One.mk' Tryz.underlying324 rfl
instance : Zc Tryz.prog 324 [(.nilFunc)] := Zc.mk' (z := .nilFunc) (by kernel_rfl) rfl
instance : ElT Tryz.prog 324 1 8 := ElT.mk' (z := .nilFunc) (by kernel_rfl) rfl (by decide)
instance : Sz Tryz.prog 325 1 := Sz.mk' (by kernel_rfl)
instance : IntT Tryz.prog 325 .i64 := ⟨Tryz.underlying325⟩
instance : One Tryz.prog 325 := One.mk' Tryz.underlying325 rfl
instance : Zc Tryz.prog 325 [(.int .i64 0)] := Zc.mk' (z := .int .i64 0) (by kernel_rfl) rfl
instance : ElT Tryz.prog 325 1 8 := ElT.mk' (z := .int .i64 0) (by kernel_rfl) rfl (by decide)
instance : Sz Tryz.prog 327 1 := Sz.mk' (by kernel_rfl)
instance : One Tryz.prog 327 := One.mk' Tryz.underlying327 rfl
instance : Zc Tryz.prog 327 [(.nilFunc)] := Zc.mk' (z := .nilFunc) (by kernel_rfl) rfl
instance : ElT Tryz.prog 327 1 8 := ElT.mk' (z := .nilFunc) (by kernel_rfl) rfl (by decide)
instance : Sz Tryz.prog 328 1 := Sz.mk' (by kernel_rfl)
instance : One Tryz.prog 328 := One.mk' Tryz.underlying328 rfl
instance : Zc Tryz.prog 328 [(.nilFunc)] := Zc.mk' (z := .nilFunc) (by kernel_rfl) rfl
instance : ElT Tryz.prog 328 1 8 := ElT.mk' (z := .nilFunc) (by kernel_rfl) rfl (by decide)
instance : Sz Tryz.prog 329 1 := Sz.mk' (by kernel_rfl)
instance : One Tryz.prog 329 := One.mk' Tryz.underlying329 rfl
instance : Zc Tryz.prog 329 [(.nilFunc)] := Zc.mk' (z := .nilFunc) (by kernel_rfl) rfl
instance : ElT Tryz.prog 329 1 8 := ElT.mk' (z := .nilFunc) (by kernel_rfl) rfl (by decide)
instance : Sz Tryz.prog 330 1 := Sz.mk' (by kernel_rfl)
instance : One Tryz.prog 330 := One.mk' Tryz.underlying330 rfl
instance : Zc Tryz.prog 330 [(.nilFunc)] := Zc.mk' (z := .nilFunc) (by kernel_rfl) rfl
instance : ElT Tryz.prog 330 1 8 := ElT.mk' (z := .nilFunc) (by kernel_rfl) rfl (by decide)
instance : Sz Tryz.prog 331 1 := Sz.mk' (by kernel_rfl)
instance : One Tryz.prog 331 := One.mk' Tryz.underlying331 rfl
instance : Zc Tryz.prog 331 [(.nilFunc)] := Zc.mk' (z := .nilFunc) (by kernel_rfl) rfl
instance : ElT Tryz.prog 331 1 8 := ElT.mk' (z := .nilFunc) (by kernel_rfl) rfl (by decide)
instance : Sz Tryz.prog 332 1 := Sz.mk' (by kernel_rfl)
instance : One Tryz.prog 332 := One.mk' Tryz.underlying332 rfl
instance : Zc Tryz.prog 332 [(.nilFunc)] := Zc.mk' (z := .nilFunc) (by kernel_rfl) rfl
instance : ElT Tryz.prog 332 1 8 := ElT.mk' (z := .nilFunc) (by kernel_rfl) rfl (by decide)
instance : Sz Tryz.prog 333 1 := Sz.mk' (by kernel_rfl)
instance : One Tryz.prog 333 := One.mk' Tryz.underlying333 rfl
instance : Zc Tryz.prog 333 [(.nilFunc)] := Zc.mk' (z := .nilFunc) (by kernel_rfl) rfl
instance : ElT Tryz.prog 333 1 8 := ElT.mk' (z := .nilFunc) (by kernel_rfl) rfl (by decide)
instance : Sz Tryz.prog 334 1 := Sz.mk' (by kernel_rfl)
instance : One Tryz.prog 334 := One.mk' Tryz.underlying334 rfl
instance : Zc Tryz.prog 334 [(.nilFunc)] := Zc.mk' (z := .nilFunc) (by kernel_rfl) rfl
instance : ElT Tryz.prog 334 1 8 := ElT.mk' (z := .nilFunc) (by kernel_rfl) rfl (by decide)
instance : Sz Tryz.prog 335 1 := Sz.mk' (by kernel_rfl)
instance : One Tryz.prog 335 := One.mk' Tryz.underlying335 rfl
instance : Zc Tryz.prog 335 [(.nilFunc)] := Zc.mk' (z := .nilFunc) (by kernel_rfl) rfl
instance : ElT Tryz.prog 335 1 8 := ElT.mk' (z := .nilFunc) (by kernel_rfl) rfl (by decide)
instance : Sz Tryz.prog 336 1 := Sz.mk' (by kernel_rfl)
instance : SlT Tryz.prog 336 28 := ⟨Tryz.underlying336⟩
instance : One Tryz.prog 336 := One.mk' Tryz.underlying336 rfl
instance : Zc Tryz.prog 336 [(.slice none 0 0)] := Zc.mk' (z := .slice none 0 0) (by kernel_rfl) rfl
instance : ElT Tryz.prog 336 1 24 := ElT.mk' (z := .slice none 0 0) (by kernel_rfl) rfl (by decide)
instance : Sz Tryz.prog 337 1 := Sz.mk' (by kernel_rfl)
instance : One Tryz.prog 337 := One.mk' Tryz.underlying337 rfl
instance : Zc Tryz.prog 337 [(.nilFunc)] := Zc.mk' (z := .nilFunc) (by kernel_rfl) rfl
instance : ElT Tryz.prog 337 1 8 := ElT.mk' (z := .nilFunc) (by kernel_rfl) rfl (by decide)
instance : Sz Tryz.prog 338 1 := Sz.mk' (by kernel_rfl)
instance : SlT Tryz.prog 338 27 := ⟨Tryz.underlying338⟩
instance : One Tryz.prog 338 := One.mk' Tryz.underlying338 rfl
instance : Zc Tryz.prog 338 [(.slice none 0 0)] := Zc.mk' (z := .slice none 0 0) (by kernel_rfl) rfl
instance : ElT Tryz.prog 338 1 24 := ElT.mk' (z := .slice none 0 0) (by kernel_rfl) rfl (by decide)
instance : Sz Tryz.prog 339 1 := Sz.mk' (by kernel_rfl)
instance : One Tryz.prog 339 := One.mk' Tryz.underlying339 rfl
instance : Zc Tryz.prog 339 [(.nilFunc)] := Zc.mk' (z := .nilFunc) (by kernel_rfl) rfl
instance : ElT Tryz.prog 339 1 8 := ElT.mk' (z := .nilFunc) (by kernel_rfl) rfl (by decide)
instance : Sz Tryz.prog 340 1 := Sz.mk' (by kernel_rfl)
instance : One Tryz.prog 340 := One.mk' Tryz.underlying340 rfl
instance : Zc Tryz.prog 340 [(.nilFunc)] := Zc.mk' (z := .nilFunc) (by kernel_rfl) rfl
instance : ElT Tryz.prog 340 1 8 := ElT.mk' (z := .nilFunc) (by kernel_rfl) rfl (by decide)
instance : Sz Tryz.prog 341 1 := Sz.mk' (by kernel_rfl)
instance : One Tryz.prog 341 := One.mk' Tryz.underlying341 rfl
instance : Zc Tryz.prog 341 [(.nilFunc)] := Zc.mk' (z := .nilFunc) (by kernel_rfl) rfl
instance : ElT Tryz.prog 341 1 8 := ElT.mk' (z := .nilFunc) (by kernel_rfl) rfl (by decide)
instance : Sz Tryz.prog 342 1 := Sz.mk' (by kernel_rfl)
instance : One Tryz.prog 342 := One.mk' Tryz.underlying342 rfl
instance : Zc Tryz.prog 342 [(.nilFunc)] := Zc.mk' (z := .nilFunc) (by kernel_rfl) rfl
instance : ElT Tryz.prog 342 1 8 := ElT.mk' (z := .nilFunc) (by kernel_rfl) rfl (by decide)
instance : Sz Tryz.prog 343 1 := Sz.mk' (by kernel_rfl)
instance : One Tryz.prog 343 := One.mk' Tryz.underlying343 rfl
instance : Zc Tryz.prog 343 [(.nilFunc)] := Zc.mk' (z := .nilFunc) (by kernel_rfl) rfl
instance : ElT Tryz.prog 343 1 8 := ElT.mk' (z := .nilFunc) (by kernel_rfl) rfl (by decide)
instance : Sz Tryz.prog 344 1 := Sz.mk' (by kernel_rfl)
instance : One Tryz.prog 344 := One.mk' Tryz.underlying344 rfl
instance : Zc Tryz.prog 344 [(.nilFunc)] := Zc.mk' (z := .nilFunc) (by kernel_rfl) rfl
instance : ElT Tryz.prog 344 1 8 := ElT.mk' (z := .nilFunc) (by kernel_rfl) rfl (by decide)
instance : Sz Tryz.prog 345 1 := Sz.mk' (by kernel_rfl)
instance : One Tryz.prog 345 := One.mk' Tryz.underlying345 rfl
instance : Zc Tryz.prog 345 [(.nilFunc)] := Zc.mk' (z := .nilFunc) (by kernel_rfl) rfl
instance : ElT Tryz.prog 345 1 8 := ElT.mk' (z := .nilFunc) (by kernel_rfl) rfl (by decide)
instance : Sz Tryz.prog 346 1 := Sz.mk' (by kernel_rfl)
instance : One Tryz.prog 346 := One.mk' Tryz.underlying346 rfl
instance : Zc Tryz.prog 346 [(.nilFunc)] := Zc.mk' (z := .nilFunc) (by kernel_rfl) rfl
instance : ElT Tryz.prog 346 1 8 := ElT.mk' (z := .nilFunc) (by kernel_rfl) rfl (by decide)
instance : Sz Tryz.prog 347 1 := Sz.mk' (by kernel_rfl)
instance : One Tryz.prog 347 := One.mk' Tryz.underlying347 rfl
instance : Zc Tryz.prog 347 [(.nilFunc)] := Zc.mk' (z := .nilFunc) (by kernel_rfl) rfl
instance : ElT Tryz.prog 347 1 8 := ElT.mk' (z := .nilFunc) (by kernel_rfl) rfl (by decide)
instance : Sz Tryz.prog 348 1 := Sz.mk' (by kernel_rfl)
instance : One Tryz.prog 348 := One.mk' Tryz.underlying348 rfl
instance : Zc Tryz.prog 348 [(.nilFunc)] := Zc.mk' (z := .nilFunc) (by kernel_rfl) rfl
instance : ElT Tryz.prog 348 1 8 := ElT.mk' (z := .nilFunc) (by kernel_rfl) rfl (by decide)
instance : Sz Tryz.prog 349 1 := Sz.mk' (by kernel_rfl)
instance : One Tryz.prog 349 := One.mk' Tryz.underlying349 rfl
instance : Zc Tryz.prog 349 [(.nilFunc)] := Zc.mk' (z := .nilFunc) (by kernel_rfl) rfl
instance : ElT Tryz.prog 349 1 8 := ElT.mk' (z := .nilFunc) (by kernel_rfl) rfl (by decide)
instance : Sz Tryz.prog 350 1 := Sz.mk' (by kernel_rfl)
instance : One Tryz.prog 350 := One.mk' Tryz.underlying350 rfl
instance : Zc Tryz.prog 350 [(.nilFunc)] := Zc.mk' (z := .nilFunc) (by kernel_rfl) rfl
instance : ElT Tryz.prog 350 1 8 := ElT.mk' (z := .nilFunc) (by kernel_rfl) rfl (by decide)
instance : Sz Tryz.prog 351 24 := Sz.mk' (by kernel_rfl)
instance : ArrT Tryz.prog 351 24 5 := ⟨Tryz.underlying351⟩
instance : Ag Tryz.prog 351 := Ag.mk' Tryz.underlying351 rfl
instance : Zc Tryz.prog 351 [(.int .u8 0), (.int .u8 0), (.int .u8 0), (.int .u8 0), (.int .u8 0), (.int .u8 0), (.int .u8 0), (.int .u8 0), (.int .u8 0), (.int .u8 0), (.int .u8 0), (.int .u8 0), (.int .u8 0), (.int .u8 0), (.int .u8 0), (.int .u8 0), (.int .u8 0), (.int .u8 0), (.int .u8 0), (.int .u8 0), (.int .u8 0), (.int .u8 0), (.int .u8 0), (.int .u8 0)] := Zc.mk' (z := .agg #[(.int .u8 0), (.int .u8 0), (.int .u8 0), (.int .u8 0), (.int .u8 0), (.int .u8 0), (.int .u8 0), (.int .u8 0), (.int .u8 0), (.int .u8 0), (.int .u8 0), (.int .u8 0), (.int .u8 0), (.int .u8 0), (.int .u8 0), (.int .u8 0), (.int .u8 0), (.int .u8 0), (.int .u8 0), (.int .u8 0), (.int .u8 0), (.int .u8 0), (.int .u8 0), (.int .u8 0)]) (by kernel_rfl) rfl
instance : ElT Tryz.prog 351 24 24 := ElT.mk' (z := .agg #[(.int .u8 0), (.int .u8 0), (.int .u8 0), (.int .u8 0), (.int .u8 0), (.int .u8 0), (.int .u8 0), (.int .u8 0), (.int .u8 0), (.int .u8 0), (.int .u8 0), (.int .u8 0), (.int .u8 0), (.int .u8 0), (.int .u8 0), (.int .u8 0), (.int .u8 0), (.int .u8 0), (.int .u8 0), (.int .u8 0), (.int .u8 0), (.int .u8 0), (.int .u8 0), (.int .u8 0)]) (by kernel_rfl) rfl (by decide)
instance : Sz Tryz.prog 352 1 := Sz.mk' (by kernel_rfl)
instance : One Tryz.prog 352 := One.mk' Tryz.underlying352 rfl
instance : Zc Tryz.prog 352 [(.nilFunc)] := Zc.mk' (z := .nilFunc) (by kernel_rfl) rfl
instance : ElT Tryz.prog 352 1 8 := ElT.mk' (z := .nilFunc) (by kernel_rfl) rfl (by decide)
instance : Sz Tryz.prog 354 1 := Sz.mk' (by kernel_rfl)
instance : One Tryz.prog 354 := One.mk' Tryz.underlying354 rfl
instance : Zc Tryz.prog 354 [(.nilFunc)] := Zc.mk' (z := .nilFunc) (by kernel_rfl) rfl
instance : ElT Tryz.prog 354 1 8 := ElT.mk' (z := .nilFunc) (by kernel_rfl) rfl (by decide)
instance : Sz Tryz.prog 356 1 := Sz.mk' (by kernel_rfl)
instance : One Tryz.prog 356 := One.mk' Tryz.underlying356 rfl
instance : Zc Tryz.prog 356 [(.nilFunc)] := Zc.mk' (z := .nilFunc) (by kernel_rfl) rfl
instance : ElT Tryz.prog 356 1 8 := ElT.mk' (z := .nilFunc) (by kernel_rfl) rfl (by decide)
instance : Sz Tryz.prog 358 1 := Sz.mk' (by kernel_rfl)
instance : One Tryz.prog 358 := One.mk' Tryz.underlying358 rfl
instance : Zc Tryz.prog 358 [(.nilFunc)] := Zc.mk' (z := .nilFunc) (by kernel_rfl) rfl
instance : ElT Tryz.prog 358 1 8 := ElT.mk' (z := .nilFunc) (by kernel_rfl) rfl (by decide)
instance : Sz Tryz.prog 359 1 := Sz.mk' (by kernel_rfl)
instance : PtrT Tryz.prog 359 5 := ⟨Tryz.underlying359⟩
instance : One Tryz.prog 359 := One.mk' Tryz.underlying359 rfl
instance : Zc Tryz.prog 359 [(.pointer none)] := Zc.mk' (z := .pointer none) (by kernel_rfl) rfl
instance : ElT Tryz.prog 359 1 8 := ElT.mk' (z := .pointer none) (by kernel_rfl) rfl (by decide)
instance : Sz Tryz.prog 360 1 := Sz.mk' (by kernel_rfl)
instance : One Tryz.prog 360 := One.mk' Tryz.underlying360 rfl
instance : Zc Tryz.prog 360 [(.nilFunc)] := Zc.mk' (z := .nilFunc) (by kernel_rfl) rfl
instance : ElT Tryz.prog 360 1 8 := ElT.mk' (z := .nilFunc) (by kernel_rfl) rfl (by decide)
instance : Sz Tryz.prog 361 256 := Sz.mk' (by kernel_rfl)
instance : ArrT Tryz.prog 361 256 4 := ⟨Tryz.underlying361⟩
instance : Ag Tryz.prog 361 := Ag.mk' Tryz.underlying361 rfl
instance : Sz Tryz.prog 362 256 := Sz.mk' (by kernel_rfl)
instance : ArrT Tryz.prog 362 256 4 := ⟨Tryz.underlying362⟩
instance : Ag Tryz.prog 362 := Ag.mk' Tryz.underlying362 rfl
instance : Sz Tryz.prog 364 1 := Sz.mk' (by kernel_rfl)
instance : One Tryz.prog 364 := One.mk' Tryz.underlying364 rfl
instance : Zc Tryz.prog 364 [(.nilFunc)] := Zc.mk' (z := .nilFunc) (by kernel_rfl) rfl
instance : ElT Tryz.prog 364 1 8 := ElT.mk' (z := .nilFunc) (by kernel_rfl) rfl (by decide)
instance : Sz Tryz.prog 365 1 := Sz.mk' (by kernel_rfl)
instance : One Tryz.prog 365 := One.mk' Tryz.underlying365 rfl
instance : Zc Tryz.prog 365 [(.nilFunc)] := Zc.mk' (z := .nilFunc) (by kernel_rfl) rfl
instance : ElT Tryz.prog 365 1 8 := ElT.mk' (z := .nilFunc) (by kernel_rfl) rfl (by decide)
instance : Sz Tryz.prog 366 1 := Sz.mk' (by kernel_rfl)
instance : PtrT Tryz.prog 366 362 := ⟨Tryz.underlying366⟩
instance : One Tryz.prog 366 := One.mk' Tryz.underlying366 rfl
instance : Zc Tryz.prog 366 [(.pointer none)] := Zc.mk' (z := .pointer none) (by kernel_rfl) rfl
instance : ElT Tryz.prog 366 1 8 := ElT.mk' (z := .pointer none) (by kernel_rfl) rfl (by decide)
instance : Sz Tryz.prog 367 1 := Sz.mk' (by kernel_rfl)
instance : IntT Tryz.prog 367 .u64 := ⟨Tryz.underlying367⟩
instance : One Tryz.prog 367 := One.mk' Tryz.underlying367 rfl
instance : Zc Tryz.prog 367 [(.int .u64 0)] := Zc.mk' (z := .int .u64 0) (by kernel_rfl) rfl
instance : ElT Tryz.prog 367 1 8 := ElT.mk' (z := .int .u64 0) (by kernel_rfl) rfl (by decide)
instance : Sz Tryz.prog 368 1 := Sz.mk' (by kernel_rfl)
instance : One Tryz.prog 368 := One.mk' Tryz.underlying368 rfl
instance : Zc Tryz.prog 368 [(.nilFunc)] := Zc.mk' (z := .nilFunc) (by kernel_rfl) rfl
instance : ElT Tryz.prog 368 1 8 := ElT.mk' (z := .nilFunc) (by kernel_rfl) rfl (by decide)
instance : Sz Tryz.prog 369 1 := Sz.mk' (by kernel_rfl)
instance : One Tryz.prog 369 := One.mk' Tryz.underlying369 rfl
instance : Zc Tryz.prog 369 [(.nilFunc)] := Zc.mk' (z := .nilFunc) (by kernel_rfl) rfl
instance : ElT Tryz.prog 369 1 8 := ElT.mk' (z := .nilFunc) (by kernel_rfl) rfl (by decide)
instance : Sz Tryz.prog 370 1 := Sz.mk' (by kernel_rfl)
instance : PtrT Tryz.prog 370 3 := ⟨Tryz.underlying370⟩
instance : One Tryz.prog 370 := One.mk' Tryz.underlying370 rfl
instance : Zc Tryz.prog 370 [(.pointer none)] := Zc.mk' (z := .pointer none) (by kernel_rfl) rfl
instance : ElT Tryz.prog 370 1 8 := ElT.mk' (z := .pointer none) (by kernel_rfl) rfl (by decide)
instance : Sz Tryz.prog 371 1 := Sz.mk' (by kernel_rfl)
instance : One Tryz.prog 371 := One.mk' Tryz.underlying371 rfl
instance : Zc Tryz.prog 371 [(.nilFunc)] := Zc.mk' (z := .nilFunc) (by kernel_rfl) rfl
instance : ElT Tryz.prog 371 1 8 := ElT.mk' (z := .nilFunc) (by kernel_rfl) rfl (by decide)
instance : Sz Tryz.prog 372 1 := Sz.mk' (by kernel_rfl)
instance : One Tryz.prog 372 := One.mk' Tryz.underlying372 rfl
instance : Zc Tryz.prog 372 [(.nilFunc)] := Zc.mk' (z := .nilFunc) (by kernel_rfl) rfl
instance : ElT Tryz.prog 372 1 8 := ElT.mk' (z := .nilFunc) (by kernel_rfl) rfl (by decide)
instance : Sz Tryz.prog 373 1 := Sz.mk' (by kernel_rfl)
instance : One Tryz.prog 373 := One.mk' Tryz.underlying373 rfl
instance : Zc Tryz.prog 373 [(.nilFunc)] := Zc.mk' (z := .nilFunc) (by kernel_rfl) rfl
instance : ElT Tryz.prog 373 1 8 := ElT.mk' (z := .nilFunc) (by kernel_rfl) rfl (by decide)
instance : Sz Tryz.prog 374 1 := Sz.mk' (by kernel_rfl)
instance : One Tryz.prog 374 := One.mk' Tryz.underlying374 rfl
instance : Zc Tryz.prog 374 [(.nilFunc)] := Zc.mk' (z := .nilFunc) (by kernel_rfl) rfl
instance : ElT Tryz.prog 374 1 8 := ElT.mk' (z := .nilFunc) (by kernel_rfl) rfl (by decide)
instance : Sz Tryz.prog 375 1 := Sz.mk' (by kernel_rfl)
instance : One Tryz.prog 375 := One.mk' Tryz.underlying375 rfl
instance : Zc Tryz.prog 375 [(.nilFunc)] := Zc.mk' (z := .nilFunc) (by kernel_rfl) rfl
instance : ElT Tryz.prog 375 1 8 := ElT.mk' (z := .nilFunc) (by kernel_rfl) rfl (by decide)
instance : Sz Tryz.prog 376 1 := Sz.mk' (by kernel_rfl)
instance : One Tryz.prog 376 := One.mk' Tryz.underlying376 rfl
instance : Zc Tryz.prog 376 [(.nilFunc)] := Zc.mk' (z := .nilFunc) (by kernel_rfl) rfl
instance : ElT Tryz.prog 376 1 8 := ElT.mk' (z := .nilFunc) (by kernel_rfl) rfl (by decide)
instance : Sz Tryz.prog 377 1 := Sz.mk' (by kernel_rfl)
instance : One Tryz.prog 377 := One.mk' Tryz.underlying377 rfl
instance : Zc Tryz.prog 377 [(.nilFunc)] := Zc.mk' (z := .nilFunc) (by kernel_rfl) rfl
instance : ElT Tryz.prog 377 1 8 := ElT.mk' (z := .nilFunc) (by kernel_rfl) rfl (by decide)
instance : Sz Tryz.prog 378 1 := Sz.mk' (by kernel_rfl)
instance : One Tryz.prog 378 := One.mk' Tryz.underlying378 rfl
instance : Zc Tryz.prog 378 [(.nilFunc)] := Zc.mk' (z := .nilFunc) (by kernel_rfl) rfl
instance : ElT Tryz.prog 378 1 8 := ElT.mk' (z := .nilFunc) (by kernel_rfl) rfl (by decide)
instance : Sz Tryz.prog 379 20 := Sz.mk' (by kernel_rfl)
instance : ArrT Tryz.prog 379 20 27 := ⟨Tryz.underlying379⟩
instance : Ag Tryz.prog 379 := Ag.mk' Tryz.underlying379 rfl
instance : Zc Tryz.prog 379 [(.int .u64 0), (.int .u64 0), (.int .u64 0), (.int .u64 0), (.int .u64 0), (.int .u64 0), (.int .u64 0), (.int .u64 0), (.int .u64 0), (.int .u64 0), (.int .u64 0), (.int .u64 0), (.int .u64 0), (.int .u64 0), (.int .u64 0), (.int .u64 0), (.int .u64 0), (.int .u64 0), (.int .u64 0), (.int .u64 0)] := Zc.mk' (z := .agg #[(.int .u64 0), (.int .u64 0), (.int .u64 0), (.int .u64 0), (.int .u64 0), (.int .u64 0), (.int .u64 0), (.int .u64 0), (.int .u64 0), (.int .u64 0), (.int .u64 0), (.int .u64 0), (.int .u64 0), (.int .u64 0), (.int .u64 0), (.int .u64 0), (.int .u64 0), (.int .u64 0), (.int .u64 0), (.int .u64 0)]) (by kernel_rfl) rfl
instance : ElT Tryz.prog 379 20 160 := ElT.mk' (z := .agg #[(.int .u64 0), (.int .u64 0), (.int .u64 0), (.int .u64 0), (.int .u64 0), (.int .u64 0), (.int .u64 0), (.int .u64 0), (.int .u64 0), (.int .u64 0), (.int .u64 0), (.int .u64 0), (.int .u64 0), (.int .u64 0), (.int .u64 0), (.int .u64 0), (.int .u64 0), (.int .u64 0), (.int .u64 0), (.int .u64 0)]) (by kernel_rfl) rfl (by decide)
instance : Sz Tryz.prog 380 65 := Sz.mk' (by kernel_rfl)
instance : ArrT Tryz.prog 380 65 5 := ⟨Tryz.underlying380⟩
instance : Ag Tryz.prog 380 := Ag.mk' Tryz.underlying380 rfl
instance : Sz Tryz.prog 381 1 := Sz.mk' (by kernel_rfl)
instance : One Tryz.prog 381 := One.mk' Tryz.underlying381 rfl
instance : Zc Tryz.prog 381 [(.pointer none)] := Zc.mk' (z := .pointer none) (by kernel_rfl) rfl
instance : ElT Tryz.prog 381 1 8 := ElT.mk' (z := .pointer none) (by kernel_rfl) rfl (by decide)
instance : Sz Tryz.prog 382 1 := Sz.mk' (by kernel_rfl)
instance : One Tryz.prog 382 := One.mk' Tryz.underlying382 rfl
instance : Zc Tryz.prog 382 [(.nilFunc)] := Zc.mk' (z := .nilFunc) (by kernel_rfl) rfl
instance : ElT Tryz.prog 382 1 8 := ElT.mk' (z := .nilFunc) (by kernel_rfl) rfl (by decide)
instance : Sz Tryz.prog 383 1 := Sz.mk' (by kernel_rfl)
instance : One Tryz.prog 383 := One.mk' Tryz.underlying383 rfl
instance : Zc Tryz.prog 383 [(.nilFunc)] := Zc.mk' (z := .nilFunc) (by kernel_rfl) rfl
instance : ElT Tryz.prog 383 1 8 := ElT.mk' (z := .nilFunc) (by kernel_rfl) rfl (by decide)
instance : Sz Tryz.prog 384 1 := Sz.mk' (by kernel_rfl)
instance : One Tryz.prog 384 := One.mk' Tryz.underlying384 rfl
instance : Zc Tryz.prog 384 [(.nilFunc)] := Zc.mk' (z := .nilFunc) (by kernel_rfl) rfl
instance : ElT Tryz.prog 384 1 8 := ElT.mk' (z := .nilFunc) (by kernel_rfl) rfl (by decide)
instance : Sz Tryz.prog 386 1 := Sz.mk' (by kernel_rfl)
instance : One Tryz.prog 386 := One.mk' Tryz.underlying386 rfl
instance : Zc Tryz.prog 386 [(.nilFunc)] := Zc.mk' (z := .nilFunc) (by kernel_rfl) rfl
instance : ElT Tryz.prog 386 1 8 := ElT.mk' (z := .nilFunc) (by kernel_rfl) rfl (by decide)
instance : Sz Tryz.prog 387 1 := Sz.mk' (by kernel_rfl)
instance : One Tryz.prog 387 := One.mk' Tryz.underlying387 rfl
instance : Zc Tryz.prog 387 [(.nilFunc)] := Zc.mk' (z := .nilFunc) (by kernel_rfl) rfl
instance : ElT Tryz.prog 387 1 8 := ElT.mk' (z := .nilFunc) (by kernel_rfl) rfl (by decide)
instance : Sz Tryz.prog 388 1 := Sz.mk' (by kernel_rfl)
instance : PtrT Tryz.prog 388 367 := ⟨Tryz.underlying388⟩
instance : One Tryz.prog 388 := One.mk' Tryz.underlying388 rfl
instance : Zc Tryz.prog 388 [(.pointer none)] := Zc.mk' (z := .pointer none) (by kernel_rfl) rfl
instance : ElT Tryz.prog 388 1 8 := ElT.mk' (z := .pointer none) (by kernel_rfl) rfl (by decide)
instance : Sz Tryz.prog 390 1 := Sz.mk' (by kernel_rfl)
instance : One Tryz.prog 390 := One.mk' Tryz.underlying390 rfl
instance : Zc Tryz.prog 390 [(.nilFunc)] := Zc.mk' (z := .nilFunc) (by kernel_rfl) rfl
instance : ElT Tryz.prog 390 1 8 := ElT.mk' (z := .nilFunc) (by kernel_rfl) rfl (by decide)
instance : Sz Tryz.prog 391 1 := Sz.mk' (by kernel_rfl)
instance : One Tryz.prog 391 := One.mk' Tryz.underlying391 rfl
instance : Zc Tryz.prog 391 [(.nilFunc)] := Zc.mk' (z := .nilFunc) (by kernel_rfl) rfl
instance : ElT Tryz.prog 391 1 8 := ElT.mk' (z := .nilFunc) (by kernel_rfl) rfl (by decide)
instance : Sz Tryz.prog 392 1 := Sz.mk' (by kernel_rfl)
instance : One Tryz.prog 392 := One.mk' Tryz.underlying392 rfl
instance : Zc Tryz.prog 392 [(.nilFunc)] := Zc.mk' (z := .nilFunc) (by kernel_rfl) rfl
instance : ElT Tryz.prog 392 1 8 := ElT.mk' (z := .nilFunc) (by kernel_rfl) rfl (by decide)
instance : Sz Tryz.prog 393 1 := Sz.mk' (by kernel_rfl)
instance : One Tryz.prog 393 := One.mk' Tryz.underlying393 rfl
instance : Zc Tryz.prog 393 [(.nilFunc)] := Zc.mk' (z := .nilFunc) (by kernel_rfl) rfl
instance : ElT Tryz.prog 393 1 8 := ElT.mk' (z := .nilFunc) (by kernel_rfl) rfl (by decide)
instance : Sz Tryz.prog 394 1 := Sz.mk' (by kernel_rfl)
instance : One Tryz.prog 394 := One.mk' Tryz.underlying394 rfl
instance : Zc Tryz.prog 394 [(.nilFunc)] := Zc.mk' (z := .nilFunc) (by kernel_rfl) rfl
instance : ElT Tryz.prog 394 1 8 := ElT.mk' (z := .nilFunc) (by kernel_rfl) rfl (by decide)
instance : Sz Tryz.prog 395 1 := Sz.mk' (by kernel_rfl)
instance : One Tryz.prog 395 := One.mk' Tryz.underlying395 rfl
instance : Zc Tryz.prog 395 [(.nilFunc)] := Zc.mk' (z := .nilFunc) (by kernel_rfl) rfl
instance : ElT Tryz.prog 395 1 8 := ElT.mk' (z := .nilFunc) (by kernel_rfl) rfl (by decide)
instance : Sz Tryz.prog 396 1 := Sz.mk' (by kernel_rfl)
instance : One Tryz.prog 396 := One.mk' Tryz.underlying396 rfl
instance : Zc Tryz.prog 396 [(.nilFunc)] := Zc.mk' (z := .nilFunc) (by kernel_rfl) rfl
instance : ElT Tryz.prog 396 1 8 := ElT.mk' (z := .nilFunc) (by kernel_rfl) rfl (by decide)
instance : Sz Tryz.prog 397 1 := Sz.mk' (by kernel_rfl)
instance : One Tryz.prog 397 := One.mk' Tryz.underlying397 rfl
instance : Zc Tryz.prog 397 [(.nilFunc)] := Zc.mk' (z := .nilFunc) (by kernel_rfl) rfl
instance : ElT Tryz.prog 397 1 8 := ElT.mk' (z := .nilFunc) (by kernel_rfl) rfl (by decide)
instance : Sz Tryz.prog 398 32 := Sz.mk' (by kernel_rfl)
instance : ArrT Tryz.prog 398 32 5 := ⟨Tryz.underlying398⟩
instance : Ag Tryz.prog 398 := Ag.mk' Tryz.underlying398 rfl
instance : Zc Tryz.prog 398 [(.int .u8 0), (.int .u8 0), (.int .u8 0), (.int .u8 0), (.int .u8 0), (.int .u8 0), (.int .u8 0), (.int .u8 0), (.int .u8 0), (.int .u8 0), (.int .u8 0), (.int .u8 0), (.int .u8 0), (.int .u8 0), (.int .u8 0), (.int .u8 0), (.int .u8 0), (.int .u8 0), (.int .u8 0), (.int .u8 0), (.int .u8 0), (.int .u8 0), (.int .u8 0), (.int .u8 0), (.int .u8 0), (.int .u8 0), (.int .u8 0), (.int .u8 0), (.int .u8 0), (.int .u8 0), (.int .u8 0), (.int .u8 0)] := Zc.mk' (z := .agg #[(.int .u8 0), (.int .u8 0), (.int .u8 0), (.int .u8 0), (.int .u8 0), (.int .u8 0), (.int .u8 0), (.int .u8 0), (.int .u8 0), (.int .u8 0), (.int .u8 0), (.int .u8 0), (.int .u8 0), (.int .u8 0), (.int .u8 0), (.int .u8 0), (.int .u8 0), (.int .u8 0), (.int .u8 0), (.int .u8 0), (.int .u8 0), (.int .u8 0), (.int .u8 0), (.int .u8 0), (.int .u8 0), (.int .u8 0), (.int .u8 0), (.int .u8 0), (.int .u8 0), (.int .u8 0), (.int .u8 0), (.int .u8 0)]) (by kernel_rfl) rfl
instance : ElT Tryz.prog 398 32 32 := ElT.mk' (z := .agg #[(.int .u8 0), (.int .u8 0), (.int .u8 0), (.int .u8 0), (.int .u8 0), (.int .u8 0), (.int .u8 0), (.int .u8 0), (.int .u8 0), (.int .u8 0), (.int .u8 0), (.int .u8 0), (.int .u8 0), (.int .u8 0), (.int .u8 0), (.int .u8 0), (.int .u8 0), (.int .u8 0), (.int .u8 0), (.int .u8 0), (.int .u8 0), (.int .u8 0), (.int .u8 0), (.int .u8 0), (.int .u8 0), (.int .u8 0), (.int .u8 0), (.int .u8 0), (.int .u8 0), (.int .u8 0), (.int .u8 0), (.int .u8 0)]) (by kernel_rfl) rfl (by decide)
instance : Sz Tryz.prog 399 64 := Sz.mk' (by kernel_rfl)
instance : ArrT Tryz.prog 399 64 5 := ⟨Tryz.underlying399⟩
instance : Ag Tryz.prog 399 := Ag.mk' Tryz.underlying399 rfl
instance : Zc Tryz.prog 399 [(.int .u8 0), (.int .u8 0), (.int .u8 0), (.int .u8 0), (.int .u8 0), (.int .u8 0), (.int .u8 0), (.int .u8 0), (.int .u8 0), (.int .u8 0), (.int .u8 0), (.int .u8 0), (.int .u8 0), (.int .u8 0), (.int .u8 0), (.int .u8 0), (.int .u8 0), (.int .u8 0), (.int .u8 0), (.int .u8 0), (.int .u8 0), (.int .u8 0), (.int .u8 0), (.int .u8 0), (.int .u8 0), (.int .u8 0), (.int .u8 0), (.int .u8 0), (.int .u8 0), (.int .u8 0), (.int .u8 0), (.int .u8 0), (.int .u8 0), (.int .u8 0), (.int .u8 0), (.int .u8 0), (.int .u8 0), (.int .u8 0), (.int .u8 0), (.int .u8 0), (.int .u8 0), (.int .u8 0), (.int .u8 0), (.int .u8 0), (.int .u8 0), (.int .u8 0), (.int .u8 0), (.int .u8 0), (.int .u8 0), (.int .u8 0), (.int .u8 0), (.int .u8 0), (.int .u8 0), (.int .u8 0), (.int .u8 0), (.int .u8 0), (.int .u8 0), (.int .u8 0), (.int .u8 0), (.int .u8 0), (.int .u8 0), (.int .u8 0), (.int .u8 0), (.int .u8 0)] := Zc.mk' (z := .agg #[(.int .u8 0), (.int .u8 0), (.int .u8 0), (.int .u8 0), (.int .u8 0), (.int .u8 0), (.int .u8 0), (.int .u8 0), (.int .u8 0), (.int .u8 0), (.int .u8 0), (.int .u8 0), (.int .u8 0), (.int .u8 0), (.int .u8 0), (.int .u8 0), (.int .u8 0), (.int .u8 0), (.int .u8 0), (.int .u8 0), (.int .u8 0), (.int .u8 0), (.int .u8 0), (.int .u8 0), (.int .u8 0), (.int .u8 0), (.int .u8 0), (.int .u8 0), (.int .u8 0), (.int .u8 0), (.int .u8 0), (.int .u8 0), (.int .u8 0), (.int .u8 0), (.int .u8 0), (.int .u8 0), (.int .u8 0), (.int .u8 0), (.int .u8 0), (.int .u8 0), (.int .u8 0), (.int .u8 0), (.int .u8 0), (.int .u8 0), (.int .u8 0), (.int .u8 0), (.int .u8 0), (.int .u8 0), (.int .u8 0), (.int .u8 0), (.int .u8 0), (.int .u8 0), (.int .u8 0), (.int .u8 0), (.int .u8 0), (.int .u8 0), (.int .u8 0), (.int .u8 0), (.int .u8 0), (.int .u8 0), (.int .u8 0), (.int .u8 0), (.int .u8 0), (.int .u8 0)]) (by kernel_rfl) rfl
instance : ElT Tryz.prog 399 64 64 := ElT.mk' (z := .agg #[(.int .u8 0), (.int .u8 0), (.int .u8 0), (.int .u8 0), (.int .u8 0), (.int .u8 0), (.int .u8 0), (.int .u8 0), (.int .u8 0), (.int .u8 0), (.int .u8 0), (.int .u8 0), (.int .u8 0), (.int .u8 0), (.int .u8 0), (.int .u8 0), (.int .u8 0), (.int .u8 0), (.int .u8 0), (.int .u8 0), (.int .u8 0), (.int .u8 0), (.int .u8 0), (.int .u8 0), (.int .u8 0), (.int .u8 0), (.int .u8 0), (.int .u8 0), (.int .u8 0), (.int .u8 0), (.int .u8 0), (.int .u8 0), (.int .u8 0), (.int .u8 0), (.int .u8 0), (.int .u8 0), (.int .u8 0), (.int .u8 0), (.int .u8 0), (.int .u8 0), (.int .u8 0), (.int .u8 0), (.int .u8 0), (.int .u8 0), (.int .u8 0), (.int .u8 0), (.int .u8 0), (.int .u8 0), (.int .u8 0), (.int .u8 0), (.int .u8 0), (.int .u8 0), (.int .u8 0), (.int .u8 0), (.int .u8 0), (.int .u8 0), (.int .u8 0), (.int .u8 0), (.int .u8 0), (.int .u8 0), (.int .u8 0), (.int .u8 0), (.int .u8 0), (.int .u8 0)]) (by kernel_rfl) rfl (by decide)
instance : Sz Tryz.prog 400 256 := Sz.mk' (by kernel_rfl)
instance : ArrT Tryz.prog 400 256 5 := ⟨Tryz.underlying400⟩
instance : Ag Tryz.prog 400 := Ag.mk' Tryz.underlying400 rfl
instance : Sz Tryz.prog 401 2 := Sz.mk' (by kernel_rfl)
instance : Ag Tryz.prog 401 := Ag.mk' Tryz.underlying401 rfl
instance : EqS Tryz.prog 401 [.u8, .u8] := EqS.mk' Tryz.underlying401 (by kernel_rfl) (by kernel_rfl) (by kernel_rfl)
instance : Fld Tryz.prog 401 0 0 5 := Fld.mk' Tryz.underlying401 rfl
instance : Fld Tryz.prog 401 1 1 5 := Fld.mk' Tryz.underlying401 rfl
instance : Zc Tryz.prog 401 [(.int .u8 0), (.int .u8 0)] := Zc.mk' (z := .agg #[(.int .u8 0), (.int .u8 0)]) (by kernel_rfl) rfl
instance : StT Tryz.prog 401 [(0, 1), (1, 1)] [(.int .u8 0), (.int .u8 0)] := StT.mk' (z := .agg #[(.int .u8 0), (.int .u8 0)]) Tryz.underlying401 (by kernel_rfl) rfl (by kernel_rfl)
instance : ElT Tryz.prog 401 2 2 := ElT.mk' (z := .agg #[(.int .u8 0), (.int .u8 0)]) (by kernel_rfl) rfl (by decide)
instance : Sz Tryz.prog 402 2 := Sz.mk' (by kernel_rfl)
instance : Ag Tryz.prog 402 := Ag.mk' Tryz.underlying402 rfl
instance : EqS Tryz.prog 402 [.u8, .u8] := EqS.mk' Tryz.underlying402 (by kernel_rfl) (by kernel_rfl) (by kernel_rfl)
instance : Fld Tryz.prog 402 0 0 5 := Fld.mk' Tryz.underlying402 rfl
instance : Fld Tryz.prog 402 1 1 5 := Fld.mk' Tryz.underlying402 rfl
instance : Zc Tryz.prog 402 [(.int .u8 0), (.int .u8 0)] := Zc.mk' (z := .agg #[(.int .u8 0), (.int .u8 0)]) (by kernel_rfl) rfl
instance : StT Tryz.prog 402 [(0, 1), (1, 1)] [(.int .u8 0), (.int .u8 0)] := StT.mk' (z := .agg #[(.int .u8 0), (.int .u8 0)]) Tryz.underlying402 (by kernel_rfl) rfl (by kernel_rfl)
instance : ElT Tryz.prog 402 2 2 := ElT.mk' (z := .agg #[(.int .u8 0), (.int .u8 0)]) (by kernel_rfl) rfl (by decide)
instance : Sz Tryz.prog 403 32 := Sz.mk' (by kernel_rfl)
instance : ArrT Tryz.prog 403 16 402 := ⟨Tryz.underlying403⟩
instance : Ag Tryz.prog 403 := Ag.mk' Tryz.underlying403 rfl
instance : Zc Tryz.prog 403 [(.int .u8 0), (.int .u8 0), (.int .u8 0), (.int .u8 0), (.int .u8 0), (.int .u8 0), (.int .u8 0), (.int .u8 0), (.int .u8 0), (.int .u8 0), (.int .u8 0), (.int .u8 0), (.int .u8 0), (.int .u8 0), (.int .u8 0), (.int .u8 0), (.int .u8 0), (.int .u8 0), (.int .u8 0), (.int .u8 0), (.int .u8 0), (.int .u8 0), (.int .u8 0), (.int .u8 0), (.int .u8 0), (.int .u8 0), (.int .u8 0), (.int .u8 0), (.int .u8 0), (.int .u8 0), (.int .u8 0), (.int .u8 0)] := Zc.mk' (z := .agg #[(.int .u8 0), (.int .u8 0), (.int .u8 0), (.int .u8 0), (.int .u8 0), (.int .u8 0), (.int .u8 0), (.int .u8 0), (.int .u8 0), (.int .u8 0), (.int .u8 0), (.int .u8 0), (.int .u8 0), (.int .u8 0), (.int .u8 0), (.int .u8 0), (.int .u8 0), (.int .u8 0), (.int .u8 0), (.int .u8 0), (.int .u8 0), (.int .u8 0), (.int .u8 0), (.int .u8 0), (.int .u8 0), (.int .u8 0), (.int .u8 0), (.int .u8 0), (.int .u8 0), (.int .u8 0), (.int .u8 0), (.int .u8 0)]) (by kernel_rfl) rfl
instance : ElT Tryz.prog 403 32 32 := ElT.mk' (z := .agg #[(.int .u8 0), (.int .u8 0), (.int .u8 0), (.int .u8 0), (.int .u8 0), (.int .u8 0), (.int .u8 0), (.int .u8 0), (.int .u8 0), (.int .u8 0), (.int .u8 0), (.int .u8 0), (.int .u8 0), (.int .u8 0), (.int .u8 0), (.int .u8 0), (.int .u8 0), (.int .u8 0), (.int .u8 0), (.int .u8 0), (.int .u8 0), (.int .u8 0), (.int .u8 0), (.int .u8 0), (.int .u8 0), (.int .u8 0), (.int .u8 0), (.int .u8 0), (.int .u8 0), (.int .u8 0), (.int .u8 0), (.int .u8 0)]) (by kernel_rfl) rfl (by decide)
instance : Sz Tryz.prog 404 1 := Sz.mk' (by kernel_rfl)
instance : One Tryz.prog 404 := One.mk' Tryz.underlying404 rfl
instance : Zc Tryz.prog 404 [(.nilFunc)] := Zc.mk' (z := .nilFunc) (by kernel_rfl) rfl
instance : ElT Tryz.prog 404 1 8 := ElT.mk' (z := .nilFunc) (by kernel_rfl) rfl (by decide)
instance : Sz Tryz.prog 405 1 := Sz.mk' (by kernel_rfl)
instance : One Tryz.prog 405 := One.mk' Tryz.underlying405 rfl
instance : Zc Tryz.prog 405 [(.nilFunc)] := Zc.mk' (z := .nilFunc) (by kernel_rfl) rfl
instance : ElT Tryz.prog 405 1 8 := ElT.mk' (z := .nilFunc) (by kernel_rfl) rfl (by decide)
instance : Sz Tryz.prog 406 1 := Sz.mk' (by kernel_rfl)
instance : One Tryz.prog 406 := One.mk' Tryz.underlying406 rfl
instance : Zc Tryz.prog 406 [(.nilFunc)] := Zc.mk' (z := .nilFunc) (by kernel_rfl) rfl
instance : ElT Tryz.prog 406 1 8 := ElT.mk' (z := .nilFunc) (by kernel_rfl) rfl (by decide)
instance : Sz Tryz.prog 407 4 := Sz.mk' (by kernel_rfl)
instance : Ag Tryz.prog 407 := Ag.mk' Tryz.underlying407 rfl
instance : Fld Tryz.prog 407 0 0 17 := Fld.mk' Tryz.underlying407 rfl
instance : Fld Tryz.prog 407 1 1 17 := Fld.mk' Tryz.underlying407 rfl
instance : Fld Tryz.prog 407 2 2 17 := Fld.mk' Tryz.underlying407 rfl
instance : Fld Tryz.prog 407 3 3 9 := Fld.mk' Tryz.underlying407 rfl
instance : Zc Tryz.prog 407 [(.pointer none), (.pointer none), (.pointer none), (.string ByteArray.empty)] := Zc.mk' (z := .agg #[(.pointer none), (.pointer none), (.pointer none), (.string ByteArray.empty)]) (by kernel_rfl) rfl
instance : StT Tryz.prog 407 [(0, 1), (1, 1), (2, 1), (3, 1)] [(.pointer none), (.pointer none), (.pointer none), (.string ByteArray.empty)] := StT.mk' (z := .agg #[(.pointer none), (.pointer none), (.pointer none), (.string ByteArray.empty)]) Tryz.underlying407 (by kernel_rfl) rfl (by kernel_rfl)
instance : ElT Tryz.prog 407 4 40 := ElT.mk' (z := .agg #[(.pointer none), (.pointer none), (.pointer none), (.string ByteArray.empty)]) (by kernel_rfl) rfl (by decide)
instance : Sz Tryz.prog 408 4 := Sz.mk' (by kernel_rfl)
instance : Ag Tryz.prog 408 := Ag.mk' Tryz.underlying408 rfl
instance : Fld Tryz.prog 408 0 0 17 := Fld.mk' Tryz.underlying408 rfl
instance : Fld Tryz.prog 408 1 1 17 := Fld.mk' Tryz.underlying408 rfl
instance : Fld Tryz.prog 408 2 2 17 := Fld.mk' Tryz.underlying408 rfl
instance : Fld Tryz.prog 408 3 3 9 := Fld.mk' Tryz.underlying408 rfl
instance : Zc Tryz.prog 408 [(.pointer none), (.pointer none), (.pointer none), (.string ByteArray.empty)] := Zc.mk' (z := .agg #[(.pointer none), (.pointer none), (.pointer none), (.string ByteArray.empty)]) (by kernel_rfl) rfl
instance : StT Tryz.prog 408 [(0, 1), (1, 1), (2, 1), (3, 1)] [(.pointer none), (.pointer none), (.pointer none), (.string ByteArray.empty)] := StT.mk' (z := .agg #[(.pointer none), (.pointer none), (.pointer none), (.string ByteArray.empty)]) Tryz.underlying408 (by kernel_rfl) rfl (by kernel_rfl)
instance : ElT Tryz.prog 408 4 40 := ElT.mk' (z := .agg #[(.pointer none), (.pointer none), (.pointer none), (.string ByteArray.empty)]) (by kernel_rfl) rfl (by decide)
instance : Sz Tryz.prog 409 0 := Sz.mk' (by kernel_rfl)
instance : ArrT Tryz.prog 409 0 16 := ⟨Tryz.underlying409⟩
instance : Ag Tryz.prog 409 := Ag.mk' Tryz.underlying409 rfl
instance : Zc Tryz.prog 409 [] := Zc.mk' (z := .agg #[]) (by kernel_rfl) rfl
instance : Sz Tryz.prog 410 0 := Sz.mk' (by kernel_rfl)
instance : Ag Tryz.prog 410 := Ag.mk' Tryz.underlying410 rfl
instance : Fld Tryz.prog 410 0 0 409 := Fld.mk' Tryz.underlying410 rfl
instance : Zc Tryz.prog 410 [] := Zc.mk' (z := .agg #[]) (by kernel_rfl) rfl
instance : StT Tryz.prog 410 [(0, 0)] [] := StT.mk' (z := .agg #[]) Tryz.underlying410 (by kernel_rfl) rfl (by kernel_rfl)
instance : Sz Tryz.prog 411 0 := Sz.mk' (by kernel_rfl)
instance : Ag Tryz.prog 411 := Ag.mk' Tryz.underlying411 rfl
instance : Fld Tryz.prog 411 0 0 409 := Fld.mk' Tryz.underlying411 rfl
instance : Zc Tryz.prog 411 [] := Zc.mk' (z := .agg #[]) (by kernel_rfl) rfl
instance : StT Tryz.prog 411 [(0, 0)] [] := StT.mk' (z := .agg #[]) Tryz.underlying411 (by kernel_rfl) rfl (by kernel_rfl)
instance : Sz Tryz.prog 412 1 := Sz.mk' (by kernel_rfl)
instance : IntT Tryz.prog 412 .u8 := ⟨Tryz.underlying412⟩
instance : One Tryz.prog 412 := One.mk' Tryz.underlying412 rfl
instance : Zc Tryz.prog 412 [(.int .u8 0)] := Zc.mk' (z := .int .u8 0) (by kernel_rfl) rfl
instance : ElT Tryz.prog 412 1 1 := ElT.mk' (z := .int .u8 0) (by kernel_rfl) rfl (by decide)
instance : Sz Tryz.prog 413 1 := Sz.mk' (by kernel_rfl)
instance : IntT Tryz.prog 413 .u8 := ⟨Tryz.underlying413⟩
instance : One Tryz.prog 413 := One.mk' Tryz.underlying413 rfl
instance : Zc Tryz.prog 413 [(.int .u8 0)] := Zc.mk' (z := .int .u8 0) (by kernel_rfl) rfl
instance : ElT Tryz.prog 413 1 1 := ElT.mk' (z := .int .u8 0) (by kernel_rfl) rfl (by decide)
instance : Sz Tryz.prog 414 1 := Sz.mk' (by kernel_rfl)
instance : One Tryz.prog 414 := One.mk' Tryz.underlying414 rfl
instance : Zc Tryz.prog 414 [(.nilFunc)] := Zc.mk' (z := .nilFunc) (by kernel_rfl) rfl
instance : ElT Tryz.prog 414 1 8 := ElT.mk' (z := .nilFunc) (by kernel_rfl) rfl (by decide)
instance : Sz Tryz.prog 415 1 := Sz.mk' (by kernel_rfl)
instance : IntT Tryz.prog 415 .i32 := ⟨Tryz.underlying415⟩
instance : One Tryz.prog 415 := One.mk' Tryz.underlying415 rfl
instance : Zc Tryz.prog 415 [(.int .i32 0)] := Zc.mk' (z := .int .i32 0) (by kernel_rfl) rfl
instance : ElT Tryz.prog 415 1 4 := ElT.mk' (z := .int .i32 0) (by kernel_rfl) rfl (by decide)
instance : Sz Tryz.prog 416 1 := Sz.mk' (by kernel_rfl)
instance : IntT Tryz.prog 416 .i32 := ⟨Tryz.underlying416⟩
instance : One Tryz.prog 416 := One.mk' Tryz.underlying416 rfl
instance : Zc Tryz.prog 416 [(.int .i32 0)] := Zc.mk' (z := .int .i32 0) (by kernel_rfl) rfl
instance : ElT Tryz.prog 416 1 4 := ElT.mk' (z := .int .i32 0) (by kernel_rfl) rfl (by decide)
instance : Sz Tryz.prog 417 11 := Sz.mk' (by kernel_rfl)
instance : Ag Tryz.prog 417 := Ag.mk' Tryz.underlying417 rfl
instance : Fld Tryz.prog 417 0 0 12 := Fld.mk' Tryz.underlying417 rfl
instance : Fld Tryz.prog 417 1 1 12 := Fld.mk' Tryz.underlying417 rfl
instance : Fld Tryz.prog 417 2 2 186 := Fld.mk' Tryz.underlying417 rfl
instance : Fld Tryz.prog 417 3 3 412 := Fld.mk' Tryz.underlying417 rfl
instance : Fld Tryz.prog 417 4 4 5 := Fld.mk' Tryz.underlying417 rfl
instance : Fld Tryz.prog 417 5 5 5 := Fld.mk' Tryz.underlying417 rfl
instance : Fld Tryz.prog 417 6 6 413 := Fld.mk' Tryz.underlying417 rfl
instance : Fld Tryz.prog 417 7 7 414 := Fld.mk' Tryz.underlying417 rfl
instance : Fld Tryz.prog 417 8 8 359 := Fld.mk' Tryz.underlying417 rfl
instance : Fld Tryz.prog 417 9 9 415 := Fld.mk' Tryz.underlying417 rfl
instance : Fld Tryz.prog 417 10 10 416 := Fld.mk' Tryz.underlying417 rfl
instance : Zc Tryz.prog 417 [(.int .u64 0), (.int .u64 0), (.int .u32 0), (.int .u8 0), (.int .u8 0), (.int .u8 0), (.int .u8 0), (.nilFunc), (.pointer none), (.int .i32 0), (.int .i32 0)] := Zc.mk' (z := .agg #[(.int .u64 0), (.int .u64 0), (.int .u32 0), (.int .u8 0), (.int .u8 0), (.int .u8 0), (.int .u8 0), (.nilFunc), (.pointer none), (.int .i32 0), (.int .i32 0)]) (by kernel_rfl) rfl
instance : StT Tryz.prog 417 [(0, 1), (1, 1), (2, 1), (3, 1), (4, 1), (5, 1), (6, 1), (7, 1), (8, 1), (9, 1), (10, 1)] [(.int .u64 0), (.int .u64 0), (.int .u32 0), (.int .u8 0), (.int .u8 0), (.int .u8 0), (.int .u8 0), (.nilFunc), (.pointer none), (.int .i32 0), (.int .i32 0)] := StT.mk' (z := .agg #[(.int .u64 0), (.int .u64 0), (.int .u32 0), (.int .u8 0), (.int .u8 0), (.int .u8 0), (.int .u8 0), (.nilFunc), (.pointer none), (.int .i32 0), (.int .i32 0)]) Tryz.underlying417 (by kernel_rfl) rfl (by kernel_rfl)
instance : ElT Tryz.prog 417 11 48 := ElT.mk' (z := .agg #[(.int .u64 0), (.int .u64 0), (.int .u32 0), (.int .u8 0), (.int .u8 0), (.int .u8 0), (.int .u8 0), (.nilFunc), (.pointer none), (.int .i32 0), (.int .i32 0)]) (by kernel_rfl) rfl (by decide)
instance : Sz Tryz.prog 418 11 := Sz.mk' (by kernel_rfl)
instance : Ag Tryz.prog 418 := Ag.mk' Tryz.underlying418 rfl
instance : Fld Tryz.prog 418 0 0 12 := Fld.mk' Tryz.underlying418 rfl
instance : Fld Tryz.prog 418 1 1 12 := Fld.mk' Tryz.underlying418 rfl
instance : Fld Tryz.prog 418 2 2 186 := Fld.mk' Tryz.underlying418 rfl
instance : Fld Tryz.prog 418 3 3 412 := Fld.mk' Tryz.underlying418 rfl
instance : Fld Tryz.prog 418 4 4 5 := Fld.mk' Tryz.underlying418 rfl
instance : Fld Tryz.prog 418 5 5 5 := Fld.mk' Tryz.underlying418 rfl
instance : Fld Tryz.prog 418 6 6 413 := Fld.mk' Tryz.underlying418 rfl
instance : Fld Tryz.prog 418 7 7 414 := Fld.mk' Tryz.underlying418 rfl
instance : Fld Tryz.prog 418 8 8 359 := Fld.mk' Tryz.underlying418 rfl
instance : Fld Tryz.prog 418 9 9 415 := Fld.mk' Tryz.underlying418 rfl
instance : Fld Tryz.prog 418 10 10 416 := Fld.mk' Tryz.underlying418 rfl
instance : Zc Tryz.prog 418 [(.int .u64 0), (.int .u64 0), (.int .u32 0), (.int .u8 0), (.int .u8 0), (.int .u8 0), (.int .u8 0), (.nilFunc), (.pointer none), (.int .i32 0), (.int .i32 0)] := Zc.mk' (z := .agg #[(.int .u64 0), (.int .u64 0), (.int .u32 0), (.int .u8 0), (.int .u8 0), (.int .u8 0), (.int .u8 0), (.nilFunc), (.pointer none), (.int .i32 0), (.int .i32 0)]) (by kernel_rfl) rfl
instance : StT Tryz.prog 418 [(0, 1), (1, 1), (2, 1), (3, 1), (4, 1), (5, 1), (6, 1), (7, 1), (8, 1), (9, 1), (10, 1)] [(.int .u64 0), (.int .u64 0), (.int .u32 0), (.int .u8 0), (.int .u8 0), (.int .u8 0), (.int .u8 0), (.nilFunc), (.pointer none), (.int .i32 0), (.int .i32 0)] := StT.mk' (z := .agg #[(.int .u64 0), (.int .u64 0), (.int .u32 0), (.int .u8 0), (.int .u8 0), (.int .u8 0), (.int .u8 0), (.nilFunc), (.pointer none), (.int .i32 0), (.int .i32 0)]) Tryz.underlying418 (by kernel_rfl) rfl (by kernel_rfl)
instance : ElT Tryz.prog 418 11 48 := ElT.mk' (z := .agg #[(.int .u64 0), (.int .u64 0), (.int .u32 0), (.int .u8 0), (.int .u8 0), (.int .u8 0), (.int .u8 0), (.nilFunc), (.pointer none), (.int .i32 0), (.int .i32 0)]) (by kernel_rfl) rfl (by decide)
instance : Enters Tryz.prog 3 := Enters.mk' Tryz.func3 (by kernel_rfl) (by kernel_rfl)
instance : Enters Tryz.prog 4 := Enters.mk' Tryz.func4 (by kernel_rfl) (by kernel_rfl)
instance : Enters Tryz.prog 5 := Enters.mk' Tryz.func5 (by kernel_rfl) (by kernel_rfl)
instance : Enters Tryz.prog 6 := Enters.mk' Tryz.func6 (by kernel_rfl) (by kernel_rfl)
instance : Enters Tryz.prog 7 := Enters.mk' Tryz.func7 (by kernel_rfl) (by kernel_rfl)
instance : Enters Tryz.prog 8 := Enters.mk' Tryz.func8 (by kernel_rfl) (by kernel_rfl)
instance : Enters Tryz.prog 9 := Enters.mk' Tryz.func9 (by kernel_rfl) (by kernel_rfl)
instance : Enters Tryz.prog 10 := Enters.mk' Tryz.func10 (by kernel_rfl) (by kernel_rfl)
instance : Enters Tryz.prog 11 := Enters.mk' Tryz.func11 (by kernel_rfl) (by kernel_rfl)
instance : Enters Tryz.prog 12 := Enters.mk' Tryz.func12 (by kernel_rfl) (by kernel_rfl)
instance : Enters Tryz.prog 13 := Enters.mk' Tryz.func13 (by kernel_rfl) (by kernel_rfl)
instance : Enters Tryz.prog 14 := Enters.mk' Tryz.func14 (by kernel_rfl) (by kernel_rfl)
instance : Enters Tryz.prog 15 := Enters.mk' Tryz.func15 (by kernel_rfl) (by kernel_rfl)
instance : Enters Tryz.prog 16 := Enters.mk' Tryz.func16 (by kernel_rfl) (by kernel_rfl)
instance : Enters Tryz.prog 17 := Enters.mk' Tryz.func17 (by kernel_rfl) (by kernel_rfl)
instance : Enters Tryz.prog 18 := Enters.mk' Tryz.func18 (by kernel_rfl) (by kernel_rfl)
instance : Enters Tryz.prog 19 := Enters.mk' Tryz.func19 (by kernel_rfl) (by kernel_rfl)
instance : Enters Tryz.prog 20 := Enters.mk' Tryz.func20 (by kernel_rfl) (by kernel_rfl)
instance : Enters Tryz.prog 21 := Enters.mk' Tryz.func21 (by kernel_rfl) (by kernel_rfl)
instance : Enters Tryz.prog 22 := Enters.mk' Tryz.func22 (by kernel_rfl) (by kernel_rfl)
instance : Enters Tryz.prog 23 := Enters.mk' Tryz.func23 (by kernel_rfl) (by kernel_rfl)
instance : Enters Tryz.prog 24 := Enters.mk' Tryz.func24 (by kernel_rfl) (by kernel_rfl)
instance : Enters Tryz.prog 25 := Enters.mk' Tryz.func25 (by kernel_rfl) (by kernel_rfl)
instance : Enters Tryz.prog 26 := Enters.mk' Tryz.func26 (by kernel_rfl) (by kernel_rfl)
instance : Enters Tryz.prog 27 := Enters.mk' Tryz.func27 (by kernel_rfl) (by kernel_rfl)
instance : Enters Tryz.prog 28 := Enters.mk' Tryz.func28 (by kernel_rfl) (by kernel_rfl)
instance : Enters Tryz.prog 29 := Enters.mk' Tryz.func29 (by kernel_rfl) (by kernel_rfl)
instance : Enters Tryz.prog 30 := Enters.mk' Tryz.func30 (by kernel_rfl) (by kernel_rfl)
instance : Enters Tryz.prog 31 := Enters.mk' Tryz.func31 (by kernel_rfl) (by kernel_rfl)
instance : Enters Tryz.prog 32 := Enters.mk' Tryz.func32 (by kernel_rfl) (by kernel_rfl)
instance : Enters Tryz.prog 33 := Enters.mk' Tryz.func33 (by kernel_rfl) (by kernel_rfl)
instance : Enters Tryz.prog 34 := Enters.mk' Tryz.func34 (by kernel_rfl) (by kernel_rfl)
instance : Enters Tryz.prog 35 := Enters.mk' Tryz.func35 (by kernel_rfl) (by kernel_rfl)
instance : Enters Tryz.prog 36 := Enters.mk' Tryz.func36 (by kernel_rfl) (by kernel_rfl)
instance : Enters Tryz.prog 37 := Enters.mk' Tryz.func37 (by kernel_rfl) (by kernel_rfl)
instance : Enters Tryz.prog 38 := Enters.mk' Tryz.func38 (by kernel_rfl) (by kernel_rfl)
instance : Enters Tryz.prog 39 := Enters.mk' Tryz.func39 (by kernel_rfl) (by kernel_rfl)
instance : Enters Tryz.prog 40 := Enters.mk' Tryz.func40 (by kernel_rfl) (by kernel_rfl)
instance : Enters Tryz.prog 41 := Enters.mk' Tryz.func41 (by kernel_rfl) (by kernel_rfl)
instance : Enters Tryz.prog 42 := Enters.mk' Tryz.func42 (by kernel_rfl) (by kernel_rfl)
instance : Enters Tryz.prog 43 := Enters.mk' Tryz.func43 (by kernel_rfl) (by kernel_rfl)
instance : Enters Tryz.prog 44 := Enters.mk' Tryz.func44 (by kernel_rfl) (by kernel_rfl)
instance : Enters Tryz.prog 45 := Enters.mk' Tryz.func45 (by kernel_rfl) (by kernel_rfl)
instance : Enters Tryz.prog 46 := Enters.mk' Tryz.func46 (by kernel_rfl) (by kernel_rfl)
instance : Enters Tryz.prog 47 := Enters.mk' Tryz.func47 (by kernel_rfl) (by kernel_rfl)
instance : Enters Tryz.prog 48 := Enters.mk' Tryz.func48 (by kernel_rfl) (by kernel_rfl)
instance : Enters Tryz.prog 49 := Enters.mk' Tryz.func49 (by kernel_rfl) (by kernel_rfl)
instance : Enters Tryz.prog 50 := Enters.mk' Tryz.func50 (by kernel_rfl) (by kernel_rfl)
instance : Enters Tryz.prog 51 := Enters.mk' Tryz.func51 (by kernel_rfl) (by kernel_rfl)
instance : Enters Tryz.prog 52 := Enters.mk' Tryz.func52 (by kernel_rfl) (by kernel_rfl)
instance : Enters Tryz.prog 53 := Enters.mk' Tryz.func53 (by kernel_rfl) (by kernel_rfl)
instance : Enters Tryz.prog 54 := Enters.mk' Tryz.func54 (by kernel_rfl) (by kernel_rfl)
instance : Enters Tryz.prog 55 := Enters.mk' Tryz.func55 (by kernel_rfl) (by kernel_rfl)
instance : Enters Tryz.prog 56 := Enters.mk' Tryz.func56 (by kernel_rfl) (by kernel_rfl)
instance : Enters Tryz.prog 57 := Enters.mk' Tryz.func57 (by kernel_rfl) (by kernel_rfl)
instance : Enters Tryz.prog 58 := Enters.mk' Tryz.func58 (by kernel_rfl) (by kernel_rfl)
instance : Enters Tryz.prog 59 := Enters.mk' Tryz.func59 (by kernel_rfl) (by kernel_rfl)
instance : Enters Tryz.prog 60 := Enters.mk' Tryz.func60 (by kernel_rfl) (by kernel_rfl)
instance : Enters Tryz.prog 61 := Enters.mk' Tryz.func61 (by kernel_rfl) (by kernel_rfl)
instance : Enters Tryz.prog 62 := Enters.mk' Tryz.func62 (by kernel_rfl) (by kernel_rfl)
instance : Enters Tryz.prog 63 := Enters.mk' Tryz.func63 (by kernel_rfl) (by kernel_rfl)
instance : Enters Tryz.prog 64 := Enters.mk' Tryz.func64 (by kernel_rfl) (by kernel_rfl)
instance : Enters Tryz.prog 65 := Enters.mk' Tryz.func65 (by kernel_rfl) (by kernel_rfl)
instance : Enters Tryz.prog 66 := Enters.mk' Tryz.func66 (by kernel_rfl) (by kernel_rfl)
instance : Enters Tryz.prog 67 := Enters.mk' Tryz.func67 (by kernel_rfl) (by kernel_rfl)
instance : Enters Tryz.prog 68 := Enters.mk' Tryz.func68 (by kernel_rfl) (by kernel_rfl)
instance : Enters Tryz.prog 69 := Enters.mk' Tryz.func69 (by kernel_rfl) (by kernel_rfl)
instance : Enters Tryz.prog 70 := Enters.mk' Tryz.func70 (by kernel_rfl) (by kernel_rfl)
instance : Enters Tryz.prog 71 := Enters.mk' Tryz.func71 (by kernel_rfl) (by kernel_rfl)
instance : Enters Tryz.prog 72 := Enters.mk' Tryz.func72 (by kernel_rfl) (by kernel_rfl)
instance : Enters Tryz.prog 73 := Enters.mk' Tryz.func73 (by kernel_rfl) (by kernel_rfl)
instance : Enters Tryz.prog 74 := Enters.mk' Tryz.func74 (by kernel_rfl) (by kernel_rfl)
instance : Enters Tryz.prog 75 := Enters.mk' Tryz.func75 (by kernel_rfl) (by kernel_rfl)
instance : Enters Tryz.prog 76 := Enters.mk' Tryz.func76 (by kernel_rfl) (by kernel_rfl)
instance : Enters Tryz.prog 77 := Enters.mk' Tryz.func77 (by kernel_rfl) (by kernel_rfl)
instance : Enters Tryz.prog 78 := Enters.mk' Tryz.func78 (by kernel_rfl) (by kernel_rfl)
instance : Enters Tryz.prog 79 := Enters.mk' Tryz.func79 (by kernel_rfl) (by kernel_rfl)
instance : Enters Tryz.prog 80 := Enters.mk' Tryz.func80 (by kernel_rfl) (by kernel_rfl)
instance : Enters Tryz.prog 81 := Enters.mk' Tryz.func81 (by kernel_rfl) (by kernel_rfl)
instance : Enters Tryz.prog 82 := Enters.mk' Tryz.func82 (by kernel_rfl) (by kernel_rfl)
instance : Enters Tryz.prog 83 := Enters.mk' Tryz.func83 (by kernel_rfl) (by kernel_rfl)
instance : Enters Tryz.prog 84 := Enters.mk' Tryz.func84 (by kernel_rfl) (by kernel_rfl)
instance : Enters Tryz.prog 85 := Enters.mk' Tryz.func85 (by kernel_rfl) (by kernel_rfl)
instance : Enters Tryz.prog 86 := Enters.mk' Tryz.func86 (by kernel_rfl) (by kernel_rfl)
instance : Enters Tryz.prog 87 := Enters.mk' Tryz.func87 (by kernel_rfl) (by kernel_rfl)
instance : Enters Tryz.prog 88 := Enters.mk' Tryz.func88 (by kernel_rfl) (by kernel_rfl)
instance : Enters Tryz.prog 89 := Enters.mk' Tryz.func89 (by kernel_rfl) (by kernel_rfl)
instance : Enters Tryz.prog 90 := Enters.mk' Tryz.func90 (by kernel_rfl) (by kernel_rfl)
instance : Enters Tryz.prog 91 := Enters.mk' Tryz.func91 (by kernel_rfl) (by kernel_rfl)
instance : Enters Tryz.prog 92 := Enters.mk' Tryz.func92 (by kernel_rfl) (by kernel_rfl)
instance : Enters Tryz.prog 93 := Enters.mk' Tryz.func93 (by kernel_rfl) (by kernel_rfl)
instance : Enters Tryz.prog 94 := Enters.mk' Tryz.func94 (by kernel_rfl) (by kernel_rfl)
instance : Enters Tryz.prog 95 := Enters.mk' Tryz.func95 (by kernel_rfl) (by kernel_rfl)
instance : Enters Tryz.prog 96 := Enters.mk' Tryz.func96 (by kernel_rfl) (by kernel_rfl)
instance : Enters Tryz.prog 97 := Enters.mk' Tryz.func97 (by kernel_rfl) (by kernel_rfl)
instance : Enters Tryz.prog 98 := Enters.mk' Tryz.func98 (by kernel_rfl) (by kernel_rfl)
instance : Enters Tryz.prog 99 := Enters.mk' Tryz.func99 (by kernel_rfl) (by kernel_rfl)
instance : Enters Tryz.prog 100 := Enters.mk' Tryz.func100 (by kernel_rfl) (by kernel_rfl)
instance : Enters Tryz.prog 101 := Enters.mk' Tryz.func101 (by kernel_rfl) (by kernel_rfl)
instance : Enters Tryz.prog 102 := Enters.mk' Tryz.func102 (by kernel_rfl) (by kernel_rfl)
instance : Enters Tryz.prog 103 := Enters.mk' Tryz.func103 (by kernel_rfl) (by kernel_rfl)
instance : Enters Tryz.prog 104 := Enters.mk' Tryz.func104 (by kernel_rfl) (by kernel_rfl)
instance : Enters Tryz.prog 105 := Enters.mk' Tryz.func105 (by kernel_rfl) (by kernel_rfl)
instance : Enters Tryz.prog 106 := Enters.mk' Tryz.func106 (by kernel_rfl) (by kernel_rfl)
instance : Enters Tryz.prog 107 := Enters.mk' Tryz.func107 (by kernel_rfl) (by kernel_rfl)
instance : Enters Tryz.prog 108 := Enters.mk' Tryz.func108 (by kernel_rfl) (by kernel_rfl)
instance : Enters Tryz.prog 109 := Enters.mk' Tryz.func109 (by kernel_rfl) (by kernel_rfl)
instance : Enters Tryz.prog 110 := Enters.mk' Tryz.func110 (by kernel_rfl) (by kernel_rfl)
instance : Enters Tryz.prog 111 := Enters.mk' Tryz.func111 (by kernel_rfl) (by kernel_rfl)
instance : Enters Tryz.prog 112 := Enters.mk' Tryz.func112 (by kernel_rfl) (by kernel_rfl)
instance : Enters Tryz.prog 113 := Enters.mk' Tryz.func113 (by kernel_rfl) (by kernel_rfl)
instance : Enters Tryz.prog 114 := Enters.mk' Tryz.func114 (by kernel_rfl) (by kernel_rfl)
instance : Enters Tryz.prog 115 := Enters.mk' Tryz.func115 (by kernel_rfl) (by kernel_rfl)
instance : Enters Tryz.prog 116 := Enters.mk' Tryz.func116 (by kernel_rfl) (by kernel_rfl)
instance : Enters Tryz.prog 117 := Enters.mk' Tryz.func117 (by kernel_rfl) (by kernel_rfl)
instance : Enters Tryz.prog 118 := Enters.mk' Tryz.func118 (by kernel_rfl) (by kernel_rfl)
instance : Enters Tryz.prog 119 := Enters.mk' Tryz.func119 (by kernel_rfl) (by kernel_rfl)
instance : Enters Tryz.prog 120 := Enters.mk' Tryz.func120 (by kernel_rfl) (by kernel_rfl)
instance : Enters Tryz.prog 121 := Enters.mk' Tryz.func121 (by kernel_rfl) (by kernel_rfl)
instance : Enters Tryz.prog 122 := Enters.mk' Tryz.func122 (by kernel_rfl) (by kernel_rfl)
instance : Enters Tryz.prog 123 := Enters.mk' Tryz.func123 (by kernel_rfl) (by kernel_rfl)
instance : Enters Tryz.prog 124 := Enters.mk' Tryz.func124 (by kernel_rfl) (by kernel_rfl)
instance : Enters Tryz.prog 125 := Enters.mk' Tryz.func125 (by kernel_rfl) (by kernel_rfl)
instance : Enters Tryz.prog 126 := Enters.mk' Tryz.func126 (by kernel_rfl) (by kernel_rfl)
instance : Enters Tryz.prog 127 := Enters.mk' Tryz.func127 (by kernel_rfl) (by kernel_rfl)
instance : Enters Tryz.prog 128 := Enters.mk' Tryz.func128 (by kernel_rfl) (by kernel_rfl)
instance : Enters Tryz.prog 129 := Enters.mk' Tryz.func129 (by kernel_rfl) (by kernel_rfl)
instance : Enters Tryz.prog 130 := Enters.mk' Tryz.func130 (by kernel_rfl) (by kernel_rfl)
instance : Enters Tryz.prog 131 := Enters.mk' Tryz.func131 (by kernel_rfl) (by kernel_rfl)
instance : Enters Tryz.prog 132 := Enters.mk' Tryz.func132 (by kernel_rfl) (by kernel_rfl)
instance : Enters Tryz.prog 133 := Enters.mk' Tryz.func133 (by kernel_rfl) (by kernel_rfl)
instance : Enters Tryz.prog 134 := Enters.mk' Tryz.func134 (by kernel_rfl) (by kernel_rfl)
instance : Enters Tryz.prog 135 := Enters.mk' Tryz.func135 (by kernel_rfl) (by kernel_rfl)
instance : Enters Tryz.prog 136 := Enters.mk' Tryz.func136 (by kernel_rfl) (by kernel_rfl)
instance : Enters Tryz.prog 137 := Enters.mk' Tryz.func137 (by kernel_rfl) (by kernel_rfl)
instance : Enters Tryz.prog 138 := Enters.mk' Tryz.func138 (by kernel_rfl) (by kernel_rfl)
instance : Enters Tryz.prog 139 := Enters.mk' Tryz.func139 (by kernel_rfl) (by kernel_rfl)
instance : Enters Tryz.prog 140 := Enters.mk' Tryz.func140 (by kernel_rfl) (by kernel_rfl)
instance : Enters Tryz.prog 141 := Enters.mk' Tryz.func141 (by kernel_rfl) (by kernel_rfl)
instance : Enters Tryz.prog 142 := Enters.mk' Tryz.func142 (by kernel_rfl) (by kernel_rfl)
instance : Enters Tryz.prog 143 := Enters.mk' Tryz.func143 (by kernel_rfl) (by kernel_rfl)
instance : Enters Tryz.prog 144 := Enters.mk' Tryz.func144 (by kernel_rfl) (by kernel_rfl)
instance : Enters Tryz.prog 145 := Enters.mk' Tryz.func145 (by kernel_rfl) (by kernel_rfl)
instance : Enters Tryz.prog 146 := Enters.mk' Tryz.func146 (by kernel_rfl) (by kernel_rfl)
instance : Enters Tryz.prog 147 := Enters.mk' Tryz.func147 (by kernel_rfl) (by kernel_rfl)
instance : Enters Tryz.prog 148 := Enters.mk' Tryz.func148 (by kernel_rfl) (by kernel_rfl)
instance : Enters Tryz.prog 149 := Enters.mk' Tryz.func149 (by kernel_rfl) (by kernel_rfl)
instance : Enters Tryz.prog 150 := Enters.mk' Tryz.func150 (by kernel_rfl) (by kernel_rfl)
instance : Enters Tryz.prog 151 := Enters.mk' Tryz.func151 (by kernel_rfl) (by kernel_rfl)
instance : Enters Tryz.prog 152 := Enters.mk' Tryz.func152 (by kernel_rfl) (by kernel_rfl)
instance : Enters Tryz.prog 153 := Enters.mk' Tryz.func153 (by kernel_rfl) (by kernel_rfl)
instance : Enters Tryz.prog 154 := Enters.mk' Tryz.func154 (by kernel_rfl) (by kernel_rfl)
instance : Enters Tryz.prog 155 := Enters.mk' Tryz.func155 (by kernel_rfl) (by kernel_rfl)
instance : Enters Tryz.prog 156 := Enters.mk' Tryz.func156 (by kernel_rfl) (by kernel_rfl)
instance : Enters Tryz.prog 157 := Enters.mk' Tryz.func157 (by kernel_rfl) (by kernel_rfl)
instance : Enters Tryz.prog 158 := Enters.mk' Tryz.func158 (by kernel_rfl) (by kernel_rfl)
instance : Enters Tryz.prog 159 := Enters.mk' Tryz.func159 (by kernel_rfl) (by kernel_rfl)
instance : Enters Tryz.prog 160 := Enters.mk' Tryz.func160 (by kernel_rfl) (by kernel_rfl)
instance : Enters Tryz.prog 161 := Enters.mk' Tryz.func161 (by kernel_rfl) (by kernel_rfl)
instance : Enters Tryz.prog 162 := Enters.mk' Tryz.func162 (by kernel_rfl) (by kernel_rfl)
instance : Enters Tryz.prog 163 := Enters.mk' Tryz.func163 (by kernel_rfl) (by kernel_rfl)
instance : Enters Tryz.prog 164 := Enters.mk' Tryz.func164 (by kernel_rfl) (by kernel_rfl)
instance : Enters Tryz.prog 165 := Enters.mk' Tryz.func165 (by kernel_rfl) (by kernel_rfl)
instance : Enters Tryz.prog 166 := Enters.mk' Tryz.func166 (by kernel_rfl) (by kernel_rfl)
instance : Enters Tryz.prog 167 := Enters.mk' Tryz.func167 (by kernel_rfl) (by kernel_rfl)
instance : Enters Tryz.prog 168 := Enters.mk' Tryz.func168 (by kernel_rfl) (by kernel_rfl)
instance : Enters Tryz.prog 169 := Enters.mk' Tryz.func169 (by kernel_rfl) (by kernel_rfl)
instance : Enters Tryz.prog 170 := Enters.mk' Tryz.func170 (by kernel_rfl) (by kernel_rfl)
instance : Enters Tryz.prog 171 := Enters.mk' Tryz.func171 (by kernel_rfl) (by kernel_rfl)
instance : Enters Tryz.prog 172 := Enters.mk' Tryz.func172 (by kernel_rfl) (by kernel_rfl)
instance : Enters Tryz.prog 173 := Enters.mk' Tryz.func173 (by kernel_rfl) (by kernel_rfl)
instance : Enters Tryz.prog 174 := Enters.mk' Tryz.func174 (by kernel_rfl) (by kernel_rfl)
instance : Enters Tryz.prog 175 := Enters.mk' Tryz.func175 (by kernel_rfl) (by kernel_rfl)
instance : Enters Tryz.prog 176 := Enters.mk' Tryz.func176 (by kernel_rfl) (by kernel_rfl)
instance : Enters Tryz.prog 177 := Enters.mk' Tryz.func177 (by kernel_rfl) (by kernel_rfl)
instance : Enters Tryz.prog 178 := Enters.mk' Tryz.func178 (by kernel_rfl) (by kernel_rfl)
instance : Enters Tryz.prog 179 := Enters.mk' Tryz.func179 (by kernel_rfl) (by kernel_rfl)
instance : Enters Tryz.prog 180 := Enters.mk' Tryz.func180 (by kernel_rfl) (by kernel_rfl)
instance : Enters Tryz.prog 181 := Enters.mk' Tryz.func181 (by kernel_rfl) (by kernel_rfl)
instance : Enters Tryz.prog 182 := Enters.mk' Tryz.func182 (by kernel_rfl) (by kernel_rfl)
instance : Enters Tryz.prog 183 := Enters.mk' Tryz.func183 (by kernel_rfl) (by kernel_rfl)
instance : Enters Tryz.prog 184 := Enters.mk' Tryz.func184 (by kernel_rfl) (by kernel_rfl)
instance : Enters Tryz.prog 185 := Enters.mk' Tryz.func185 (by kernel_rfl) (by kernel_rfl)
instance : Enters Tryz.prog 186 := Enters.mk' Tryz.func186 (by kernel_rfl) (by kernel_rfl)
instance : Enters Tryz.prog 187 := Enters.mk' Tryz.func187 (by kernel_rfl) (by kernel_rfl)
instance : Enters Tryz.prog 188 := Enters.mk' Tryz.func188 (by kernel_rfl) (by kernel_rfl)
instance : Enters Tryz.prog 189 := Enters.mk' Tryz.func189 (by kernel_rfl) (by kernel_rfl)
instance : Enters Tryz.prog 190 := Enters.mk' Tryz.func190 (by kernel_rfl) (by kernel_rfl)
instance : Enters Tryz.prog 191 := Enters.mk' Tryz.func191 (by kernel_rfl) (by kernel_rfl)
instance : Enters Tryz.prog 192 := Enters.mk' Tryz.func192 (by kernel_rfl) (by kernel_rfl)
instance : Enters Tryz.prog 193 := Enters.mk' Tryz.func193 (by kernel_rfl) (by kernel_rfl)
instance : Enters Tryz.prog 194 := Enters.mk' Tryz.func194 (by kernel_rfl) (by kernel_rfl)
instance : Enters Tryz.prog 195 := Enters.mk' Tryz.func195 (by kernel_rfl) (by kernel_rfl)
instance : Enters Tryz.prog 196 := Enters.mk' Tryz.func196 (by kernel_rfl) (by kernel_rfl)
instance : Enters Tryz.prog 197 := Enters.mk' Tryz.func197 (by kernel_rfl) (by kernel_rfl)
instance : Enters Tryz.prog 198 := Enters.mk' Tryz.func198 (by kernel_rfl) (by kernel_rfl)
instance : Enters Tryz.prog 199 := Enters.mk' Tryz.func199 (by kernel_rfl) (by kernel_rfl)
instance : Enters Tryz.prog 200 := Enters.mk' Tryz.func200 (by kernel_rfl) (by kernel_rfl)
instance : Enters Tryz.prog 201 := Enters.mk' Tryz.func201 (by kernel_rfl) (by kernel_rfl)
instance : Enters Tryz.prog 202 := Enters.mk' Tryz.func202 (by kernel_rfl) (by kernel_rfl)
instance : Enters Tryz.prog 203 := Enters.mk' Tryz.func203 (by kernel_rfl) (by kernel_rfl)
instance : Enters Tryz.prog 204 := Enters.mk' Tryz.func204 (by kernel_rfl) (by kernel_rfl)
instance : Enters Tryz.prog 205 := Enters.mk' Tryz.func205 (by kernel_rfl) (by kernel_rfl)
instance : Enters Tryz.prog 206 := Enters.mk' Tryz.func206 (by kernel_rfl) (by kernel_rfl)
instance : Enters Tryz.prog 207 := Enters.mk' Tryz.func207 (by kernel_rfl) (by kernel_rfl)
instance : Enters Tryz.prog 208 := Enters.mk' Tryz.func208 (by kernel_rfl) (by kernel_rfl)
instance : Enters Tryz.prog 209 := Enters.mk' Tryz.func209 (by kernel_rfl) (by kernel_rfl)
instance : Enters Tryz.prog 210 := Enters.mk' Tryz.func210 (by kernel_rfl) (by kernel_rfl)
instance : Enters Tryz.prog 211 := Enters.mk' Tryz.func211 (by kernel_rfl) (by kernel_rfl)
instance : Enters Tryz.prog 212 := Enters.mk' Tryz.func212 (by kernel_rfl) (by kernel_rfl)
instance : Enters Tryz.prog 213 := Enters.mk' Tryz.func213 (by kernel_rfl) (by kernel_rfl)
instance : Enters Tryz.prog 214 := Enters.mk' Tryz.func214 (by kernel_rfl) (by kernel_rfl)
instance : Enters Tryz.prog 215 := Enters.mk' Tryz.func215 (by kernel_rfl) (by kernel_rfl)
instance : Enters Tryz.prog 216 := Enters.mk' Tryz.func216 (by kernel_rfl) (by kernel_rfl)
instance : Enters Tryz.prog 217 := Enters.mk' Tryz.func217 (by kernel_rfl) (by kernel_rfl)
instance : Enters Tryz.prog 218 := Enters.mk' Tryz.func218 (by kernel_rfl) (by kernel_rfl)
instance : Enters Tryz.prog 219 := Enters.mk' Tryz.func219 (by kernel_rfl) (by kernel_rfl)
instance : Enters Tryz.prog 220 := Enters.mk' Tryz.func220 (by kernel_rfl) (by kernel_rfl)
instance : Enters Tryz.prog 221 := Enters.mk' Tryz.func221 (by kernel_rfl) (by kernel_rfl)
instance : Enters Tryz.prog 222 := Enters.mk' Tryz.func222 (by kernel_rfl) (by kernel_rfl)
instance : Enters Tryz.prog 223 := Enters.mk' Tryz.func223 (by kernel_rfl) (by kernel_rfl)
instance : Enters Tryz.prog 224 := Enters.mk' Tryz.func224 (by kernel_rfl) (by kernel_rfl)
instance : Enters Tryz.prog 225 := Enters.mk' Tryz.func225 (by kernel_rfl) (by kernel_rfl)
instance : Enters Tryz.prog 226 := Enters.mk' Tryz.func226 (by kernel_rfl) (by kernel_rfl)
instance : Enters Tryz.prog 227 := Enters.mk' Tryz.func227 (by kernel_rfl) (by kernel_rfl)
instance : Enters Tryz.prog 228 := Enters.mk' Tryz.func228 (by kernel_rfl) (by kernel_rfl)
instance : Enters Tryz.prog 229 := Enters.mk' Tryz.func229 (by kernel_rfl) (by kernel_rfl)
instance : Enters Tryz.prog 230 := Enters.mk' Tryz.func230 (by kernel_rfl) (by kernel_rfl)
instance : Enters Tryz.prog 231 := Enters.mk' Tryz.func231 (by kernel_rfl) (by kernel_rfl)
instance : Enters Tryz.prog 232 := Enters.mk' Tryz.func232 (by kernel_rfl) (by kernel_rfl)
instance : Enters Tryz.prog 233 := Enters.mk' Tryz.func233 (by kernel_rfl) (by kernel_rfl)
instance : Enters Tryz.prog 234 := Enters.mk' Tryz.func234 (by kernel_rfl) (by kernel_rfl)
instance : Enters Tryz.prog 235 := Enters.mk' Tryz.func235 (by kernel_rfl) (by kernel_rfl)
instance : Enters Tryz.prog 236 := Enters.mk' Tryz.func236 (by kernel_rfl) (by kernel_rfl)
instance : Enters Tryz.prog 237 := Enters.mk' Tryz.func237 (by kernel_rfl) (by kernel_rfl)
instance : Enters Tryz.prog 238 := Enters.mk' Tryz.func238 (by kernel_rfl) (by kernel_rfl)
instance : Enters Tryz.prog 239 := Enters.mk' Tryz.func239 (by kernel_rfl) (by kernel_rfl)
instance : Enters Tryz.prog 240 := Enters.mk' Tryz.func240 (by kernel_rfl) (by kernel_rfl)
instance : Enters Tryz.prog 241 := Enters.mk' Tryz.func241 (by kernel_rfl) (by kernel_rfl)
instance : Enters Tryz.prog 242 := Enters.mk' Tryz.func242 (by kernel_rfl) (by kernel_rfl)
instance : Enters Tryz.prog 243 := Enters.mk' Tryz.func243 (by kernel_rfl) (by kernel_rfl)
instance : Enters Tryz.prog 244 := Enters.mk' Tryz.func244 (by kernel_rfl) (by kernel_rfl)
instance : Enters Tryz.prog 245 := Enters.mk' Tryz.func245 (by kernel_rfl) (by kernel_rfl)
instance : Enters Tryz.prog 246 := Enters.mk' Tryz.func246 (by kernel_rfl) (by kernel_rfl)
instance : Enters Tryz.prog 247 := Enters.mk' Tryz.func247 (by kernel_rfl) (by kernel_rfl)
instance : Enters Tryz.prog 248 := Enters.mk' Tryz.func248 (by kernel_rfl) (by kernel_rfl)
instance : Enters Tryz.prog 249 := Enters.mk' Tryz.func249 (by kernel_rfl) (by kernel_rfl)
instance : Enters Tryz.prog 250 := Enters.mk' Tryz.func250 (by kernel_rfl) (by kernel_rfl)
instance : Enters Tryz.prog 251 := Enters.mk' Tryz.func251 (by kernel_rfl) (by kernel_rfl)
instance : Enters Tryz.prog 252 := Enters.mk' Tryz.func252 (by kernel_rfl) (by kernel_rfl)
instance : Enters Tryz.prog 253 := Enters.mk' Tryz.func253 (by kernel_rfl) (by kernel_rfl)
instance : Enters Tryz.prog 254 := Enters.mk' Tryz.func254 (by kernel_rfl) (by kernel_rfl)
instance : Enters Tryz.prog 255 := Enters.mk' Tryz.func255 (by kernel_rfl) (by kernel_rfl)
instance : Enters Tryz.prog 256 := Enters.mk' Tryz.func256 (by kernel_rfl) (by kernel_rfl)
instance : Enters Tryz.prog 257 := Enters.mk' Tryz.func257 (by kernel_rfl) (by kernel_rfl)
instance : Enters Tryz.prog 258 := Enters.mk' Tryz.func258 (by kernel_rfl) (by kernel_rfl)
instance : Enters Tryz.prog 259 := Enters.mk' Tryz.func259 (by kernel_rfl) (by kernel_rfl)
instance : Enters Tryz.prog 260 := Enters.mk' Tryz.func260 (by kernel_rfl) (by kernel_rfl)
instance : Enters Tryz.prog 261 := Enters.mk' Tryz.func261 (by kernel_rfl) (by kernel_rfl)
instance : Enters Tryz.prog 262 := Enters.mk' Tryz.func262 (by kernel_rfl) (by kernel_rfl)
instance : Enters Tryz.prog 263 := Enters.mk' Tryz.func263 (by kernel_rfl) (by kernel_rfl)
instance : Enters Tryz.prog 264 := Enters.mk' Tryz.func264 (by kernel_rfl) (by kernel_rfl)
instance : Enters Tryz.prog 265 := Enters.mk' Tryz.func265 (by kernel_rfl) (by kernel_rfl)
instance : Enters Tryz.prog 266 := Enters.mk' Tryz.func266 (by kernel_rfl) (by kernel_rfl)
instance : Enters Tryz.prog 267 := Enters.mk' Tryz.func267 (by kernel_rfl) (by kernel_rfl)
instance : Enters Tryz.prog 268 := Enters.mk' Tryz.func268 (by kernel_rfl) (by kernel_rfl)
instance : Enters Tryz.prog 269 := Enters.mk' Tryz.func269 (by kernel_rfl) (by kernel_rfl)
instance : Enters Tryz.prog 270 := Enters.mk' Tryz.func270 (by kernel_rfl) (by kernel_rfl)
instance : Enters Tryz.prog 271 := Enters.mk' Tryz.func271 (by kernel_rfl) (by kernel_rfl)
instance : Enters Tryz.prog 272 := Enters.mk' Tryz.func272 (by kernel_rfl) (by kernel_rfl)
instance : Enters Tryz.prog 273 := Enters.mk' Tryz.func273 (by kernel_rfl) (by kernel_rfl)
instance : Enters Tryz.prog 274 := Enters.mk' Tryz.func274 (by kernel_rfl) (by kernel_rfl)
instance : Enters Tryz.prog 275 := Enters.mk' Tryz.func275 (by kernel_rfl) (by kernel_rfl)
instance : Enters Tryz.prog 276 := Enters.mk' Tryz.func276 (by kernel_rfl) (by kernel_rfl)
instance : Enters Tryz.prog 277 := Enters.mk' Tryz.func277 (by kernel_rfl) (by kernel_rfl)
instance : Enters Tryz.prog 278 := Enters.mk' Tryz.func278 (by kernel_rfl) (by kernel_rfl)
instance : Enters Tryz.prog 279 := Enters.mk' Tryz.func279 (by kernel_rfl) (by kernel_rfl)
instance : Enters Tryz.prog 280 := Enters.mk' Tryz.func280 (by kernel_rfl) (by kernel_rfl)
instance : Enters Tryz.prog 281 := Enters.mk' Tryz.func281 (by kernel_rfl) (by kernel_rfl)
instance : Enters Tryz.prog 282 := Enters.mk' Tryz.func282 (by kernel_rfl) (by kernel_rfl)
instance : Enters Tryz.prog 283 := Enters.mk' Tryz.func283 (by kernel_rfl) (by kernel_rfl)
instance : Enters Tryz.prog 284 := Enters.mk' Tryz.func284 (by kernel_rfl) (by kernel_rfl)
instance : Enters Tryz.prog 285 := Enters.mk' Tryz.func285 (by kernel_rfl) (by kernel_rfl)
instance : Enters Tryz.prog 286 := Enters.mk' Tryz.func286 (by kernel_rfl) (by kernel_rfl)
instance : Enters Tryz.prog 287 := Enters.mk' Tryz.func287 (by kernel_rfl) (by kernel_rfl)
instance : Enters Tryz.prog 288 := Enters.mk' Tryz.func288 (by kernel_rfl) (by kernel_rfl)
instance : Enters Tryz.prog 289 := Enters.mk' Tryz.func289 (by kernel_rfl) (by kernel_rfl)
instance : Enters Tryz.prog 290 := Enters.mk' Tryz.func290 (by kernel_rfl) (by kernel_rfl)
instance : Enters Tryz.prog 291 := Enters.mk' Tryz.func291 (by kernel_rfl) (by kernel_rfl)
instance : Enters Tryz.prog 292 := Enters.mk' Tryz.func292 (by kernel_rfl) (by kernel_rfl)
instance : Enters Tryz.prog 293 := Enters.mk' Tryz.func293 (by kernel_rfl) (by kernel_rfl)
instance : Enters Tryz.prog 294 := Enters.mk' Tryz.func294 (by kernel_rfl) (by kernel_rfl)
instance : Enters Tryz.prog 295 := Enters.mk' Tryz.func295 (by kernel_rfl) (by kernel_rfl)
instance : Enters Tryz.prog 296 := Enters.mk' Tryz.func296 (by kernel_rfl) (by kernel_rfl)
instance : Enters Tryz.prog 297 := Enters.mk' Tryz.func297 (by kernel_rfl) (by kernel_rfl)
instance : Enters Tryz.prog 298 := Enters.mk' Tryz.func298 (by kernel_rfl) (by kernel_rfl)
instance : Enters Tryz.prog 299 := Enters.mk' Tryz.func299 (by kernel_rfl) (by kernel_rfl)
instance : Enters Tryz.prog 300 := Enters.mk' Tryz.func300 (by kernel_rfl) (by kernel_rfl)
instance : Enters Tryz.prog 301 := Enters.mk' Tryz.func301 (by kernel_rfl) (by kernel_rfl)
instance : Enters Tryz.prog 302 := Enters.mk' Tryz.func302 (by kernel_rfl) (by kernel_rfl)
instance : Enters Tryz.prog 303 := Enters.mk' Tryz.func303 (by kernel_rfl) (by kernel_rfl)
instance : Enters Tryz.prog 304 := Enters.mk' Tryz.func304 (by kernel_rfl) (by kernel_rfl)
instance : Enters Tryz.prog 305 := Enters.mk' Tryz.func305 (by kernel_rfl) (by kernel_rfl)
instance : Enters Tryz.prog 307 := Enters.mk' Tryz.func307 (by kernel_rfl) (by kernel_rfl)
instance : Enters Tryz.prog 308 := Enters.mk' Tryz.func308 (by kernel_rfl) (by kernel_rfl)
instance : Enters Tryz.prog 310 := Enters.mk' Tryz.func310 (by kernel_rfl) (by kernel_rfl)
instance : Enters Tryz.prog 311 := Enters.mk' Tryz.func311 (by kernel_rfl) (by kernel_rfl)
instance : Enters Tryz.prog 312 := Enters.mk' Tryz.func312 (by kernel_rfl) (by kernel_rfl)
instance : Enters Tryz.prog 313 := Enters.mk' Tryz.func313 (by kernel_rfl) (by kernel_rfl)
instance : Enters Tryz.prog 314 := Enters.mk' Tryz.func314 (by kernel_rfl) (by kernel_rfl)
instance : Enters Tryz.prog 315 := Enters.mk' Tryz.func315 (by kernel_rfl) (by kernel_rfl)
instance : Enters Tryz.prog 316 := Enters.mk' Tryz.func316 (by kernel_rfl) (by kernel_rfl)
instance : Enters Tryz.prog 317 := Enters.mk' Tryz.func317 (by kernel_rfl) (by kernel_rfl)
instance : Enters Tryz.prog 318 := Enters.mk' Tryz.func318 (by kernel_rfl) (by kernel_rfl)
instance : Enters Tryz.prog 321 := Enters.mk' Tryz.func321 (by kernel_rfl) (by kernel_rfl)
instance : Enters Tryz.prog 322 := Enters.mk' Tryz.func322 (by kernel_rfl) (by kernel_rfl)
instance : Enters Tryz.prog 323 := Enters.mk' Tryz.func323 (by kernel_rfl) (by kernel_rfl)
instance : Enters Tryz.prog 324 := Enters.mk' Tryz.func324 (by kernel_rfl) (by kernel_rfl)
instance : Enters Tryz.prog 325 := Enters.mk' Tryz.func325 (by kernel_rfl) (by kernel_rfl)
instance : Enters Tryz.prog 326 := Enters.mk' Tryz.func326 (by kernel_rfl) (by kernel_rfl)
instance : Enters Tryz.prog 327 := Enters.mk' Tryz.func327 (by kernel_rfl) (by kernel_rfl)
instance : Enters Tryz.prog 328 := Enters.mk' Tryz.func328 (by kernel_rfl) (by kernel_rfl)
instance : Enters Tryz.prog 329 := Enters.mk' Tryz.func329 (by kernel_rfl) (by kernel_rfl)
instance : Enters Tryz.prog 330 := Enters.mk' Tryz.func330 (by kernel_rfl) (by kernel_rfl)
instance : Enters Tryz.prog 331 := Enters.mk' Tryz.func331 (by kernel_rfl) (by kernel_rfl)
instance : Enters Tryz.prog 332 := Enters.mk' Tryz.func332 (by kernel_rfl) (by kernel_rfl)
instance : Enters Tryz.prog 333 := Enters.mk' Tryz.func333 (by kernel_rfl) (by kernel_rfl)
instance : Enters Tryz.prog 334 := Enters.mk' Tryz.func334 (by kernel_rfl) (by kernel_rfl)
instance : Enters Tryz.prog 335 := Enters.mk' Tryz.func335 (by kernel_rfl) (by kernel_rfl)
instance : Enters Tryz.prog 336 := Enters.mk' Tryz.func336 (by kernel_rfl) (by kernel_rfl)
instance : Enters Tryz.prog 337 := Enters.mk' Tryz.func337 (by kernel_rfl) (by kernel_rfl)
instance : Enters Tryz.prog 338 := Enters.mk' Tryz.func338 (by kernel_rfl) (by kernel_rfl)
instance : Enters Tryz.prog 339 := Enters.mk' Tryz.func339 (by kernel_rfl) (by kernel_rfl)
instance : Enters Tryz.prog 340 := Enters.mk' Tryz.func340 (by kernel_rfl) (by kernel_rfl)
instance : Enters Tryz.prog 341 := Enters.mk' Tryz.func341 (by kernel_rfl) (by kernel_rfl)
instance : Enters Tryz.prog 342 := Enters.mk' Tryz.func342 (by kernel_rfl) (by kernel_rfl)
instance : Enters Tryz.prog 343 := Enters.mk' Tryz.func343 (by kernel_rfl) (by kernel_rfl)
instance : Enters Tryz.prog 373 := Enters.mk' Tryz.func373 (by kernel_rfl) (by kernel_rfl)
theorem mixed : Tryz.prog.follows .mixedOrders = true := by kernel_rfl
end Go.Lx
