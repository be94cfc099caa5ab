/- Own layer, part c: the rules of the operations that only yield a value (copies, numbers, addresses, fields, indexes, loads), and the two assertions on memory (a block of cells; a slice's own row). Plain theorems. -/
import Derived.Test.YtkjhepgohacmiaaGreatXb
namespace Go.Lx
set_option linter.unusedVariables false
set_option linter.unusedSimpArgs false

/-! ### types, as classes: each program's instances are laid in a text of their own -/
class SlT (P : Program) (t : TypeId) (e : outParam TypeId) : Prop where und : P.underlying t = some (.slice e)
class StrT (P : Program) (t : TypeId) : Prop where und : P.underlying t = some .string
class IntT (P : Program) (t : TypeId) (k : outParam IntKind) : Prop where und : P.underlying t = some (.int k)
class BoolT (P : Program) (t : TypeId) : Prop where und : P.underlying t = some .bool
class PtrT (P : Program) (t : TypeId) (e : outParam TypeId) : Prop where und : P.underlying t = some (.pointer e)
class ArrT (P : Program) (t : TypeId) (n : outParam Nat) (e : outParam TypeId) : Prop where und : P.underlying t = some (.array n e)
class Sz (P : Program) (t : TypeId) (n : outParam Nat) : Prop where run : ∀ w, (sizeOf t).run P w = .ok n w
class One (P : Program) (t : TypeId) : Prop where
  one : ∀ w, (isAgg t).run P w = .ok false w
class Ag (P : Program) (t : TypeId) : Prop where
  agg : ∀ w, (isAgg t).run P w = .ok true w
class Zr (P : Program) (t : TypeId) (z : outParam Value) : Prop where run : ∀ w, (zeroValue t).run P w = .ok z w
class Fld (P : Program) (t : TypeId) (f : Nat) (off : outParam Nat) (ft : outParam TypeId) : Prop where
  fs : ∃ fs fd, P.underlying t = some (.struct fs) ∧ fs[f]? = some fd ∧ fd.offset = off ∧ fd.type = ft
class Enters (P : Program) (f : FuncId) : Prop where run : ∀ args w, (callFunc f args).run P w = .ok (.enter f args) w

variable {P : Program}
theorem Sz.mk' {t n : Nat} (h : ((P.info? t).map (·.size)) = some n) : Sz P t n := ⟨fun w => by
  cases hi : P.info? t with
  | none => simp [hi] at h
  | some i => simp [hi] at h; simp [sizeOf, typeInfo, hi, h]⟩
theorem One.mk' {t : Nat} {d : TypeDesc} (h : P.underlying t = some d) (hd : (match d with | .struct _ | .array _ _ => false | _ => true) = true) : One P t := ⟨fun w => by
  cases d <;> simp [isAgg, run_underlying h] at hd ⊢⟩
theorem Ag.mk' {t : Nat} {d : TypeDesc} (h : P.underlying t = some d) (hd : (match d with | .struct _ | .array _ _ => true | _ => false) = true) : Ag P t := ⟨fun w => by
  cases d <;> simp [isAgg, run_underlying h] at hd ⊢⟩
theorem Zr.mk' {t : Nat} {z : Value} (h : ((P.info? t).bind (·.zero)) = some z) : Zr P t z := ⟨fun w => by
  cases hi : P.info? t with
  | none => simp [hi] at h
  | some i => simp [hi] at h; simp [zeroValue, typeInfo, hi, h]⟩
theorem Fld.mk' {t f off ft : Nat} {fs : Array Field} (h : P.underlying t = some (.struct fs)) (hf : (fs[f]?).map (fun d => (d.offset, d.type)) = some (off, ft)) : Fld P t f off ft := ⟨by
  cases hq : fs[f]? with
  | none => simp [hq] at hf
  | some d => simp [hq] at hf; exact ⟨fs, d, h, hq, hf.1, hf.2⟩⟩
theorem Enters.mk' {f : FuncId} {fn : Func} (hf : P.funcs[f]? = some fn) (hn : (fn.name == "runtime.NumGoroutine") = false) (hb : fn.body.isSome = true) : Enters P f := ⟨fun args w => by
  have hb' : ¬ fn.body = none := fun h => by simp [h] at hb
  have hn' : ¬ fn.name = "runtime.NumGoroutine" := by simpa using hn
  simp [callFunc, hf, hn', hb']⟩

/-! ### assertions -/
/-- A block of the told cells, all of it. -/
def cells (g : Nat) (cs : List Value) (T : TypeId) : Assn where
  holds w F := w.heap[g]? = some (.cells cs.toArray T (0, 0)) ∧ ∀ b, F b ↔ b = g
  loc := fun ⟨h, hF⟩ hk => ⟨(hk g ((hF g).2 rfl)).trans h, hF⟩
  dom := fun ⟨h, hF⟩ hb => by
    rw [(hF _).1 hb]
    exact (Array.getElem?_eq_some_iff.1 h).1

/-- A slice that owns its row: xs are the cells of its n elements. -/
def own (T : TypeId) (sz : Nat) (v : Value) (n : Nat) (xs : List Value) : Assn where
  holds w F := w.ownsRow 0 T sz v n xs ∧ ∀ b, F b ↔ v.ownBlock = some b
  loc := fun {w w' F} ⟨h, hF⟩ hk => ⟨by
    refine ⟨h.1, ?_⟩
    rcases h.2 with hn | ⟨g, cap, cur, rfl, hb, hgg, rest⟩
    · exact .inl hn
    · exact .inr ⟨g, cap, cur, rfl, hb, (hk g ((hF g).2 rfl)).trans hgg, rest⟩, hF⟩
  dom := fun {w F b} ⟨h, hF⟩ hb => (h.lt b ((hF b).1 hb)).2

/-- Where assertions tell of a block. -/
class Loc (A : List Assn) (g : Nat) (cs : outParam (List Value)) (T : outParam TypeId) (i : outParam Nat) : Prop where at_ : A[i]? = some (cells g cs T)
instance {A : List Assn} {g : Nat} {cs : List Value} {T : TypeId} : Loc (cells g cs T :: A) g cs T 0 := ⟨rfl⟩
instance (priority := low) {A : List Assn} {p : Assn} {g : Nat} {cs : List Value} {T : TypeId} {i : Nat} [h : Loc A g cs T i] : Loc (p :: A) g cs T (i + 1) := ⟨by simpa using h.at_⟩
class OwnAt (A : List Assn) (v : Value) (T : outParam TypeId) (sz n : outParam Nat) (xs : outParam (List Value)) (i : outParam Nat) : Prop where at_ : A[i]? = some (own T sz v n xs)
instance {A : List Assn} {v : Value} {T : TypeId} {sz n : Nat} {xs : List Value} : OwnAt (own T sz v n xs :: A) v T sz n xs 0 := ⟨rfl⟩
instance (priority := low) {A : List Assn} {p : Assn} {v : Value} {T : TypeId} {sz n : Nat} {xs : List Value} {i : Nat} [h : OwnAt A v T sz n xs i] : OwnAt (p :: A) v T sz n xs (i + 1) := ⟨by simpa using h.at_⟩

/-- The cell k behind a slice's first one. -/
def el (a : Option Addr) (k : Nat) : Addr := (a.getD ⟨0, 0, none⟩).add k
theorem el_add (a : Option Addr) (k j : Nat) : (el a k).add j = el a (k + j) := by
  unfold el Addr.add
  by_cases hk : k = 0
  · subst hk; simp
  · by_cases hj : j = 0
    · subst hj; simp [hk]
    · simp [hk, hj, Nat.add_assoc]
theorem at_add (g o j : Nat) : (⟨g, o, none⟩ : Addr).add j = ⟨g, o + j, none⟩ := by
  unfold Addr.add
  by_cases hj : j = 0
  · subst hj; simp
  · simp [hj]

/-- A slice that may be read: its n elements have the cells cs. -/
structure Rd (w : World) (sz : Nat) (a : Option Addr) (n c : Nat) (cs : List Value) : Prop where
  len : cs.length = n * sz
  le : n ≤ c
  mx : c ≤ maxLen
  sm : 0 < n → a.isSome = true
  cell : ∀ j v, cs[j]? = some v → w.cell? (el a j) = some v

variable {C : Cx} {A : List Assn} {w : World}

/-- The cells of an element. -/
theorem flat_get {α : Type} (f : α → List Value) (sz : Nat) (hf : ∀ x, (f x).length = sz) : ∀ (xs : List α) (m j : Nat) (x : α), xs[m]? = some x → j < sz → (xs.flatMap f)[m * sz + j]? = (f x)[j]?
  | [], _, _, _, h, _ => by cases h
  | y :: ys, 0, j, x, h, hj => by
    simp at h
    subst h
    rw [List.flatMap_cons, List.getElem?_append_left (by rw [hf]; omega)]
    simp
  | y :: ys, m + 1, j, x, h, hj => by
    rw [List.flatMap_cons, List.getElem?_append_right (by rw [hf, Nat.add_mul]; omega), hf]
    have : (m + 1) * sz + j - sz = m * sz + j := by rw [Nat.add_mul]; omega
    rw [this]
    exact flat_get f sz hf ys m j x (by simpa using h) hj
theorem flat_len {α : Type} (f : α → List Value) (sz : Nat) (hf : ∀ x, (f x).length = sz) (xs : List α) : (xs.flatMap f).length = xs.length * sz := by
  induction xs with
  | nil => simp
  | cons x xs ih => rw [List.flatMap_cons, List.length_append, hf, ih, List.length_cons, Nat.add_mul]; omega

theorem Rd.nil (w : World) (sz : Nat) : Rd w sz none 0 0 [] := ⟨by simp, Nat.le_refl _, by unfold maxLen; omega, fun h => by omega, fun _ _ h => by cases h⟩

theorem Rd.elem {α : Type} {sz n c m : Nat} {a : Option Addr} {f : α → List Value} {xs : List α} {x : α} (h : Rd w sz a n c (xs.flatMap f)) (hf : ∀ x, (f x).length = sz) (hx : xs[m]? = some x) : ∀ j u, (f x)[j]? = some u → w.cell? ((el a (m * sz)).add j) = some u := by
  intro j u hu
  have hj : j < sz := by rw [← hf x]; exact (List.getElem?_eq_some_iff.1 hu).1
  rw [el_add]
  exact h.cell _ u (by rw [flat_get f sz hf xs m j x hx hj]; exact hu)
theorem Conf.cell0 (h : Conf C A w) {p : Addr} {v : Value} (hp : C.w0.cell? p = some v) (hH : ¬ C.H p.block) : w.cell? p = some v := by
  have hb := World.block_lt_of_cell? C.w0 p hp
  have := h.keep p.block hb hH
  rw [← hp]
  unfold World.cell?
  rw [this]

theorem Rd.conf {sz n c : Nat} {a : Option Addr} {cs : List Value} (h : Rd C.w0 sz a n c cs) (hH : ∀ j v, cs[j]? = some v → ¬ C.H (el a j).block) (hw : Conf C A w) : Rd w sz a n c cs :=
  ⟨h.len, h.le, h.mx, h.sm, fun j v hj => hw.cell0 (h.cell j v hj) (hH j v hj)⟩
theorem Rd.conf0 {P : Program} {m : Nat} {w0 : World} {sz n c : Nat} {a : Option Addr} {cs : List Value} (h : Rd w0 sz a n c cs) (hw : Conf ⟨P, m, w0, fun _ => False⟩ A w) : Rd w sz a n c cs :=
  Rd.conf (C := ⟨P, m, w0, fun _ => False⟩) h (fun _ _ _ h => h) hw

theorem own_rd {T sz n c : Nat} {a : Option Addr} {m : Nat} {xs : List Value} {F : Nat → Prop} (h : (own T sz (.slice a n c) m xs).holds w F) : Rd w sz a n c xs ∧ m = n := by
  obtain ⟨⟨hl, h⟩, _⟩ := h
  rcases h with ⟨he, rfl⟩ | ⟨g, cap, cur, he, _, hg, hn, hm, hs, ht⟩
  · cases he
    exact ⟨⟨hl, Nat.le_refl _, by unfold maxLen; omega, fun h => by omega, fun j v hj => by
      have : xs = [] := List.length_eq_zero_iff.1 (by simpa using hl)
      subst this; cases hj⟩, rfl⟩
  · cases he
    refine ⟨⟨hl, hn, hm, fun _ => rfl, fun j v hj => ?_⟩, rfl⟩
    have : el (some ⟨g, 0, none⟩) j = ⟨g, j, none⟩ := by simp [el, at_add]
    rw [this]
    rw [← ht, List.getElem?_take] at hj
    split at hj
    · simp [World.cell?, hg]
      simpa using hj
    · cases hj

theorem Conf.ownRd {T sz n c m i : Nat} {a : Option Addr} {xs : List Value} (h : Conf C A w) (hi : A[i]? = some (own T sz (.slice a n c) m xs)) : Rd w sz a n c xs := by
  obtain ⟨F, hF, _⟩ := h.get hi
  exact (own_rd hF).1
theorem Conf.loc {g i T : Nat} {cs : List Value} (h : Conf C A w) (hi : A[i]? = some (cells g cs T)) : w.heap[g]? = some (.cells cs.toArray T (0, 0)) := by
  obtain ⟨F, hF, _⟩ := h.get hi
  exact hF.1
theorem Conf.cellAt {g i T o : Nat} {cs : List Value} {v : Value} (h : Conf C A w) (hi : A[i]? = some (cells g cs T)) (hv : cs[o]? = some v) : w.cell? ⟨g, o, none⟩ = some v := by
  simp [World.cell?, h.loc hi, hv]

/-! ### what an operation yields -/
/-- In every world that meets S the operation yields v, and does nothing else. -/
structure Det (C : Cx) (S : World → Prop) (env : Env) (o : Oper) (v : Value) : Prop where
  go : ∀ a w, EnvOK C.n env a → S w → (execOp a.eval o).run C.P w = .ok (.value v) w

def gok (ops : Array Oper) (env : Env) (o : Oper) : Option Bool :=
  match o.guard with
  | none => some true
  | some (j, b) => match (ops[j]?).bind (·.dst) with
    | some t => match env.lookup t with
      | some (.bool c) => some (c == b)
      | some _ => some false
      | none => none
    | none => none

theorem gok_wanted {ops : Array Oper} {env : Env} {o : Oper} {n : Kd} {a : Act} {r : Bool} (h : gok ops env o = some r) (he : EnvOK n env a) : Region.wanted o (yielded ops a.tmps) = r := by
  unfold gok at h
  unfold Region.wanted
  split at h
  · rename_i hg; rw [hg]; simpa using h
  · rename_i j b hg
    rw [hg]
    split at h
    · rename_i t ht
      split at h
      · rename_i c hc
        have := he.vals t _ hc
        simp only [Option.some.injEq] at h
        simp only [yielded, ht, Option.bind_some, this]
        rw [← h]
        cases c <;> cases b <;> rfl
      · rename_i u hnb hu
        have := he.vals t _ hu
        simp only [Option.some.injEq] at h
        simp only [yielded, ht, Option.bind_some, this]
        rw [← h]
        cases u <;> first | (exfalso; exact hnb _ rfl) | (cases b <;> rfl)
      · cases h
    · cases h

variable {Q : Exit → Act → World → Prop} {S : World → Prop} {env : Env} {ops : Array Oper} {r : Sd} {i d : Nat} {o : Oper} {v : Value}

theorem XL.det0 (ho : ops[i]? = some o) (hg : gok ops env o = some true) (hd : o.dst = some d) (hdn : Nat.blt d C.n.n = true) (h : Det C (fun _ => True) env o v) (k : XL C ops Q S r ((d, v) :: env) A) : XL C ops Q S (.op .v0 i r) env A :=
  ⟨fun a w he hc => ⟨o, v, ho, .inl ⟨gok_wanted hg he, fun w => h.go a w he trivial⟩, by rw [hd]; exact k.go _ w (he.put hdn v) hc⟩⟩
theorem XL.det1 (ho : ops[i]? = some o) (hg : gok ops env o = some true) (hd : o.dst = some d) (hdn : Nat.blt d C.n.n = true) (h : Det C S env o v) (k : XL C ops Q S r ((d, v) :: env) A) : XL C ops Q S (.op .v1 i r) env A :=
  ⟨fun a w he hc => ⟨o, v, ho, .inl ⟨gok_wanted hg he, fun w => h.go a w he⟩, by rw [hd]; exact k.go _ w (he.put hdn v) hc⟩⟩
theorem XL.detF (ho : ops[i]? = some o) (hg : gok ops env o = some true) (hd : o.dst = some d) (hdn : Nat.blt d C.n.n = true) (h : Det C (fun w => Conf C A w) env o v) (k : XL C ops Q S r ((d, v) :: env) A) : XL C ops Q S (.op .fin i r) env A :=
  ⟨fun a w he hc => by
    unfold wpT wpOp
    simp only [ho, gok_wanted hg he, if_true, Oper.wp, h.go a w he hc, Oper.upon, hd]
    exact .inl (k.go _ w (he.put hdn v) hc)⟩
theorem XL.det0F (ho : ops[i]? = some o) (hg : gok ops env o = some true) (hd : o.dst = some d) (hdn : Nat.blt d C.n.n = true) (h : Det C (fun _ => True) env o v) (k : XL C ops Q S r ((d, v) :: env) A) : XL C ops Q S (.op .fin i r) env A :=
  XL.detF ho hg hd hdn ⟨fun a w he _ => h.go a w he trivial⟩ k
/-- An operation that is not wanted (behind && or ||). -/
theorem XL.skip0 (ho : ops[i]? = some o) (hg : gok ops env o = some false) (hd : o.dst = some d) (hdn : Nat.blt d C.n.n = true) (k : XL C ops Q S r ((d, undef) :: env) A) : XL C ops Q S (.op .v0 i r) env A :=
  ⟨fun a w he hc => ⟨o, undef, ho, .inr ⟨gok_wanted hg he, rfl⟩, by rw [hd]; exact k.go _ w (he.put hdn undef) hc⟩⟩
theorem XL.skip1 (ho : ops[i]? = some o) (hg : gok ops env o = some false) (hd : o.dst = some d) (hdn : Nat.blt d C.n.n = true) (k : XL C ops Q S r ((d, undef) :: env) A) : XL C ops Q S (.op .v1 i r) env A :=
  ⟨fun a w he hc => ⟨o, undef, ho, .inr ⟨gok_wanted hg he, rfl⟩, by rw [hd]; exact k.go _ w (he.put hdn undef) hc⟩⟩
theorem XL.skipF (ho : ops[i]? = some o) (hg : gok ops env o = some false) (hd : o.dst = some d) (hdn : Nat.blt d C.n.n = true) (k : XL C ops Q S r ((d, undef) :: env) A) : XL C ops Q S (.op .fin i r) env A :=
  ⟨fun a w he hc => by
    unfold wpT wpOp
    simp only [ho, gok_wanted hg he, Bool.false_eq_true, if_false, hd]
    exact k.go _ w (he.put hdn undef) hc⟩
/-- A Bool is decided before the walk goes on. -/
theorem XL.split0 {p : Prop} [Decidable p] (ho : ops[i]? = some o) (hg : gok ops env o = some true) (hd : o.dst = some d) (hdn : Nat.blt d C.n.n = true) (h : Det C (fun _ => True) env o (.bool (decide p)))
    (k : p → XL C ops Q S r ((d, .bool true) :: env) A) (k' : ¬ p → XL C ops Q S r ((d, .bool false) :: env) A) : XL C ops Q S (.op .v0 i r) env A := by
  by_cases hp : p
  · exact XL.det0 ho hg hd hdn (by simpa [hp] using h) (k hp)
  · exact XL.det0 ho hg hd hdn (by simpa [hp] using h) (k' hp)
theorem XL.splitF {p : Prop} [Decidable p] (ho : ops[i]? = some o) (hg : gok ops env o = some true) (hd : o.dst = some d) (hdn : Nat.blt d C.n.n = true) (h : Det C (fun _ => True) env o (.bool (decide p)))
    (k : p → XL C ops Q S r ((d, .bool true) :: env) A) (k' : ¬ p → XL C ops Q S r ((d, .bool false) :: env) A) : XL C ops Q S (.op .fin i r) env A := by
  by_cases hp : p
  · exact XL.det0F ho hg hd hdn (by simpa [hp] using h) (k hp)
  · exact XL.det0F ho hg hd hdn (by simpa [hp] using h) (k' hp)

namespace D
variable {T : World → Prop} {x y z : Operand} {t u : TypeId} {k : IntKind} {a b : Int}

theorem move {ty : TypeId} {pos : String} {af : Array Edge} {gd : Option (Nat × Bool)} {ds : Option Tmp} (hx : ev env x = some v) : Det C T env ⟨ds, .move x, ty, pos, af, gd⟩ v := ⟨fun ac w he _ => by simp [execOp, he.ev hx]⟩
theorem assign {ty : TypeId} {pos : String} {af : Array Edge} {gd : Option (Nat × Bool)} {ds : Option Tmp} (hx : ev env x = some v) : Det C T env ⟨ds, .assign x, ty, pos, af, gd⟩ v := ⟨fun ac w he _ => by simp [execOp, he.ev hx]⟩
section
variable {ty : TypeId} {pos : String} {af : Array Edge} {gd : Option (Nat × Bool)} {ds : Option Tmp}
theorem pick {c : Bool} {v1 v2 : Value} (hx : ev env x = some (.bool c)) (hy : ev env y = some v1) (hz : ev env z = some v2) : Det C T env ⟨ds, .pick x y z, ty, pos, af, gd⟩ (if c then v1 else v2) := ⟨fun ac w he _ => by
  simp [execOp, he.ev hx, he.ev hy, he.ev hz, asBool]⟩
theorem pickT {v1 : Value} (hx : ev env x = some (.bool true)) (hy : ev env y = some v1) : Det C T env ⟨ds, .pick x y z, ty, pos, af, gd⟩ v1 := ⟨fun ac w he _ => by
  simp [execOp, he.ev hx, he.ev hy, asBool]⟩
theorem pickF {v2 : Value} (hx : ev env x = some (.bool false)) (hz : ev env z = some v2) : Det C T env ⟨ds, .pick x y z, ty, pos, af, gd⟩ v2 := ⟨fun ac w he _ => by
  simp [execOp, he.ev hx, he.ev hz, asBool]⟩

def intBin : BinOp → IntKind → Int → Int → Option Value
  | .add, k, a, b => some (.int k (k.wrap (a + b)))
  | .sub, k, a, b => some (.int k (k.wrap (a - b)))
  | .mul, k, a, b => some (.int k (k.wrap (a * b)))
  | .eql, _, a, b => some (.bool (decide (a = b)))
  | .neq, _, a, b => some (.bool (decide (a ≠ b)))
  | .lss, _, a, b => some (.bool (decide (a < b)))
  | .leq, _, a, b => some (.bool (decide (a ≤ b)))
  | .gtr, _, a, b => some (.bool (decide (a > b)))
  | .geq, _, a, b => some (.bool (decide (a ≥ b)))
  | _, _, _, _ => none

theorem eqGuard_int (op : BinOp) (t : TypeId) (x y : Operand) (k k' : IntKind) (a b : Int) (w : World) : (eqGuard op t x y (.int k a) (.int k' b)).run P w = .ok () w := by
  unfold eqGuard
  cases op <;> simp

theorem int {op : BinOp} (hx : ev env x = some (.int k a)) (hy : ev env y = some (.int k b)) (hr : intBin op k a b = some v) : Det C T env ⟨ds, .binOp op t x y u, ty, pos, af, gd⟩ v := ⟨fun ac w he _ => by
  simp only [execOp, he.ev hx, he.ev hy, Sem.run_bind, eqGuard_int, Result.andThen_ok]
  cases op <;> simp only [intBin, Option.some.injEq, reduceCtorEq] at hr <;> subst hr <;> simp [binOp, Op.intArith, Op.intCmp]
  all_goals rfl⟩

theorem wrap64_fit {n : Int} (h : -9223372036854775808 ≤ n ∧ n ≤ 9223372036854775807) : IntKind.i64.wrap n = n := by
  by_cases hn : 0 ≤ n
  · have h1 : n % 2 ^ 64 = n := by omega
    simp only [IntKind.wrap, IntKind.bits, IntKind.signed, h1]
    rw [if_neg (by simp; omega)]
  · have h1 : n % 2 ^ 64 = n + 2 ^ 64 := by omega
    simp only [IntKind.wrap, IntKind.bits, IntKind.signed, h1]
    rw [if_pos (by simp; omega)]
    omega
theorem add64 (hx : ev env x = some (.int .i64 a)) (hy : ev env y = some (.int .i64 b)) (h : -9223372036854775808 ≤ a + b ∧ a + b ≤ 9223372036854775807) : Det C T env ⟨ds, .binOp .add t x y u, ty, pos, af, gd⟩ (.int .i64 (a + b)) :=
  int hx hy (by simp only [intBin, wrap64_fit h])
theorem sub64 (hx : ev env x = some (.int .i64 a)) (hy : ev env y = some (.int .i64 b)) (h : -9223372036854775808 ≤ a - b ∧ a - b ≤ 9223372036854775807) : Det C T env ⟨ds, .binOp .sub t x y u, ty, pos, af, gd⟩ (.int .i64 (a - b)) :=
  int hx hy (by simp only [intBin, wrap64_fit h])
theorem mul64 (hx : ev env x = some (.int .i64 a)) (hy : ev env y = some (.int .i64 b)) (h : -9223372036854775808 ≤ a * b ∧ a * b ≤ 9223372036854775807) : Det C T env ⟨ds, .binOp .mul t x y u, ty, pos, af, gd⟩ (.int .i64 (a * b)) :=
  int hx hy (by simp only [intBin, wrap64_fit h])

theorem not {c : Bool} (hx : ev env x = some (.bool c)) : Det C T env ⟨ds, .unOp .not t x, ty, pos, af, gd⟩ (.bool !c) := ⟨fun ac w he _ => by
  simp [execOp, he.ev hx, Op.unary]⟩

theorem nilCheck {p : Addr} (hx : ev env x = some (.pointer (some p))) : Det C T env ⟨ds, .nilCheck x, ty, pos, af, gd⟩ (.pointer (some p)) := ⟨fun ac w he _ => by
  simp [execOp, he.ev hx]⟩

theorem fieldAddr {p : Addr} {f off ft sz : Nat} [h : Fld C.P t f off ft] [hs : Sz C.P ft sz] (hz : (sz == 0) = false) (hx : ev env x = some (.pointer (some p))) : Det C T env ⟨ds, .fieldAddr t x f, ty, pos, af, gd⟩ (.pointer (some (p.add off))) := ⟨fun ac w he _ => by
  obtain ⟨fs, fd, h1, h2, rfl, rfl⟩ := h.fs
  have hz' : ¬ sz = 0 := by simpa using hz
  simp [execOp, he.ev hx, Instr.fieldAt, run_underlying h1, h2, Instr.sureAddr, fieldPlace, hs.run, hz']⟩
theorem fieldAddrB {g o f off ft sz : Nat} [h : Fld C.P t f off ft] [hs : Sz C.P ft sz] (hz : (sz == 0) = false) (hx : ev env x = some (.pointer (some ⟨g, o, none⟩))) : Det C T env ⟨ds, .fieldAddr t x f, ty, pos, af, gd⟩ (.pointer (some ⟨g, o + off, none⟩)) := by
  rw [← at_add]
  exact fieldAddr hz hx
theorem fieldAddrE {a : Option Addr} {o f off ft sz : Nat} [h : Fld C.P t f off ft] [hs : Sz C.P ft sz] (hz : (sz == 0) = false) (hx : ev env x = some (.pointer (some (el a o)))) : Det C T env ⟨ds, .fieldAddr t x f, ty, pos, af, gd⟩ (.pointer (some (el a (o + off)))) := by
  rw [← el_add]
  exact fieldAddr hz hx

theorem field1 {cs : Array Value} {f off ft : Nat} [h : Fld C.P t f off ft] [h1 : One C.P ft] (hx : ev env x = some (.agg cs)) (hv : cs[off]? = some v) : Det C T env ⟨ds, .field t x f, ty, pos, af, gd⟩ v := ⟨fun ac w he _ => by
  obtain ⟨fs, fd, hf1, hf2, rfl, rfl⟩ := h.fs
  simp [execOp, he.ev hx, Instr.field, run_underlying hf1, hf2, part, asAgg, h1.one, hv]⟩
theorem fieldN {cs : Array Value} {f off ft sz : Nat} [h : Fld C.P t f off ft] [h1 : Ag C.P ft] [hs : Sz C.P ft sz] (hx : ev env x = some (.agg cs)) : Det C T env ⟨ds, .field t x f, ty, pos, af, gd⟩ (.agg (cs.extract off (off + sz))) := ⟨fun ac w he _ => by
  obtain ⟨fs, fd, hf1, hf2, rfl, rfl⟩ := h.fs
  simp [execOp, he.ev hx, Instr.field, run_underlying hf1, hf2, part, asAgg, h1.agg, hs.run]⟩

theorem extract {vs : Array Value} {ix : Nat} (hx : ev env x = some (.tuple vs)) (hv : vs[ix]? = some v) : Det C T env ⟨ds, .extract x ix, ty, pos, af, gd⟩ v := ⟨fun ac w he _ => by
  simp [execOp, he.ev hx, Instr.extract, hv]⟩

theorem makeFunc {fn : Fn} {first captured : Array Operand} {fs cs : List Value} (h1 : evs env first.toList = some fs) (h2 : evs env captured.toList = some cs) : Det C T env ⟨ds, .makeFunc fn first captured, ty, pos, af, gd⟩ (.func fn fs.toArray cs.toArray) := ⟨fun ac w he _ => by
  have e1 := he.evs _ _ h1
  have e2 := he.evs _ _ h2
  have q1 : first.map ac.eval = fs.toArray := by apply Array.ext'; simp [e1]
  have q2 : captured.map ac.eval = cs.toArray := by apply Array.ext'; simp [e2]
  simp [execOp, Instr.makeFunc, q1, q2]⟩

/-- An element's address. -/
theorem indexAddr {ad : Option Addr} {n c e sz : Nat} {k : IntKind} {j : Int} (m : Nat) [h : SlT C.P t e] [hs : Sz C.P e sz] (hx : ev env x = some (.slice ad n c)) (hy : ev env y = some (.int k j)) (hj : j = (m : Int)) (hm : m < n) (hsome : ad.isSome = true) :
    Det C T env ⟨ds, .indexAddr t x y, ty, pos, af, gd⟩ (.pointer (some (el ad (m * sz)))) := ⟨fun ac w he _ => by
  subst hj
  obtain ⟨p, rfl⟩ := Option.isSome_iff_exists.1 hsome
  have h0 : (0 : Int) ≤ (m : Int) ∧ (m : Int) < (n : Int) := by omega
  have h1 : (0 : Int) ≤ (m : Int) ∧ (m : Int) < ((n : Nat) : Int) := h0
  simp [execOp, he.ev hx, he.ev hy, Instr.indexAt, asIntOf, run_underlying h.und, hs.run, hm, el]⟩

/-- A string's byte. -/
theorem indexStr {s : ByteArray} {k : IntKind} {j : Int} (m : Nat) [h : StrT C.P t] (hx : ev env x = some (.string s)) (hy : ev env y = some (.int k j)) (hj : j = (m : Int)) (hm : m < s.size) :
    Det C T env ⟨ds, .index t x y, ty, pos, af, gd⟩ (.int .u8 ((s[m]'hm).toNat : Int)) := ⟨fun ac w he _ => by
  subst hj
  simp [execOp, he.ev hx, he.ev hy, Instr.index, asIntOf, run_underlying h.und, hm]⟩

/-- Loads. -/
theorem load1 {p : Addr} [h : One C.P t] (hx : ev env x = some (.pointer (some p))) (hv : ∀ w, T w → w.cell? p = some v) : Det C T env ⟨ds, .load t x, ty, pos, af, gd⟩ v := ⟨fun ac w he hT => by
  simp [execOp, he.ev hx, Instr.loadAt, Instr.sureAddr, loadVar, h.one, hv w hT]⟩
theorem loadN {p : Addr} {sz : Nat} {cs : List Value} [h : Ag C.P t] [hs : Sz C.P t sz] (hx : ev env x = some (.pointer (some p))) (hl : (cs.length == sz) = true) (hv : ∀ w, T w → ∀ j u, cs[j]? = some u → w.cell? (p.add j) = some u) : Det C T env ⟨ds, .load t x, ty, pos, af, gd⟩ (.agg cs.toArray) := ⟨fun ac w he hT => by
  have hl' : cs.length = sz := by simpa using hl
  have := run_loadCells_list (P := C.P) w p cs (hv w hT)
  rw [hl'] at this
  simp [execOp, he.ev hx, Instr.loadAt, Instr.sureAddr, loadVar, h.agg, hs.run, this]⟩
end
end D
end Go.Lx
