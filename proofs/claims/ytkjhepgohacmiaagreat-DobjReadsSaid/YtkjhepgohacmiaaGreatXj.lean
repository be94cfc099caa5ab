/- Own layer, part j: structs compared, whose parts are whole numbers, strings, Bools, and structs of such. Plain theorems. -/
import Derived.Test.YtkjhepgohacmiaaGreatXi
namespace Go.Lx
set_option linter.unusedVariables false
set_option linter.unusedSimpArgs false

inductive Lf where
  | I (k : IntKind)
  | S
  | B
def Lf.desc : Lf → TypeDesc
  | .I k => .int k
  | .S => .string
  | .B => .bool
def Lf.fit : Lf → Value → Prop
  | .I k, v => ∃ a, v = .int k a
  | .S, v => ∃ a, v = .string a
  | .B, v => ∃ a, v = .bool a
def Fits : List Lf → List Value → Prop
  | [], [] => True
  | l :: ls, c :: cs => l.fit c ∧ Fits ls cs
  | _, _ => False
def eqv : Value → Value → Bool
  | .int _ a, .int _ b => decide (a = b)
  | .string a, .string b => decide (a = b)
  | .bool a, .bool b => decide (a = b)
  | _, _ => false
def eqvs : List Value → List Value → Bool
  | [], [] => true
  | a :: as, b :: bs => eqv a b && eqvs as bs
  | _, _ => false
theorem Fits.length : ∀ {ls : List Lf} {cs : List Value}, Fits ls cs → cs.length = ls.length
  | [], [], _ => rfl
  | l :: ls, c :: cs, h => by simp [Fits.length h.2]
  | [], c :: cs, h => h.elim
  | l :: ls, [], h => h.elim
theorem fits_append : ∀ {l1 l2 : List Lf} {cs : List Value}, Fits (l1 ++ l2) cs → ∃ c1 c2, cs = c1 ++ c2 ∧ Fits l1 c1 ∧ Fits l2 c2
  | [], l2, cs, h => ⟨[], cs, rfl, trivial, h⟩
  | l :: l1, l2, [], h => h.elim
  | l :: l1, l2, c :: cs, h => by
    obtain ⟨c1, c2, rfl, h1, h2⟩ := fits_append h.2
    exact ⟨c :: c1, c2, rfl, ⟨h.1, h1⟩, h2⟩
theorem eqvs_append : ∀ {a b c d : List Value}, a.length = b.length → eqvs (a ++ c) (b ++ d) = (eqvs a b && eqvs c d)
  | [], [], c, d, _ => by simp [eqvs]
  | x :: a, y :: b, c, d, h => by
    simp only [List.cons_append, eqvs, eqvs_append (a := a) (b := b) (by simpa using h), Bool.and_assoc]
  | [], y :: b, _, _, h => by simp at h
  | x :: a, [], _, _, h => by simp at h

class EqC (P : Program) (t : TypeId) (n : outParam Nat) (ls : outParam (List Lf)) : Prop where
  guard : P.eqGuardType P.depth t = false
  eq : ∀ (d : Nat) (cs ds : List Value) (w : World), Fits ls cs → Fits ls ds → (Op.equalIn (d + n) t (.agg cs.toArray) (.agg ds.toArray)).run P w = .ok (eqvs cs ds) w

theorem beq_bytes (x y : ByteArray) : (x == y) = decide (x = y) := by
  obtain ⟨x⟩ := x
  obtain ⟨y⟩ := y
  show (x == y) = decide (ByteArray.mk x = ByteArray.mk y)
  simp only [ByteArray.mk.injEq]
  by_cases e : x = y
  · subst e; simp
  · simp [e]
theorem leaf_eq {P : Program} (d : Nat) (t : TypeId) (l : Lf) (h : P.underlying t = some l.desc) (a b : Value) (w : World) (ha : l.fit a) (hb : l.fit b) : (Op.equalIn (d + 1) t a b).run P w = .ok (eqv a b) w := by
  cases l with
  | I k =>
    obtain ⟨x, rfl⟩ := ha
    obtain ⟨y, rfl⟩ := hb
    rw [run_equalIn_int w d t k k x y h]
    congr 1
  | S =>
    obtain ⟨x, rfl⟩ := ha
    obtain ⟨y, rfl⟩ := hb
    rw [run_equalIn_string w d t x y h]
    congr 1
    rw [← beq_toListBytes]
    exact beq_bytes x y
  | B =>
    obtain ⟨x, rfl⟩ := ha
    obtain ⟨y, rfl⟩ := hb
    rw [run_equalIn_bool' w d t x y h]
    congr 1

inductive FieldsC (P : Program) : List Field → Nat → Nat → List Lf → Prop where
  | nil {i n : Nat} : FieldsC P [] i n []
  | leaf {f : Field} {fs : List Field} {i n : Nat} {ls : List Lf} (l : Lf) (hn : (f.name != "_" && f.offset == i) = true) (hu : P.underlying f.type = some l.desc) (r : FieldsC P fs (i + 1) n ls) : FieldsC P (f :: fs) i n (l :: ls)
  | sub {f : Field} {fs : List Field} {i n m : Nat} {l1 ls : List Lf} (hn : (f.name != "_" && f.offset == i) = true) (he : EqC P f.type m l1) (hm : m ≤ n) (hs : Sz P f.type l1.length) (ha : Ag P f.type) (r : FieldsC P fs (i + l1.length) n ls) : FieldsC P (f :: fs) i n (l1 ++ ls)

theorem eqFields_of {P : Program} {n : Nat} (d : Nat) : ∀ {fs : List Field} {i : Nat} {ls : List Lf}, FieldsC P fs i n ls → ∀ (pa pb cs ds : List Value) (w : World), pa.length = i → pb.length = i → Fits ls cs → Fits ls ds →
    (Op.eqFields (d + (n + 1)) (pa ++ cs).toArray (pb ++ ds).toArray fs).run P w = .ok (eqvs cs ds) w := by
  intro fs i ls h
  induction h with
  | nil =>
    intro pa pb cs ds w _ _ hc hd
    cases cs with
    | nil => cases ds with
      | nil => simp [Op.eqFields, eqvs]
      | cons _ _ => exact hd.elim
    | cons _ _ => exact hc.elim
  | @leaf f fs i n ls l hn hu r ih =>
    intro pa pb cs ds w ha hb hc hd
    simp only [Bool.and_eq_true, bne_iff_ne, beq_iff_eq] at hn
    obtain ⟨hn, ho⟩ := hn
    cases cs with
    | nil => exact hc.elim
    | cons c cs => cases ds with
      | nil => exact hd.elim
      | cons e ds =>
        have ih' := ih (pa ++ [c]) (pb ++ [e]) cs ds w (by simp [ha]) (by simp [hb]) hc.2 hd.2
        simp only [List.append_assoc, List.singleton_append] at ih'
        have one : (isAgg f.type).run P w = .ok false w := by cases l <;> simp [isAgg, run_underlying hu, Lf.desc]
        have hpx : (part f.type (pa ++ c :: cs).toArray f.offset).run P w = .ok c w := by simp [part, one, ho, ← ha]
        have hpy : (part f.type (pb ++ e :: ds).toArray f.offset).run P w = .ok e w := by simp [part, one, ho, ← hb]
        simp only [Op.eqFields, hn, ne_eq, not_false_eq_true, if_true, Sem.run_bind, hpx, hpy, Result.andThen_ok]
        rw [show d + (n + 1) = d + n + 1 by omega, leaf_eq (d + n) f.type l hu c e w hc.1 hd.1, ← show d + (n + 1) = d + n + 1 by omega]
        simp only [Result.andThen_ok, eqvs]
        cases eqv c e
        · simp
        · simpa using ih'
  | @sub f fs i n m l1 ls hn he hm hs hag r ih =>
    intro pa pb cs ds w ha hb hc hd
    simp only [Bool.and_eq_true, bne_iff_ne, beq_iff_eq] at hn
    obtain ⟨hn, ho⟩ := hn
    obtain ⟨c1, c2, rfl, f1, f2⟩ := fits_append hc
    obtain ⟨d1, d2, rfl, g1, g2⟩ := fits_append hd
    have ih' := ih (pa ++ c1) (pb ++ d1) c2 d2 w (by simp [ha, f1.length]) (by simp [hb, g1.length]) f2 g2
    simp only [List.append_assoc] at ih'
    have ex : ∀ (p c r : List Value), (p ++ (c ++ r)).toArray.extract p.length (p.length + c.length) = c.toArray := fun p c r => by
      apply Array.ext'
      simp
    have hpx : (part f.type (pa ++ (c1 ++ c2)).toArray f.offset).run P w = .ok (.agg c1.toArray) w := by
      have := ex pa c1 c2
      rw [ha, f1.length] at this
      simp [part, hag.agg, hs.run, ho] at this ⊢
      exact this
    have hpy : (part f.type (pb ++ (d1 ++ d2)).toArray f.offset).run P w = .ok (.agg d1.toArray) w := by
      have := ex pb d1 d2
      rw [hb, g1.length] at this
      simp [part, hag.agg, hs.run, ho] at this ⊢
      exact this
    have heq := he.eq (d + (n + 1) - m) c1 d1 w f1 g1
    rw [show d + (n + 1) - m + m = d + (n + 1) by omega] at heq
    simp only [Op.eqFields, hn, ne_eq, not_false_eq_true, if_true, Sem.run_bind, hpx, hpy, Result.andThen_ok, heq]
    rw [eqvs_append (by rw [f1.length, g1.length])]
    cases eqvs c1 d1
    · simp
    · simpa using ih'
theorem EqC.mk' {P : Program} {t n : Nat} {fs : Array Field} {ls : List Lf} (hu : P.underlying t = some (.struct fs)) (hs : P.stoodInHeld t = false) (hg : P.eqGuardType P.depth t = false) (hf : FieldsC P fs.toList 0 n ls) : EqC P t (n + 2) ls := ⟨hg, fun d cs ds w hc hd => by
  have hfo : P.fieldsOf t = fs := by simp [Program.fieldsOf, hu]
  rw [show d + (n + 2) = d + (n + 1) + 1 by omega, run_equalIn_struct w (d + (n + 1)) t _ _ (by rw [hfo]; exact hu) hs, hfo]
  exact eqFields_of d hf [] [] cs ds w rfl rfl hc hd⟩

/-- That cells fit, found by their form. -/
class FitC (ls : List Lf) (cs : List Value) : Prop where fit : Fits ls cs
instance : FitC [] [] := ⟨trivial⟩
instance {k : IntKind} {a : Int} {ls : List Lf} {cs : List Value} [h : FitC ls cs] : FitC (.I k :: ls) (.int k a :: cs) := ⟨⟨_, rfl⟩, h.fit⟩
instance {a : ByteArray} {ls : List Lf} {cs : List Value} [h : FitC ls cs] : FitC (.S :: ls) (.string a :: cs) := ⟨⟨_, rfl⟩, h.fit⟩
instance {a : Bool} {ls : List Lf} {cs : List Value} [h : FitC ls cs] : FitC (.B :: ls) (.bool a :: cs) := ⟨⟨_, rfl⟩, h.fit⟩

namespace D
variable {C : Cx} {env : Env} {x y : Operand} {ty : TypeId} {pos : String} {af : Array Edge} {gd : Option (Nat × Bool)}
variable {W : World → Prop} {t u : TypeId} {ds : Option Tmp} {n : Nat} {ls : List Lf}
theorem eqG {cs es : List Value} (p : Prop) [Decidable p] [h : EqC C.P t n ls] (hx : ev env x = some (.agg cs.toArray)) (hy : ev env y = some (.agg es.toArray)) (hn : (decide (n ≤ 10000)) = true) [f1 : FitC ls cs] [f2 : FitC ls es] (hp : eqvs cs es = decide p) : Det C W env ⟨ds, .binOp .eql t x y u, ty, pos, af, gd⟩ (.bool (decide p)) := ⟨fun ac w he _ => by
  have hn' : n ≤ 10000 := of_decide_eq_true hn
  have h1 := h.eq (10000 - n) cs es w f1.fit f2.fit
  rw [show 10000 - n + n = 10000 by omega] at h1
  simp only [execOp, he.ev hx, he.ev hy, Sem.run_bind, run_eqGuard_agg w .eql t x y _ _ h.guard, Result.andThen_ok, run_eql_struct, h1, Sem.run_pure, hp]⟩
theorem neG {cs es : List Value} (p : Prop) [Decidable p] [h : EqC C.P t n ls] (hx : ev env x = some (.agg cs.toArray)) (hy : ev env y = some (.agg es.toArray)) (hn : (decide (n ≤ 10000)) = true) [f1 : FitC ls cs] [f2 : FitC ls es] (hp : eqvs cs es = decide p) : Det C W env ⟨ds, .binOp .neq t x y u, ty, pos, af, gd⟩ (.bool (decide (¬ p))) := ⟨fun ac w he _ => by
  have hn' : n ≤ 10000 := of_decide_eq_true hn
  have h1 := h.eq (10000 - n) cs es w f1.fit f2.fit
  rw [show 10000 - n + n = 10000 by omega] at h1
  simp only [execOp, he.ev hx, he.ev hy, Sem.run_bind, run_eqGuard_agg w .neq t x y _ _ h.guard, Result.andThen_ok, run_neq_struct, h1, Sem.run_pure, hp, decide_not]⟩
theorem eqS4 {k0 k1 k2 k3 : IntKind} {a0 a1 a2 a3 b0 b1 b2 b3 : Int} [h : EqC C.P t n [.I k0, .I k1, .I k2, .I k3]] (hx : ev env x = some (.agg #[.int k0 a0, .int k1 a1, .int k2 a2, .int k3 a3])) (hy : ev env y = some (.agg #[.int k0 b0, .int k1 b1, .int k2 b2, .int k3 b3])) (hn : (decide (n ≤ 10000)) = true) : Det C W env ⟨ds, .binOp .eql t x y u, ty, pos, af, gd⟩ (.bool (decide (a0 = b0 ∧ a1 = b1 ∧ a2 = b2 ∧ a3 = b3))) :=
  eqG (cs := [.int k0 a0, .int k1 a1, .int k2 a2, .int k3 a3]) (es := [.int k0 b0, .int k1 b1, .int k2 b2, .int k3 b3]) _ hx hy hn (by simp [eqvs, eqv])
theorem neS4 {k0 k1 k2 k3 : IntKind} {a0 a1 a2 a3 b0 b1 b2 b3 : Int} [h : EqC C.P t n [.I k0, .I k1, .I k2, .I k3]] (hx : ev env x = some (.agg #[.int k0 a0, .int k1 a1, .int k2 a2, .int k3 a3])) (hy : ev env y = some (.agg #[.int k0 b0, .int k1 b1, .int k2 b2, .int k3 b3])) (hn : (decide (n ≤ 10000)) = true) : Det C W env ⟨ds, .binOp .neq t x y u, ty, pos, af, gd⟩ (.bool (decide (¬ (a0 = b0 ∧ a1 = b1 ∧ a2 = b2 ∧ a3 = b3)))) :=
  neG (cs := [.int k0 a0, .int k1 a1, .int k2 a2, .int k3 a3]) (es := [.int k0 b0, .int k1 b1, .int k2 b2, .int k3 b3]) _ hx hy hn (by simp [eqvs, eqv])
end D
end Go.Lx
