/- Texts Pc Xq Xj, merged: a claim has at most 60 files. -/
import Derived.Test.YthgnlbibdiileaaGreatM7
import Derived.Test.YthgnlbibdiileaaGreatM3
import Derived.Test.YthgnlbibdiileaaGreatM4
import Derived.MapKept
import Derived.Test.YthgnlbibdiileaaGreatM2
/- Plain laws on lists of spans, part c: sets out of sectors; a set is told by its sectors. -/
namespace Go.Lx
set_option linter.unusedVariables false
set_option linter.unusedSimpArgs false

/-- A set out of sectors, so far. -/
structure StI (bs : List Bool) (i : Nat) (o : List Sp) : Prop where
  hi : i ≤ bs.length
  len : o.length ≤ i
  set : SetOK o o.length
  mem : ∀ t, inS o t ↔ ∃ k : Nat, k < i ∧ t = k ∧ bs[k]? = some true
  le : ∀ y ∈ o, y.1 + y.2 ≤ i
  last : 0 < i → bs[i - 1]? = some true → ∃ y, o[o.length - 1]? = some y ∧ y.1 + y.2 = i
  ends : (0 < i → bs[i - 1]? ≠ some true) → ∀ y ∈ o, y.1 + y.2 < i

variable {bs : List Bool} {o : List Sp} {i : Nat}
theorem StI.start : StI bs 0 [] := ⟨Nat.zero_le _, Nat.le_refl _, SetOK.nil _, fun t => ⟨fun h => absurd h (inS_nil t), fun ⟨k, hk, _⟩ => absurd hk (Nat.not_lt_zero k)⟩, fun _ h => (by cases h), fun h => absurd h (Nat.lt_irrefl 0), fun _ _ h => (by cases h)⟩
theorem StI.skip (h : StI bs i o) (hb : bs[i]? = some false) : StI bs (i + 1) o := by
  refine ⟨lt_of_get hb, by have := h.len; omega, h.set, fun t => ?_, fun y hy => by have := h.le y hy; omega, fun _ h1 => ?_, fun _ y hy => by have := h.le y hy; omega⟩
  · rw [h.mem t]
    constructor
    · rintro ⟨k, hk, h1, h2⟩; exact ⟨k, by omega, h1, h2⟩
    · rintro ⟨k, hk, h1, h2⟩
      by_cases e : k = i
      · subst e; rw [hb] at h2; cases h2
      · exact ⟨k, by omega, h1, h2⟩
  · rw [Nat.add_sub_cancel, hb] at h1; cases h1
theorem StI.push (h : StI bs i o) (hb : bs[i]? = some true) (hp : 0 < i → bs[i - 1]? ≠ some true) (hbd : bs.length ≤ 60000) : StI bs (i + 1) (o ++ [((i : Int), 1)]) := by
  have hil := lt_of_get hb
  refine ⟨hil, by have := h.len; simp; omega, h.set.snoc (h.ends hp) (by unfold mayS; dsimp only; omega), fun t => ?_, fun y hy => ?_, fun _ _ => ⟨((i : Int), 1), by simp, by dsimp only; omega⟩, fun h1 => absurd (by rw [Nat.add_sub_cancel]; exact hb) (h1 (by omega))⟩
  · rw [inS_append, h.mem t, inS_one]
    dsimp only
    constructor
    · rintro (⟨k, hk, h1, h2⟩ | h1)
      · exact ⟨k, by omega, h1, h2⟩
      · exact ⟨i, by omega, by omega, hb⟩
    · rintro ⟨k, hk, h1, h2⟩
      by_cases e : k = i
      · right; omega
      · exact .inl ⟨k, by omega, h1, h2⟩
  · rcases List.mem_append.1 hy with hy | hy
    · have := h.le y hy; omega
    · simp at hy; subst hy; dsimp only; omega
theorem StI.grow {y : Sp} (h : StI bs i o) (hb : bs[i]? = some true) (hi0 : 0 < i) (hp : bs[i - 1]? = some true) (hy : o[o.length - 1]? = some y) (hbd : bs.length ≤ 60000) : StI bs (i + 1) (o.set (o.length - 1) (y.1, y.2 + 1)) ∧ y.1 + y.2 = i := by
  have hil := lt_of_get hb
  have hl := lt_of_get hy
  obtain ⟨o', z, rfl⟩ := snoc_of o (by omega)
  have e1 : (o' ++ [z]).length - 1 = o'.length := by simp
  rw [e1] at hy ⊢
  simp at hy
  subst hy
  obtain ⟨y', hy', hye⟩ := h.last hi0 hp
  rw [e1] at hy'
  simp at hy'
  subst hy'
  have e2 : (o' ++ [z]).set o'.length (z.1, z.2 + 1) = o' ++ [(z.1, z.2 + 1)] := by simp
  rw [e2]
  have hzm := h.set.may (k := o'.length) (by simp) (x := z) (by simp)
  have hset : SetOK o' o'.length := by
    intro k x hk hx
    obtain ⟨h1, h2⟩ := h.set k x (by simp; omega) (by rw [List.getElem?_append_left hk]; exact hx)
    exact ⟨h1, fun y h0 hy => h2 y h0 (by rw [List.getElem?_append_left (by omega)]; exact hy)⟩
  unfold mayS at hzm
  refine ⟨⟨hil, ?_, hset.snoc ?_ ?_, fun t => ?_, fun y hy => ?_, fun _ _ => ⟨(z.1, z.2 + 1), by simp, by dsimp only; omega⟩, fun h1 => absurd (by rw [Nat.add_sub_cancel]; exact hb) (h1 (by omega))⟩, hye⟩
  · have := h.len
    simp at this ⊢
    omega
  · intro x hx
    obtain ⟨j, hj⟩ := List.mem_iff_getElem?.1 hx
    have hjl := lt_of_get hj
    exact h.set.lt o'.length j x z hjl (by simp) (by rw [List.getElem?_append_left hjl]; exact hj) (by simp)
  · unfold mayS
    dsimp only
    omega
  · have hm := h.mem t
    rw [inS_append, inS_one] at hm
    rw [inS_append, inS_one]
    dsimp only
    constructor
    · intro h1
      by_cases q : t = i
      · exact ⟨i, by omega, q, hb⟩
      · obtain ⟨k, hk, h2, h3⟩ := hm.1 (h1.imp id (fun h => by omega))
        exact ⟨k, by omega, h2, h3⟩
    · rintro ⟨k, hk, h1, h2⟩
      by_cases e : k = i
      · right; omega
      · exact (hm.2 ⟨k, by omega, h1, h2⟩).imp id (fun h => by omega)
  · rcases List.mem_append.1 hy with hy | hy
    · have := h.le y (by simp [hy]); omega
    · simp at hy; subst hy; dsimp only; omega

/-! ### a set is told by its sectors -/
theorem SetOK.tail {x : Sp} {l : List Sp} (h : SetOK (x :: l) (x :: l).length) : SetOK l l.length ∧ ∀ y ∈ l, x.1 + x.2 < y.1 := by
  refine ⟨fun k y hk hy => ?_, fun y hy => ?_⟩
  · obtain ⟨h1, h2⟩ := h (k + 1) y (by simp; omega) (by simpa using hy)
    refine ⟨h1, fun z h0 hz => h2 z (by omega) ?_⟩
    have : k + 1 - 1 = (k - 1) + 1 := by omega
    rw [this]
    simpa using hz
  · obtain ⟨j, hj⟩ := List.mem_iff_getElem?.1 hy
    have hjl := lt_of_get hj
    exact h.lt (j + 1) 0 x y (by omega) (by simp; omega) (by simp) (by simpa using hj)
theorem inS_ge {x : Sp} {l : List Sp} {t : Int} (h : SetOK (x :: l) (x :: l).length) (ht : inS l t) : x.1 + x.2 < t := by
  obtain ⟨y, hy, h1, h2⟩ := ht
  have := h.tail.2 y hy
  omega
theorem set_unique : ∀ (a b : List Sp), SetOK a a.length → SetOK b b.length → (∀ t, inS a t ↔ inS b t) → a = b
  | [], [], _, _, _ => rfl
  | [], y :: b, _, hb, h => by
    have hm := hb.may (k := 0) (by simp) (x := y) (by simp)
    unfold mayS at hm
    exact absurd ((h y.1).2 ⟨y, by simp, by omega, by omega⟩) (inS_nil _)
  | x :: a, [], ha, _, h => by
    have hm := ha.may (k := 0) (by simp) (x := x) (by simp)
    unfold mayS at hm
    exact absurd ((h x.1).1 ⟨x, by simp, by omega, by omega⟩) (inS_nil _)
  | x :: a, y :: b, ha, hb, h => by
    have hx := ha.may (k := 0) (by simp) (x := x) (by simp)
    have hy := hb.may (k := 0) (by simp) (x := y) (by simp)
    unfold mayS at hx hy
    have e1 : x.1 = y.1 := by
      have h1 := (h x.1).1 (inS_cons.2 (.inl (by omega)))
      have h2 := (h y.1).2 (inS_cons.2 (.inl (by omega)))
      rcases inS_cons.1 h1 with h1 | h1 <;> rcases inS_cons.1 h2 with h2 | h2
      · omega
      · have := inS_ge ha h2; omega
      · have := inS_ge hb h1; omega
      · have := inS_ge ha h2; have := inS_ge hb h1; omega
    have e2 : x.2 = y.2 := by
      rcases Int.lt_trichotomy x.2 y.2 with q | q | q
      · have h1 := (h (x.1 + x.2)).2 (inS_cons.2 (.inl (by omega)))
        rcases inS_cons.1 h1 with h1 | h1
        · omega
        · have := inS_ge ha h1; omega
      · exact q
      · have h1 := (h (y.1 + y.2)).1 (inS_cons.2 (.inl (by omega)))
        rcases inS_cons.1 h1 with h1 | h1
        · omega
        · have := inS_ge hb h1; omega
    have exy : x = y := Prod.ext e1 e2
    subst exy
    rw [set_unique a b ha.tail.1 hb.tail.1 fun t => ?_]
    constructor
    · intro ht
      have h1 := (h t).1 (inS_cons.2 (.inr ht))
      rcases inS_cons.1 h1 with h1 | h1
      · have := inS_ge ha ht; omega
      · exact h1
    · intro ht
      have h1 := (h t).2 (inS_cons.2 (.inr ht))
      rcases inS_cons.1 h1 with h1 | h1
      · have := inS_ge hb ht; omega
      · exact h1
end Go.Lx

/- Own layer, part q: maps whose keys are whole numbers: a block that holds one, and what is read of it and written into it. Plain theorems. -/
namespace Go.Lx
set_option linter.unusedVariables false
set_option linter.unusedSimpArgs false

section
variable {β : Type}
def getM : List (Int × β) → Int → Option β
  | [], _ => none
  | (a, b) :: l, k => if a = k then some b else getM l k
def setM : List (Int × β) → Int → β → List (Int × β)
  | [], k, v => [(k, v)]
  | (a, b) :: l, k, v => if a = k then (k, v) :: l else (a, b) :: setM l k v
def delM : List (Int × β) → Int → List (Int × β)
  | [], _ => []
  | (a, b) :: l, k => if a = k then l else (a, b) :: delM l k
def keyM (l : List (Int × β)) : List Int := l.map (·.1)
theorem getM_set (k : Int) (v : β) : ∀ (l : List (Int × β)) (j : Int), getM (setM l k v) j = if j = k then some v else getM l j
  | [], j => by
    simp only [setM, getM]
    by_cases h : j = k
    · rw [if_pos h, if_pos h.symm]
    · rw [if_neg h, if_neg (Ne.symm h)]
  | (a, b) :: l, j => by
    simp only [setM]
    by_cases ha : a = k
    · rw [if_pos ha]
      simp only [getM]
      by_cases h : j = k
      · rw [if_pos h, if_pos h.symm]
      · rw [if_neg h, if_neg (Ne.symm h), if_neg (fun e => h (e.symm.trans ha))]
    · rw [if_neg ha]
      simp only [getM, getM_set k v l j]
      by_cases hj : a = j
      · rw [if_pos hj, if_pos hj, if_neg (fun e => ha (hj.trans e))]
      · rw [if_neg hj, if_neg hj]
theorem key_set (k : Int) (v : β) : ∀ (l : List (Int × β)) (j : Int), j ∈ keyM (setM l k v) ↔ j = k ∨ j ∈ keyM l
  | [], j => by simp [setM, keyM]
  | (a, b) :: l, j => by
    have ih := key_set k v l j
    simp only [setM]
    by_cases ha : a = k
    · rw [if_pos ha]; subst ha; simp [keyM]
    · rw [if_neg ha]
      simp only [keyM, List.map_cons, List.mem_cons] at ih ⊢
      rw [ih]
      constructor
      · rintro (h | h | h) <;> simp [h]
      · rintro (h | h | h) <;> simp [h]
theorem nodup_set (k : Int) (v : β) : ∀ (l : List (Int × β)), (keyM l).Nodup → (keyM (setM l k v)).Nodup
  | [], _ => by simp [setM, keyM]
  | (a, b) :: l, h => by
    simp only [keyM, List.map_cons, List.nodup_cons] at h
    simp only [setM]
    by_cases ha : a = k
    · rw [if_pos ha]; subst ha; simpa [keyM] using h
    · rw [if_neg ha]
      simp only [keyM, List.map_cons, List.nodup_cons]
      refine ⟨fun hm => ?_, nodup_set k v l h.2⟩
      rcases (key_set k v l a).1 hm with h1 | h1
      · exact ha h1
      · exact h.1 h1
theorem getM_none : ∀ (l : List (Int × β)) (k : Int), getM l k = none ↔ k ∉ keyM l
  | [], k => by simp [getM, keyM]
  | (a, b) :: l, k => by
    have ih := getM_none l k
    simp only [getM, keyM, List.map_cons, List.mem_cons, not_or] at ih ⊢
    by_cases h : a = k
    · simp [h]
    · rw [if_neg h, ih]; exact ⟨fun g => ⟨Ne.symm h, g⟩, fun g => g.2⟩
/-- A block that holds a map. -/
def kvE (e : MapEntry) : Value × Value := (e.key, e.val)
def kvM (f : β → Value) (p : Int × β) : Value × Value := (.int .i64 p.1, f p.2)
def mapA (f : β → Value) (g : Nat) (l : List (Int × β)) : Assn where
  holds w F := (∃ es clock, w.heap[g]? = some (.map es clock) ∧ es.toList.map kvE = l.map (kvM f) ∧ MapKept.Stamped es clock) ∧ ∀ b, F b ↔ b = g
  loc := fun ⟨⟨es, c, h, h2⟩, hF⟩ hk => ⟨⟨es, c, (hk g ((hF g).2 rfl)).trans h, h2⟩, hF⟩
  dom := fun ⟨⟨es, c, h, _⟩, hF⟩ hb => by rw [(hF _).1 hb]; exact (Array.getElem?_eq_some_iff.1 h).1
class MapAt (A : List Assn) (g : Nat) (β : outParam Type) (f : outParam (β → Value)) (l : outParam (List (Int × β))) (i : outParam Nat) : Prop where at_ : A[i]? = some (mapA f g l)
instance {f : β → Value} {g : Nat} {l : List (Int × β)} {A : List Assn} : MapAt (mapA f g l :: A) g β f l 0 := ⟨rfl⟩
instance (priority := low) {f : β → Value} {g i : Nat} {l : List (Int × β)} {A : List Assn} {q : Assn} [h : MapAt A g β f l i] : MapAt (q :: A) g β f l (i + 1) := ⟨by simpa using h.at_⟩
class MpT (P : Program) (t : TypeId) (k e : outParam TypeId) : Prop where und : P.underlying t = some (.map k e)

theorem find_map (f : β → Value) (k : Int) : ∀ (es : List MapEntry) (l : List (Int × β)) (n : Nat), es.map kvE = l.map (kvM f) →
    (Instr.findNow (.int .i64) (.int .i64 k) es n = some none ∧ getM l k = none ∧ (∀ v, l.map (kvM f) ++ [(.int .i64 k, f v)] = (setM l k v).map (kvM f)) ∧ delM l k = l) ∨
    ∃ j b, Instr.findNow (.int .i64) (.int .i64 k) es n = some (some (n + j, f b)) ∧ getM l k = some b ∧ j < es.length ∧ (∃ e, es[j]? = some e ∧ e.key = .int .i64 k) ∧ (∀ v (h : MapEntry → MapEntry), (∀ e, kvE (h e) = (.int .i64 k, f v)) → (es.modify j h).map kvE = (setM l k v).map (kvM f)) ∧ (es.eraseIdx j).map kvE = (delM l k).map (kvM f)
  | [], [], n, _ => .inl ⟨rfl, rfl, fun v => rfl, rfl⟩
  | [], _ :: _, _, h => by simp at h
  | _ :: _, [], _, h => by simp at h
  | e :: es, (a, b) :: l, n, h => by
    simp only [List.map_cons, List.cons.injEq] at h
    obtain ⟨h1, h2⟩ := h
    have hk : e.key = .int .i64 a := congrArg Prod.fst h1
    have hv : e.val = f b := congrArg Prod.snd h1
    by_cases hak : a = k
    · subst hak
      refine .inr ⟨0, b, ?_, by simp [getM], by simp, ⟨e, rfl, hk⟩, fun v g hg => ?_, ?_⟩
      · simp [Instr.findNow, Instr.sameNow, hk, hv]
      · simp [setM, hg, h2, kvM]
      · simp [delM, h2]
    · have hka : ¬ k = a := Ne.symm hak
      have hf : ∀ r, Instr.findNow (.int .i64) (.int .i64 k) es (n + 1) = r → Instr.findNow (.int .i64) (.int .i64 k) (e :: es) n = r := fun r hr => by
        have : (k == a) = false := by simpa using hka
        simp [Instr.findNow, Instr.sameNow, hk, this, hr]
      rcases find_map f k es l (n + 1) h2 with ⟨g1, g2, g3, g4⟩ | ⟨j, b', g1, g2, g3, ⟨e', g4, g5⟩, g6, g7⟩
      · refine .inl ⟨hf _ g1, by simp only [getM]; rw [if_neg hak]; exact g2, fun v => ?_, by simp only [delM]; rw [if_neg hak, g4]⟩
        simp only [setM]
        rw [if_neg hak, List.map_cons, List.map_cons, List.cons_append, g3]
      · refine .inr ⟨j + 1, b', (hf _ g1).trans (by rw [Nat.add_right_comm, Nat.add_assoc]), by simp only [getM]; rw [if_neg hak]; exact g2, by simp; omega, ⟨e', by simpa using g4, g5⟩, fun v h hh => ?_, ?_⟩
        · simp only [setM]
          rw [if_neg hak, List.modify_succ_cons, List.map_cons, List.map_cons, g6 v h hh, h1]
        · simp only [delM]
          rw [if_neg hak, List.eraseIdx_cons_succ, List.map_cons, List.map_cons, g7, h1]

theorem key_not {f : β → Value} {l : List (Int × β)} {k : Int} {es : List MapEntry} (hes : es.map kvE = l.map (kvM f)) (hn : getM l k = none) {x : MapEntry} (hx : x ∈ es) (he : x.key = .int .i64 k) : False := by
  have h1 : kvE x ∈ es.map kvE := List.mem_map.2 ⟨x, hx, rfl⟩
  rw [hes] at h1
  obtain ⟨p, hp, h2⟩ := List.mem_map.1 h1
  have h3 : (Value.int .i64 p.1) = x.key := congrArg Prod.fst h2
  rw [he] at h3
  cases h3
  exact (getM_none l _).1 hn (List.mem_map.2 ⟨p, hp, rfl⟩)
theorem run_checkKeyI {P : Program} {t : TypeId} {k : IntKind} (ht : P.underlying t = some (.int k)) (em : Bool) (n : Int) (w : World) : (Instr.checkKey em 10000 t (.int .i64 n)).run P w = .ok () w := by
  have : ∀ d, (Instr.checkKey em (d + 1) t (.int .i64 n)).run P w = .ok () w := fun d => by
    unfold Instr.checkKey
    simp [run_underlying ht]
  exact this 9999
theorem sameBits_int (k : Int) : Instr.sameBits 10000 (.int .i64 k) (.int .i64 k) = true := by
  have : ∀ d, Instr.sameBits (d + 1) (.int .i64 k) (.int .i64 k) = true := fun d => by
    unfold Instr.sameBits
    simp
  exact this 9999

section
variable {C : Cx} {A A' : List Assn} {w : World} {g i : Nat} {f : β → Value} {l : List (Int × β)}
theorem Conf.mapAt [h : MapAt A g β f l i] (hc : Conf C A w) : ∃ es clock, w.heap[g]? = some (.map es clock) ∧ es.toList.map kvE = l.map (kvM f) ∧ MapKept.Stamped es clock := by
  obtain ⟨F, hF, _⟩ := hc.get h.at_
  exact hF.1
theorem Conf.setMap [h : MapAt A g β f l i] {l' : List (Int × β)} [hu : Upd A i (mapA f g l') A'] (hc : Conf C A w) {es : Array MapEntry} {clock : Nat} (he : es.toList.map kvE = l'.map (kvM f)) (hst : MapKept.Stamped es clock) : Conf C A' (w.putObj g (.map es clock)) := by
  rw [← hu.eq]
  obtain ⟨F, hF, _⟩ := hc.get h.at_
  obtain ⟨⟨es0, c0, h0, _⟩, _⟩ := hF
  have hlt := (Array.getElem?_eq_some_iff.1 h0).1
  refine hc.update h.at_ rfl rfl rfl (by simp [World.putObj]) (Nat.le_refl _) fun F' ⟨_, hF'⟩ => ⟨F', ⟨⟨es, clock, by simp [World.putObj, hlt], he, hst⟩, hF'⟩, fun b hb => .inl hb, fun b hb hn => ?_⟩
  have hne : ¬ g = b := fun e => hn ((hF' b).2 e.symm)
  simp [World.putObj, hne]
end
end

section
variable {β : Type} {C : Cx} {A A' As : List Assn} {Q : Exit → Act → World → Prop} {S : World → Prop} {env : Env} {ops : Array Oper} {r : Sd} {i d g j : Nat} {v : Value} {cl : Cl} {x y z : Operand} {t u kt e : TypeId} {op : Op} {f : β → Value} {l : List (Int × β)}
variable {ty : TypeId} {pos : String} {af : Array Edge} {gd : Option (Nat × Bool)}

def lkV (f : β → Value) (z : Value) (l : List (Int × β)) (k : Int) : Value := match getM l k with
  | some b => f b
  | none => z
theorem run_lookupM {P : Program} {w : World} [ht : MpT P t kt e] [hk : IntT P kt .i64] {z0 : Value} [hz : Zr P e z0] {es : Array MapEntry} {clock : Nat} (hb : w.heap[g]? = some (.map es clock)) (he : es.toList.map kvE = l.map (kvM f)) (k : Int) (ok : Bool) :
    (Instr.lookup t (.map (some g)) (.int .i64 k) ok).run P w = .ok (if ok then .tuple #[lkV f z0 l k, .bool (getM l k).isSome] else lkV f z0 l k) w := by
  have h1 : ∀ em, (Instr.checkKey em 10000 kt (.int .i64 k)).run P w = .ok () w := fun em => run_checkKeyI hk.und em k w
  have hg : (getObj g).run P w = .ok (.map es clock) w := MapKept.run_getObj_map hb
  rcases find_map f k es.toList l 0 he with ⟨g1, g2, _⟩ | ⟨j, b, g1, g2, _⟩
  · have h2 : (Instr.findKey kt (.int .i64 k) es.toList).run P w = .ok none w := by simp [Instr.findKey, run_underlying hk.und, g1]
    cases ok <;> simp [Instr.lookup, run_underlying ht.und, hg, h1, h2, hz.run, lkV, g2]
  · have h2 : (Instr.findKey kt (.int .i64 k) es.toList).run P w = .ok (some (0 + j, f b)) w := by simp [Instr.findKey, run_underlying hk.und, g1]
    cases ok <;> simp [Instr.lookup, run_underlying ht.und, hg, h1, h2, lkV, g2]

/-- An operation that yields nothing that is kept. -/
theorem XL.chgN {o : Oper} (ho : ops[i]? = some o) (hg : gok ops env o = some true) (hd : o.dst = none)
    (h : ∀ a w, EnvOK C.n env a → Conf C A w → ∃ v A' w', (execOp a.eval o).run C.P w = .ok (.value v) w' ∧ Conf C A' w' ∧ After cl S C A' ∧ XL C ops Q S r env A') : XL C ops Q S (.op cl i r) env A := by
  refine ⟨fun a w he hc => ?_⟩
  obtain ⟨v, A', w', hr, hc', haf, k⟩ := h a w he hc
  have key := k.go _ w' he hc'
  rcases haf.ok with rfl | ⟨rfl, hS⟩
  · unfold wpT wpOp
    simp only [ho, gok_wanted hg he, if_true, Oper.wp, hr, Oper.upon, hd]
    exact .inl key
  · unfold wpT wpOp
    simp only [ho, gok_wanted hg he, if_true, Oper.wp, hr, Oper.upon, hd]
    exact .inl ⟨hS w' hc', key⟩

/-- A new map. -/
theorem XL.makeMap (f : β → Value) (ho : ops[i]? = some ⟨some d, .makeMap t none, ty, pos, af, gd⟩) (hg : gok ops env ⟨some d, .makeMap t none, ty, pos, af, gd⟩ = some true) (hdn : Nat.blt d C.n.n = true) (haf : ∀ g, After cl S C (mapA f g [] :: A))
    (k : ∀ g, XL C ops Q S r ((d, .map (some g)) :: env) (mapA f g [] :: A)) : XL C ops Q S (.op cl i r) env A := by
  refine XL.chg ho hg rfl hdn fun a w he hc => ?_
  refine ⟨_, _, w.alloc (.map #[] 0), ?_, hc.new (q := mapA f w.heap.size []) rfl rfl rfl (by simp) (Nat.le_refl _) (fun b hb => RowKit.Below.heap_alloc w _ b hb) ⟨fun b => b = w.heap.size, ⟨⟨#[], 0, heap_alloc_new w _, rfl, MapKept.stamped_empty 0⟩, fun b => Iff.rfl⟩, fun b hb => by rw [hb]; exact Nat.le_refl _⟩, haf _, k _⟩
  have hm : (Instr.makeMap t none).run C.P w = .ok (.map (some w.heap.size)) (w.alloc (.map #[] 0)) := rfl
  simp [execOp, hm]

/-- A key's element is set. -/
theorem XL.mapSet {k : Int} (b : β) (ho : ops[i]? = some ⟨none, .mapUpdate t x y z, ty, pos, af, gd⟩) (hg : gok ops env ⟨none, .mapUpdate t x y z, ty, pos, af, gd⟩ = some true) [ht : MpT C.P t kt e] [hk : IntT C.P kt .i64] (hx : ev env x = some (.map (some g))) (hy : ev env y = some (.int .i64 k))
    [hl : MapAt A g β f l j] (hz : ev env z = some (f b)) [hu : Upd A j (mapA f g (setM l k b)) A'] [haf : After cl S C A'] (kk : XL C ops Q S r env A') : XL C ops Q S (.op cl i r) env A := by
  refine XL.chg0 ho hg rfl fun a w he hc => ?_
  obtain ⟨es, clock, hb, hes, hst⟩ := hc.mapAt (g := g)
  have h1 : ∀ em, (Instr.checkKey em 10000 kt (.int .i64 k)).run C.P w = .ok () w := fun em => run_checkKeyI hk.und em k w
  have hg : (getObj g).run C.P w = .ok (.map es clock) w := MapKept.run_getObj_map hb
  have hset : ∀ o, (setObj g o).run C.P w = .ok () (w.putObj g o) := fun o => MapKept.run_setObj_map o hb
  rcases find_map f k es.toList l 0 hes with ⟨g1, g2, g3, _⟩ | ⟨jj, b', g1, g2, g3, ⟨e', g4, g5⟩, g6, _⟩
  · have h2 : (Instr.findKey kt (.int .i64 k) es.toList).run C.P w = .ok none w := by simp [Instr.findKey, run_underlying hk.und, g1]
    refine ⟨A', w.putObj g (.map (es.push ⟨.int .i64 k, f b, clock⟩) (clock + 1)), ?_, hc.setMap (l' := setM l k b) ?_ (MapKept.stamped_push hst (fun x hx e => key_not hes g2 hx e)), haf, kk⟩
    · simp [execOp, he.ev hx, he.ev hy, he.ev hz, Instr.mapUpdate, run_underlying ht.und, hg, h1, h2, hset]
    · rw [Array.toList_push, List.map_append, hes, ← g3 b]
      rfl
  · have h2 : (Instr.findKey kt (.int .i64 k) es.toList).run C.P w = .ok (some (0 + jj, f b')) w := by simp [Instr.findKey, run_underlying hk.und, g1]
    have h3 : (es[jj]?.map (·.key)).getD (.int .i64 k) = .int .i64 k := by
      have : es[jj]? = some e' := by rw [← Array.getElem?_toList]; exact g4
      rw [this]
      exact g5
    have h4 : (Instr.keyThatStays (.int .i64 k) (.int .i64 k)).run C.P w = .ok (.int .i64 k) w := by
      simp [Instr.keyThatStays, sameBits_int]
    refine ⟨A', w.putObj g (.map (es.modify jj fun e => { e with key := .int .i64 k, val := f b }) clock), ?_, hc.setMap (l' := setM l k b) ?_ (MapKept.stamped_modify hst jj _ (fun _ _ => rfl) (fun e _ hje => by
      have : es[jj]? = some e' := by rw [← Array.getElem?_toList]; exact g4
      rw [this] at hje
      cases hje
      exact g5.symm)), haf, kk⟩
    · simp [execOp, he.ev hx, he.ev hy, he.ev hz, Instr.mapUpdate, run_underlying ht.und, hg, h1, h2, h3, h4, hset]
    · rw [Array.toList_modify]
      exact g6 b _ (fun e => rfl)

namespace Z
theorem ix [Nc cl] {ad : Option Addr} {n c ee sz : Nat} {kk : IntKind} {jj : Int} (m : Nat) (hn : nx C.n.n ops env i = some (d, .indexAddr t x y)) [h : SlT C.P t ee] [hs : Sz C.P ee sz] (hx : ev env x = some (.slice ad n c)) (hy : ev env y = some (.int kk jj)) (hj : jj = (m : Int)) (hm : m < n) (hsome : ad.isSome = true)
    (k : XL C ops Q S r ((d, .pointer (some (el ad (m * sz)))) :: env) A) : XL C ops Q S (.op cl i r) env A := XL.dt hn (fun ty pos af gd => D.indexAddr m hx hy hj hm hsome) k
theorem la [Rl cl C S A As] {p : Addr} (hn : nx C.n.n ops env i = some (d, .load t x)) [h1 : One C.P t] (hx : ev env x = some (.pointer (some p))) (hv : ∀ w, Conf C As w → w.cell? p = some v) (k : XL C ops Q S r ((d, v) :: env) A) : XL C ops Q S (.op cl i r) env A :=
  XL.ld hn (fun ty pos af gd => D.load1 hx hv) k
theorem lb [Rl cl C S A As] {p : Addr} {sz : Nat} {cs : List Value} (hn : nx C.n.n ops env i = some (d, .load t x)) [h1 : Ag C.P t] [hs : Sz C.P t sz] (hx : ev env x = some (.pointer (some p))) (hlen : (cs.length == sz) = true) (hv : ∀ w, Conf C As w → ∀ j u, cs[j]? = some u → w.cell? (p.add j) = some u) (k : XL C ops Q S r ((d, .agg cs.toArray) :: env) A) : XL C ops Q S (.op cl i r) env A :=
  XL.ld hn (fun ty pos af gd => D.loadN hx hlen hv) k
end Z
end
end Go.Lx

/- Own layer, part j: structs compared, whose parts are whole numbers, strings, Bools, and structs of such. Plain theorems. -/
namespace Go.Lx
set_option linter.unusedVariables false
set_option linter.unusedSimpArgs false

inductive Lf where
  | I (k : IntKind)
  | S
  | B
def Lf.desc : Lf → TypeDesc
  | .I k => .int k
  | .S => .string
  | .B => .bool
def Lf.fit : Lf → Value → Prop
  | .I k, v => ∃ a, v = .int k a
  | .S, v => ∃ a, v = .string a
  | .B, v => ∃ a, v = .bool a
def Fits : List Lf → List Value → Prop
  | [], [] => True
  | l :: ls, c :: cs => l.fit c ∧ Fits ls cs
  | _, _ => False
def eqv : Value → Value → Bool
  | .int _ a, .int _ b => decide (a = b)
  | .string a, .string b => decide (a = b)
  | .bool a, .bool b => decide (a = b)
  | _, _ => false
def eqvs : List Value → List Value → Bool
  | [], [] => true
  | a :: as9, b :: bs => eqv a b && eqvs as9 bs
  | _, _ => false
theorem Fits.length : ∀ {ls : List Lf} {cs : List Value}, Fits ls cs → cs.length = ls.length
  | [], [], _ => rfl
  | l :: ls, c :: cs, h => by simp [Fits.length h.2]
  | [], c :: cs, h => h.elim
  | l :: ls, [], h => h.elim
theorem fits_append : ∀ {l1 l2 : List Lf} {cs : List Value}, Fits (l1 ++ l2) cs → ∃ c1 c2, cs = c1 ++ c2 ∧ Fits l1 c1 ∧ Fits l2 c2
  | [], l2, cs, h => ⟨[], cs, rfl, trivial, h⟩
  | l :: l1, l2, [], h => h.elim
  | l :: l1, l2, c :: cs, h => by
    obtain ⟨c1, c2, rfl, h1, h2⟩ := fits_append h.2
    exact ⟨c :: c1, c2, rfl, ⟨h.1, h1⟩, h2⟩
theorem eqvs_append : ∀ {a b c d : List Value}, a.length = b.length → eqvs (a ++ c) (b ++ d) = (eqvs a b && eqvs c d)
  | [], [], c, d, _ => by simp [eqvs]
  | x :: a, y :: b, c, d, h => by
    simp only [List.cons_append, eqvs, eqvs_append (a := a) (b := b) (by simpa using h), Bool.and_assoc]
  | [], y :: b, _, _, h => by simp at h
  | x :: a, [], _, _, h => by simp at h

class EqC (P : Program) (t : TypeId) (n : outParam Nat) (ls : outParam (List Lf)) : Prop where
  guard : P.eqGuardType P.depth t = false
  eq : ∀ (d : Nat) (cs ds : List Value) (w : World), Fits ls cs → Fits ls ds → (Op.equalIn (d + n) t (.agg cs.toArray) (.agg ds.toArray)).run P w = .ok (eqvs cs ds) w

theorem beq_bytes (x y : ByteArray) : (x == y) = decide (x = y) := by
  obtain ⟨x⟩ := x
  obtain ⟨y⟩ := y
  show (x == y) = decide (ByteArray.mk x = ByteArray.mk y)
  simp only [ByteArray.mk.injEq]
  by_cases e : x = y
  · subst e; simp
  · simp [e]
theorem leaf_eq {P : Program} (d : Nat) (t : TypeId) (l : Lf) (h : P.underlying t = some l.desc) (a b : Value) (w : World) (ha : l.fit a) (hb : l.fit b) : (Op.equalIn (d + 1) t a b).run P w = .ok (eqv a b) w := by
  cases l with
  | I k =>
    obtain ⟨x, rfl⟩ := ha
    obtain ⟨y, rfl⟩ := hb
    rw [run_equalIn_int w d t k k x y h]
    congr 1
  | S =>
    obtain ⟨x, rfl⟩ := ha
    obtain ⟨y, rfl⟩ := hb
    rw [run_equalIn_string w d t x y h]
    congr 1
    rw [← beq_toListBytes]
    exact beq_bytes x y
  | B =>
    obtain ⟨x, rfl⟩ := ha
    obtain ⟨y, rfl⟩ := hb
    rw [run_equalIn_bool' w d t x y h]
    congr 1

inductive FieldsC (P : Program) : List Field → Nat → Nat → List Lf → Prop where
  | nil {i n : Nat} : FieldsC P [] i n []
  | leaf {f : Field} {fs : List Field} {i n : Nat} {ls : List Lf} (l : Lf) (hn : (f.name != "_" && f.offset == i) = true) (hu : P.underlying f.type = some l.desc) (r : FieldsC P fs (i + 1) n ls) : FieldsC P (f :: fs) i n (l :: ls)
  | sub {f : Field} {fs : List Field} {i n m : Nat} {l1 ls : List Lf} (hn : (f.name != "_" && f.offset == i) = true) (he : EqC P f.type m l1) (hm : m ≤ n) (hs : Sz P f.type l1.length) (ha : Ag P f.type) (r : FieldsC P fs (i + l1.length) n ls) : FieldsC P (f :: fs) i n (l1 ++ ls)

theorem eqFields_of {P : Program} {n : Nat} (d : Nat) : ∀ {fs : List Field} {i : Nat} {ls : List Lf}, FieldsC P fs i n ls → ∀ (pa pb cs ds : List Value) (w : World), pa.length = i → pb.length = i → Fits ls cs → Fits ls ds →
    (Op.eqFields (d + (n + 1)) (pa ++ cs).toArray (pb ++ ds).toArray fs).run P w = .ok (eqvs cs ds) w := by
  intro fs i ls h
  induction h with
  | nil =>
    intro pa pb cs ds w _ _ hc hd
    cases cs with
    | nil => cases ds with
      | nil => simp [Op.eqFields, eqvs]
      | cons _ _ => exact hd.elim
    | cons _ _ => exact hc.elim
  | @leaf f fs i n ls l hn hu r ih =>
    intro pa pb cs ds w ha hb hc hd
    simp only [Bool.and_eq_true, bne_iff_ne, beq_iff_eq] at hn
    obtain ⟨hn, ho⟩ := hn
    cases cs with
    | nil => exact hc.elim
    | cons c cs => cases ds with
      | nil => exact hd.elim
      | cons e ds =>
        have ih' := ih (pa ++ [c]) (pb ++ [e]) cs ds w (by simp [ha]) (by simp [hb]) hc.2 hd.2
        simp only [List.append_assoc, List.singleton_append] at ih'
        have one : (isAgg f.type).run P w = .ok false w := by cases l <;> simp [isAgg, run_underlying hu, Lf.desc]
        have hpx : (part f.type (pa ++ c :: cs).toArray f.offset).run P w = .ok c w := by simp [part, one, ho, ← ha]
        have hpy : (part f.type (pb ++ e :: ds).toArray f.offset).run P w = .ok e w := by simp [part, one, ho, ← hb]
        simp only [Op.eqFields, hn, ne_eq, not_false_eq_true, if_true, Sem.run_bind, hpx, hpy, Result.andThen_ok]
        rw [show d + (n + 1) = d + n + 1 by omega, leaf_eq (d + n) f.type l hu c e w hc.1 hd.1, ← show d + (n + 1) = d + n + 1 by omega]
        simp only [Result.andThen_ok, eqvs]
        cases eqv c e
        · simp
        · simpa using ih'
  | @sub f fs i n m l1 ls hn he hm hs hag r ih =>
    intro pa pb cs ds w ha hb hc hd
    simp only [Bool.and_eq_true, bne_iff_ne, beq_iff_eq] at hn
    obtain ⟨hn, ho⟩ := hn
    obtain ⟨c1, c2, rfl, f1, f2⟩ := fits_append hc
    obtain ⟨d1, d2, rfl, g1, g2⟩ := fits_append hd
    have ih' := ih (pa ++ c1) (pb ++ d1) c2 d2 w (by simp [ha, f1.length]) (by simp [hb, g1.length]) f2 g2
    simp only [List.append_assoc] at ih'
    have ex : ∀ (p c r : List Value), (p ++ (c ++ r)).toArray.extract p.length (p.length + c.length) = c.toArray := fun p c r => by
      apply Array.ext'
      simp
    have hpx : (part f.type (pa ++ (c1 ++ c2)).toArray f.offset).run P w = .ok (.agg c1.toArray) w := by
      have := ex pa c1 c2
      rw [ha, f1.length] at this
      simp [part, hag.agg, hs.run, ho] at this ⊢
      exact this
    have hpy : (part f.type (pb ++ (d1 ++ d2)).toArray f.offset).run P w = .ok (.agg d1.toArray) w := by
      have := ex pb d1 d2
      rw [hb, g1.length] at this
      simp [part, hag.agg, hs.run, ho] at this ⊢
      exact this
    have heq := he.eq (d + (n + 1) - m) c1 d1 w f1 g1
    rw [show d + (n + 1) - m + m = d + (n + 1) by omega] at heq
    simp only [Op.eqFields, hn, ne_eq, not_false_eq_true, if_true, Sem.run_bind, hpx, hpy, Result.andThen_ok, heq]
    rw [eqvs_append (by rw [f1.length, g1.length])]
    cases eqvs c1 d1
    · simp
    · simpa using ih'
theorem EqC.mk' {P : Program} {t n : Nat} {fs : Array Field} {ls : List Lf} (hu : P.underlying t = some (.struct fs)) (hs : P.stoodInHeld t = false) (hg : P.eqGuardType P.depth t = false) (hf : FieldsC P fs.toList 0 n ls) : EqC P t (n + 2) ls := ⟨hg, fun d cs ds w hc hd => by
  have hfo : P.fieldsOf t = fs := by simp [Program.fieldsOf, hu]
  rw [show d + (n + 2) = d + (n + 1) + 1 by omega, run_equalIn_struct w (d + (n + 1)) t _ _ (by rw [hfo]; exact hu) hs, hfo]
  exact eqFields_of d hf [] [] cs ds w rfl rfl hc hd⟩

/-- That cells fit, found by their form. -/
class FitC (ls : List Lf) (cs : List Value) : Prop where fit : Fits ls cs
instance : FitC [] [] := ⟨trivial⟩
instance {k : IntKind} {a : Int} {ls : List Lf} {cs : List Value} [h : FitC ls cs] : FitC (.I k :: ls) (.int k a :: cs) := ⟨⟨_, rfl⟩, h.fit⟩
instance {a : ByteArray} {ls : List Lf} {cs : List Value} [h : FitC ls cs] : FitC (.S :: ls) (.string a :: cs) := ⟨⟨_, rfl⟩, h.fit⟩
instance {a : Bool} {ls : List Lf} {cs : List Value} [h : FitC ls cs] : FitC (.B :: ls) (.bool a :: cs) := ⟨⟨_, rfl⟩, h.fit⟩

namespace D
variable {C : Cx} {env : Env} {x y : Operand} {ty : TypeId} {pos : String} {af : Array Edge} {gd : Option (Nat × Bool)}
variable {W : World → Prop} {t u : TypeId} {ds : Option Tmp} {n : Nat} {ls : List Lf}
theorem eqG {cs es : List Value} (p : Prop) [Decidable p] [h : EqC C.P t n ls] (hx : ev env x = some (.agg cs.toArray)) (hy : ev env y = some (.agg es.toArray)) (hn : (decide (n ≤ 10000)) = true) [f1 : FitC ls cs] [f2 : FitC ls es] (hp : eqvs cs es = decide p) : Det C W env ⟨ds, .binOp .eql t x y u, ty, pos, af, gd⟩ (.bool (decide p)) := ⟨fun ac w he _ => by
  have hn' : n ≤ 10000 := of_decide_eq_true hn
  have h1 := h.eq (10000 - n) cs es w f1.fit f2.fit
  rw [show 10000 - n + n = 10000 by omega] at h1
  simp only [execOp, he.ev hx, he.ev hy, Sem.run_bind, run_eqGuard_agg w .eql t x y _ _ h.guard, Result.andThen_ok, run_eql_struct, h1, Sem.run_pure, hp]⟩
theorem eqS4 {k0 k1 k2 k3 : IntKind} {a0 a1 a2 a3 b0 b1 b2 b3 : Int} [h : EqC C.P t n [.I k0, .I k1, .I k2, .I k3]] (hx : ev env x = some (.agg #[.int k0 a0, .int k1 a1, .int k2 a2, .int k3 a3])) (hy : ev env y = some (.agg #[.int k0 b0, .int k1 b1, .int k2 b2, .int k3 b3])) (hn : (decide (n ≤ 10000)) = true) : Det C W env ⟨ds, .binOp .eql t x y u, ty, pos, af, gd⟩ (.bool (decide (a0 = b0 ∧ a1 = b1 ∧ a2 = b2 ∧ a3 = b3))) :=
  eqG (cs := [.int k0 a0, .int k1 a1, .int k2 a2, .int k3 a3]) (es := [.int k0 b0, .int k1 b1, .int k2 b2, .int k3 b3]) _ hx hy hn (by simp [eqvs, eqv])
end D
end Go.Lx
