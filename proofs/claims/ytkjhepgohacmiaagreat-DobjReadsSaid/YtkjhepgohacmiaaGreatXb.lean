/- Own layer, part b: what is known of a frame's slots (Env) and of memory (Conf: assertions on disjoint blocks, all else as it was), and the rules of control. Plain theorems. -/
import Derived.Test.YtkjhepgohacmiaaGreatXa
import Derived.Below
import Derived.Scope
import Derived.Laws.AppendOwn
import Derived.Laws.CopyRow
import Derived.RangeFuncLeaves
import Derived.RangeFuncRecord
namespace Go.Lx
set_option linter.unusedVariables false
set_option linter.unusedSimpArgs false

/-! ### slots -/
abbrev Env := List (Nat × Value)

/-- The kind of an activation: how many slots, the block of the mark (if a range over a function was entered), the round's loop. -/
structure Kd where
  n : Nat
  ms : Option Nat
  ro : Option Nat
instance : Coe Nat Kd := ⟨fun n => ⟨n, none, none⟩⟩
instance (n : Nat) : OfNat Kd n := ⟨⟨n, none, none⟩⟩
def marks : Option Nat → List Deferred
  | none => []
  | some D => [{ target := .collected D, args := #[] }]
abbrev fen (k : Kd) : Fence := { Fence.wide with round := k.ro }

structure EnvOK (k : Kd) (env : Env) (a : Act) : Prop where
  size : a.tmps.size = k.n
  defers : a.defers = marks k.ms
  vals : ∀ t v, env.lookup t = some v → a.tmps[t]? = some v

def ev (env : Env) : Operand → Option Value
  | .tmp t => env.lookup t
  | .const v => some v
  | .func f => some (.func (.func f) #[] #[])
  | .global g => some (.pointer (some ⟨g, 0, none⟩))

def evs (env : Env) : List Operand → Option (List Value)
  | [] => some []
  | x :: l => match ev env x, evs env l with
    | some v, some vs => some (v :: vs)
    | _, _ => none
def evps (env : Env) : List (Nat × Operand) → Option (List (Nat × Value))
  | [] => some []
  | (i, x) :: l => match ev env x, evps env l with
    | some v, some vs => some ((i, v) :: vs)
    | _, _ => none

theorem EnvOK.ev {n : Kd} {env : Env} {a : Act} (h : EnvOK n env a) {x : Operand} {v : Value} (hx : ev env x = some v) : a.eval x = v := by
  cases x with
  | tmp t =>
    have := h.vals t v hx
    simp [Act.eval, Array.getD_eq_getD_getElem?, this]
  | const u => simpa [Lx.ev, Act.eval] using hx
  | func f => simpa [Lx.ev, Act.eval] using hx
  | global g => simpa [Lx.ev, Act.eval] using hx

theorem EnvOK.evs {n : Kd} {env : Env} {a : Act} (he : EnvOK n env a) : ∀ (l : List Operand) (vs : List Value), evs env l = some vs → l.map a.eval = vs
  | [], vs, h => by simp [Lx.evs] at h; simp [← h]
  | x :: l, vs, h => by
    simp only [Lx.evs] at h
    split at h
    · rename_i v us hv hus
      cases h
      simp [he.ev hv, he.evs l us hus]
    · cases h
theorem EnvOK.evps {n : Kd} {env : Env} {a : Act} (he : EnvOK n env a) : ∀ (l : List (Nat × Operand)) (vs : List (Nat × Value)), evps env l = some vs → l.map (fun p => (p.1, a.eval p.2)) = vs
  | [], vs, h => by simp [Lx.evps] at h; simp [← h]
  | (i, x) :: l, vs, h => by
    simp only [Lx.evps] at h
    split at h
    · rename_i v us hv hus
      cases h
      simp [he.ev hv, he.evps l us hus]
    · cases h

theorem EnvOK.put {n : Kd} {env : Env} {a : Act} (h : EnvOK n env a) {d : Nat} (hd : Nat.blt d n.n = true) (v : Value) : EnvOK n ((d, v) :: env) (a.put (some d) v) := by
  have hd : d < n.n := by simpa [Nat.blt_eq] using hd
  refine ⟨by simp [Act.put, h.size], h.defers, fun t u ht => ?_⟩
  simp only [List.lookup_cons] at ht
  simp only [Act.put, Array.getElem?_setIfInBounds]
  by_cases e : t = d
  · subst e
    simp at ht
    subst ht
    simp [h.size, hd]
  · rw [if_neg (Ne.symm e)]
    have : (t == d) = false := by simpa using e
    rw [this] at ht
    exact h.vals t u ht

theorem EnvOK.putNone {n : Kd} {env : Env} {a : Act} (h : EnvOK n env a) (v : Value) : EnvOK n env (a.put none v) := h

def Sub (e' e : Env) : Prop := ∀ t v, e'.lookup t = some v → e.lookup t = some v
theorem Sub.nil {e : Env} : Sub [] e := fun _ _ h => by cases h
theorem Sub.cons {e' e : Env} {t : Nat} {v : Value} (h : e.lookup t = some v) (k : Sub e' e) : Sub ((t, v) :: e') e := by
  intro s u hs
  simp only [List.lookup_cons] at hs
  by_cases hst : s = t
  · subst hst
    simp at hs
    subst hs
    exact h
  · have : (s == t) = false := by simpa using hst
    rw [this] at hs
    exact k s u hs
theorem Sub.refl {e : Env} : Sub e e := fun _ _ h => h
theorem Sub.trans {e1 e2 e3 : Env} (h : Sub e1 e2) (k : Sub e2 e3) : Sub e1 e3 := fun t v x => k t v (h t v x)
theorem EnvOK.sub {n : Kd} {e e' : Env} {a : Act} (h : EnvOK n e a) (k : Sub e' e) : EnvOK n e' a := ⟨h.size, h.defers, fun t v ht => h.vals t v (k t v ht)⟩

/-! ### memory -/
structure Assn where
  holds : World → (Nat → Prop) → Prop
  loc : ∀ {w w' : World} {F : Nat → Prop}, holds w F → (∀ b, F b → w'.heap[b]? = w.heap[b]?) → holds w' F
  dom : ∀ {w : World} {F : Nat → Prop} {b : Nat}, holds w F → F b → b < w.heap.size

def Sep : List Assn → World → (Nat → Prop) → Prop
  | [], _, F => ∀ b, ¬ F b
  | p :: ps, w, F => ∃ F1 F2, p.holds w F1 ∧ Sep ps w F2 ∧ (∀ b, F1 b → ¬ F2 b) ∧ (∀ b, F b ↔ F1 b ∨ F2 b)

theorem Sep.loc : ∀ {A : List Assn} {w w' : World} {F : Nat → Prop}, Sep A w F → (∀ b, F b → w'.heap[b]? = w.heap[b]?) → Sep A w' F
  | [], _, _, _, h, _ => h
  | p :: ps, _, _, _, ⟨F1, F2, h1, h2, hd, hF⟩, hk =>
    ⟨F1, F2, p.loc h1 (fun b hb => hk b ((hF b).2 (.inl hb))), Sep.loc h2 (fun b hb => hk b ((hF b).2 (.inr hb))), hd, hF⟩

theorem Sep.dom : ∀ {A : List Assn} {w : World} {F : Nat → Prop} {b : Nat}, Sep A w F → F b → b < w.heap.size
  | [], _, _, b, h, hb => absurd hb (h b)
  | p :: ps, _, _, b, ⟨F1, F2, h1, h2, _, hF⟩, hb => by
    rcases (hF b).1 hb with hb | hb
    · exact p.dom h1 hb
    · exact Sep.dom h2 hb

theorem Sep.append : ∀ {A B : List Assn} {w : World} {F1 F2 : Nat → Prop}, Sep A w F1 → Sep B w F2 → (∀ b, F1 b → ¬ F2 b) → Sep (A ++ B) w (fun b => F1 b ∨ F2 b)
  | [], B, w, F1, F2, h1, h2, _ => by
    have : (fun b => F1 b ∨ F2 b) = F2 := by
      funext b
      have := h1 b
      simp [this]
    rw [this]
    exact h2
  | p :: ps, B, w, F1, F2, ⟨G1, G2, g1, g2, gd, gF⟩, h2, hd => by
    refine ⟨G1, fun b => G2 b ∨ F2 b, g1, Sep.append g2 h2 (fun b hb => hd b ((gF b).2 (.inr hb))), ?_, ?_⟩
    · intro b hb h
      rcases h with h | h
      · exact gd b hb h
      · exact hd b ((gF b).2 (.inl hb)) h
    · intro b
      show (F1 b ∨ F2 b) ↔ G1 b ∨ G2 b ∨ F2 b
      rw [gF b, or_assoc]

theorem Sep.split : ∀ {A B : List Assn} {w : World} {F : Nat → Prop}, Sep (A ++ B) w F → ∃ F1 F2, Sep A w F1 ∧ Sep B w F2 ∧ (∀ b, F1 b → ¬ F2 b) ∧ (∀ b, F b ↔ F1 b ∨ F2 b)
  | [], B, w, F, h => ⟨fun _ => False, F, fun _ h => h, h, fun _ h => h.elim, fun b => by simp⟩
  | p :: ps, B, w, F, ⟨G1, G2, g1, g2, gd, gF⟩ => by
    obtain ⟨F1, F2, f1, f2, fd, fF⟩ := Sep.split g2
    refine ⟨fun b => G1 b ∨ F1 b, F2, ⟨G1, F1, g1, f1, fun b hb h => gd b hb ((fF b).2 (.inl h)), fun b => Iff.rfl⟩, f2, ?_, ?_⟩
    · intro b hb h2
      rcases hb with hb | hb
      · exact gd b hb ((fF b).2 (.inr h2))
      · exact fd b hb h2
    · intro b
      show F b ↔ (G1 b ∨ F1 b) ∨ F2 b
      rw [gF b, fF b, or_assoc]

theorem Sep.perm {A B : List Assn} (h : A.Perm B) : ∀ {w : World} {F : Nat → Prop}, Sep A w F → Sep B w F := by
  induction h with
  | nil => exact fun h => h
  | cons p _ ih => exact fun ⟨F1, F2, h1, h2, hd, hF⟩ => ⟨F1, F2, h1, ih h2, hd, hF⟩
  | swap p q l =>
    intro w F ⟨F1, F2, h1, ⟨G1, G2, g1, g2, gd, gF⟩, hd, hF⟩
    refine ⟨G1, fun b => F1 b ∨ G2 b, g1, ⟨F1, G2, h1, g2, fun b hb h => hd b hb ((gF b).2 (.inr h)), fun _ => Iff.rfl⟩, ?_, ?_⟩
    · intro b hb h
      rcases h with h | h
      · exact hd b h ((gF b).2 (.inl hb))
      · exact gd b hb h
    · intro b
      rw [hF b, gF b]
      constructor <;> rintro (h | h | h) <;> simp [h]
  | trans _ _ ih1 ih2 => exact fun h => ih2 (ih1 h)

structure Cx where
  P : Program
  n : Kd
  w0 : World
  H : Nat → Prop

structure Conf (C : Cx) (A : List Assn) (w : World) : Prop where
  os : w.os = C.w0.os
  tape : w.tape = C.w0.tape
  output : w.output = C.w0.output
  size : C.w0.heap.size ≤ w.heap.size
  drawn : C.w0.drawn ≤ w.drawn
  keep : ∀ b, b < C.w0.heap.size → ¬ C.H b → w.heap[b]? = C.w0.heap[b]?
  sep : ∃ F, Sep A w F ∧ ∀ b, F b → C.H b ∨ C.w0.heap.size ≤ b

variable {C : Cx} {A B : List Assn} {w : World}

theorem Conf.perm (h : Conf C A w) (k : A.Perm B) : Conf C B w := ⟨h.os, h.tape, h.output, h.size, h.drawn, h.keep, let ⟨F, s, f⟩ := h.sep; ⟨F, s.perm k, f⟩⟩
theorem Conf.drop {p : Assn} (h : Conf C (p :: A) w) : Conf C A w :=
  ⟨h.os, h.tape, h.output, h.size, h.drawn, h.keep, let ⟨_, ⟨_, F2, _, h2, _, hF⟩, f⟩ := h.sep; ⟨F2, h2, fun b hb => f b ((hF b).2 (.inr hb))⟩⟩
theorem Conf.sub (h : Conf C A w) (k : B.Sublist A) : Conf C B w := by
  obtain ⟨F, s, f⟩ := h.sep
  suffices ∀ {B A : List Assn}, B.Sublist A → ∀ {F : Nat → Prop}, Sep A w F → ∃ F', Sep B w F' ∧ ∀ b, F' b → F b by
    obtain ⟨F', s', f'⟩ := this k s
    exact ⟨h.os, h.tape, h.output, h.size, h.drawn, h.keep, F', s', fun b hb => f b (f' b hb)⟩
  intro B A k
  induction k with
  | slnil => exact fun h => ⟨_, h, fun _ h => h⟩
  | cons p _ ih =>
    intro F ⟨F1, F2, _, h2, _, hF⟩
    obtain ⟨F', s', f'⟩ := ih h2
    exact ⟨F', s', fun b hb => (hF b).2 (.inr (f' b hb))⟩
  | cons_cons p _ ih =>
    intro F ⟨F1, F2, h1, h2, hd, hF⟩
    obtain ⟨F', s', f'⟩ := ih h2
    refine ⟨fun b => F1 b ∨ F' b, ⟨F1, F', h1, s', fun b hb h => hd b hb (f' b h), fun _ => Iff.rfl⟩, ?_⟩
    rintro b (hb | hb)
    · exact (hF b).2 (.inl hb)
    · exact (hF b).2 (.inr (f' b hb))

/-- The draw of an order. -/
theorem Conf.drew (h : Conf C A w) : Conf C A w.drew := ⟨h.os, h.tape, h.output, h.size, Nat.le_succ_of_le h.drawn, h.keep, let ⟨F, s, f⟩ := h.sep; ⟨F, s.loc (fun _ _ => rfl), f⟩⟩

theorem Sep.get : ∀ {A : List Assn} {i : Nat} {p : Assn} {w : World} {F : Nat → Prop}, A[i]? = some p → Sep A w F → ∃ F1, p.holds w F1 ∧ ∀ b, F1 b → F b
  | [], _, _, _, _, h, _ => by cases h
  | q :: qs, 0, p, _, _, h, ⟨F1, F2, h1, _, _, hF⟩ => by
    simp at h
    subst h
    exact ⟨F1, h1, fun b hb => (hF b).2 (.inl hb)⟩
  | q :: qs, i + 1, p, _, _, h, ⟨F1, F2, _, h2, _, hF⟩ => by
    obtain ⟨G, g, gF⟩ := Sep.get (i := i) (by simpa using h) h2
    exact ⟨G, g, fun b hb => (hF b).2 (.inr (gF b hb))⟩

theorem Conf.get {i : Nat} {p : Assn} (h : Conf C A w) (hi : A[i]? = some p) : ∃ F, p.holds w F ∧ ∀ b, F b → C.H b ∨ C.w0.heap.size ≤ b := by
  obtain ⟨F, s, f⟩ := h.sep
  obtain ⟨F1, h1, k⟩ := s.get hi
  exact ⟨F1, h1, fun b hb => f b (k b hb)⟩

/-- One assertion is changed: its blocks are written, others not; what is new is new. -/
theorem Conf.update {i : Nat} {p q : Assn} {w' : World} (h : Conf C A w) (hi : A[i]? = some p) (hos : w'.os = w.os) (htape : w'.tape = w.tape) (hout : w'.output = w.output) (hsz : w.heap.size ≤ w'.heap.size) (hdr : w.drawn ≤ w'.drawn)
    (hq : ∀ F, p.holds w F → ∃ F', q.holds w' F' ∧ (∀ b, F' b → F b ∨ w.heap.size ≤ b) ∧ ∀ b, b < w.heap.size → ¬ F b → w'.heap[b]? = w.heap[b]?) : Conf C (A.set i q) w' := by
  obtain ⟨F, s, f⟩ := h.sep
  suffices ∀ {A : List Assn} {i : Nat} {F : Nat → Prop}, A[i]? = some p → Sep A w F → ∃ F', Sep (A.set i q) w' F' ∧ (∀ b, F' b → F b ∨ w.heap.size ≤ b) ∧ ∀ b, b < w.heap.size → ¬ F b → w'.heap[b]? = w.heap[b]? by
    obtain ⟨F', s', f', k'⟩ := this hi s
    refine ⟨hos.trans h.os, htape.trans h.tape, hout.trans h.output, Nat.le_trans h.size hsz, Nat.le_trans h.drawn hdr, fun b hb hH => ?_, F', s', fun b hb => ?_⟩
    · rw [k' b (Nat.lt_of_lt_of_le hb h.size) (fun hF => ?_), h.keep b hb hH]
      rcases f b hF with h1 | h1
      · exact hH h1
      · omega
    · rcases f' b hb with h1 | h1
      · exact f b h1
      · exact .inr (Nat.le_trans h.size h1)
  intro A
  induction A with
  | nil => intro i F hi; cases hi
  | cons r rs ih =>
    intro i F hi ⟨F1, F2, h1, h2, hd, hF⟩
    cases i with
    | zero =>
      simp at hi
      subst hi
      obtain ⟨G, g1, gF, gk⟩ := hq F1 h1
      have hd2 : ∀ b, F2 b → b < w.heap.size := fun b hb => Sep.dom h2 hb
      refine ⟨fun b => G b ∨ F2 b, ⟨G, F2, g1, h2.loc (fun b hb => gk b (hd2 b hb) (fun h => hd b h hb)), ?_, fun _ => Iff.rfl⟩, ?_, ?_⟩
      · intro b hb h2b
        rcases gF b hb with h | h
        · exact hd b h h2b
        · have := hd2 b h2b; omega
      · rintro b (hb | hb)
        · rcases gF b hb with h | h
          · exact .inl ((hF b).2 (.inl h))
          · exact .inr h
        · exact .inl ((hF b).2 (.inr hb))
      · intro b hb hn
        exact gk b hb (fun h => hn ((hF b).2 (.inl h)))
    | succ i =>
      obtain ⟨F', s', f', k'⟩ := ih (by simpa using hi) h2
      have hd1 : ∀ b, F1 b → b < w.heap.size := fun b hb => r.dom h1 hb
      refine ⟨fun b => F1 b ∨ F' b, ⟨F1, F', r.loc h1 (fun b hb => k' b (hd1 b hb) (hd b hb)), s', ?_, fun _ => Iff.rfl⟩, ?_, ?_⟩
      · intro b hb hb'
        rcases f' b hb' with h | h
        · exact hd b hb h
        · have := hd1 b hb; omega
      · rintro b (hb | hb)
        · exact .inl ((hF b).2 (.inl hb))
        · rcases f' b hb with h | h
          · exact .inl ((hF b).2 (.inr h))
          · exact .inr h
      · intro b hb hn
        exact k' b hb (fun h => hn ((hF b).2 (.inr h)))

/-- Something new. -/
theorem Conf.new {q : Assn} {w' : World} (h : Conf C A w) (hos : w'.os = w.os) (htape : w'.tape = w.tape) (hout : w'.output = w.output) (hsz : w.heap.size ≤ w'.heap.size) (hdr : w.drawn ≤ w'.drawn) (hk : ∀ b, b < w.heap.size → w'.heap[b]? = w.heap[b]?)
    (hq : ∃ F', q.holds w' F' ∧ ∀ b, F' b → w.heap.size ≤ b) : Conf C (q :: A) w' := by
  obtain ⟨F, s, f⟩ := h.sep
  obtain ⟨G, g, gF⟩ := hq
  have hd : ∀ b, F b → b < w.heap.size := fun b hb => Sep.dom s hb
  refine ⟨hos.trans h.os, htape.trans h.tape, hout.trans h.output, Nat.le_trans h.size hsz, Nat.le_trans h.drawn hdr, fun b hb hH => ?_, fun b => G b ∨ F b, ⟨G, F, g, s.loc (fun b hb => hk b (hd b hb)), ?_, fun _ => Iff.rfl⟩, ?_⟩
  · rw [hk b (Nat.lt_of_lt_of_le hb h.size), h.keep b hb hH]
  · intro b hb hb'
    have := gF b hb
    have := hd b hb'
    omega
  · rintro b (hb | hb)
    · exact .inr (Nat.le_trans h.size (gF b hb))
    · exact f b hb

/-- The world behind a call that was given the blocks of 'B' (context of its own), of which 'B'' is left. -/
theorem Conf.behind {B B' : List Assn} {n : Kd} {w' : World} (h : Conf C (B ++ A) w) (hc : ∀ F, Sep B w F → Conf ⟨C.P, n, w, F⟩ B' w') : Conf C (B' ++ A) w' := by
  obtain ⟨F, s, f⟩ := h.sep
  obtain ⟨F1, F2, s1, s2, hd, hF⟩ := s.split
  have k := hc F1 s1
  obtain ⟨G, g, gF⟩ := k.sep
  have hd2 : ∀ b, F2 b → b < w.heap.size := fun b hb => Sep.dom s2 hb
  refine ⟨k.os.trans h.os, k.tape.trans h.tape, k.output.trans h.output, Nat.le_trans h.size k.size, Nat.le_trans h.drawn k.drawn, fun b hb hH => ?_, fun b => G b ∨ F2 b, Sep.append g (s2.loc fun b hb => k.keep b (hd2 b hb) (fun h1 => hd b h1 hb)) ?_, ?_⟩
  · rw [k.keep b (Nat.lt_of_lt_of_le hb h.size) (fun h1 => ?_), h.keep b hb hH]
    rcases f b ((hF b).2 (.inl h1)) with h2 | h2
    · exact hH h2
    · omega
  · intro b hb hb2
    rcases gF b hb with h1 | h1
    · exact hd b h1 hb2
    · have := hd2 b hb2
      simp only at h1
      omega
  · rintro b (hb | hb)
    · rcases gF b hb with h1 | h1
      · exact f b ((hF b).2 (.inl h1))
      · exact .inr (Nat.le_trans h.size h1)
    · exact f b ((hF b).2 (.inr hb))

theorem Conf.start {P : Program} {n : Kd} {H : Nat → Prop} (h : Sep A w H) : Conf ⟨P, n, w, H⟩ A w :=
  ⟨rfl, rfl, rfl, Nat.le_refl _, Nat.le_refl _, fun _ _ _ => rfl, H, h, fun _ hb => .inl hb⟩

theorem Conf.any {n : Kd} (h : Conf C A w) : Conf ⟨C.P, n, C.w0, C.H⟩ A w := ⟨h.os, h.tape, h.output, h.size, h.drawn, h.keep, h.sep⟩

/-- What extends what extends. -/
theorem Conf.over {P : Program} {m : Kd} {w0 w1 w2 : World} {H : Nat → Prop} (h : Conf ⟨P, 0, w1, fun _ => False⟩ [] w2) (k : Conf ⟨P, m, w0, H⟩ A w1) : Conf ⟨P, 0, w0, H⟩ [] w2 :=
  ⟨h.os.trans k.os, h.tape.trans k.tape, h.output.trans k.output, Nat.le_trans k.size h.size, Nat.le_trans k.drawn h.drawn, fun b hb hH => by
    rw [h.keep b (Nat.lt_of_lt_of_le hb k.size) (fun h => h), k.keep b hb hH], fun _ => False, fun _ h => h, fun _ h => h.elim⟩

/-! ### judgements -/
structure X (C : Cx) (c : Code) (Q : Exit → Act → World → Prop) (env : Env) (A : List Assn) : Prop where go : ∀ a w, EnvOK C.n env a → Conf C A w → c.wpIn (fen C.n) 9 C.P Q a w
structure N (C : Cx) (Q : Exit → Act → World → Prop) (env : Env) (A : List Assn) : Prop where go : ∀ a w, EnvOK C.n env a → Conf C A w → Q .normal a w
structure Ex (C : Cx) (id : Nat) (Q : Exit → Act → World → Prop) (env : Env) (A : List Assn) : Prop where go : ∀ a w, EnvOK C.n env a → Conf C A w → Q (.exit id) a w
structure Rt (C : Cx) (Q : Exit → Act → World → Prop) (env : Env) (A : List Assn) : Prop where go : ∀ a w, EnvOK C.n env a → Conf C A w → Q .ret a w
structure XL (C : Cx) (ops : Array Oper) (Q : Exit → Act → World → Prop) (S : World → Prop) (L : Sd) (env : Env) (A : List Assn) : Prop where
  go : ∀ a w, EnvOK C.n env a → Conf C A w → wpT C.P ops Q S L a w

/-- A call ends in a value and memory that 'R' tells. -/
def Spec (P : Program) (f : FuncId) (args : Array Value) (w : World) (H : Nat → Prop) (R : Value → List Assn → Prop) : Prop :=
  Calls P f args w fun e w' => ∃ v A, e = .returned v ∧ R v A ∧ Conf ⟨P, 0, w, H⟩ A w'

theorem Spec.mono {P : Program} {f : FuncId} {args : Array Value} {w : World} {H : Nat → Prop} {R R' : Value → List Assn → Prop} (h : Spec P f args w H R) (k : ∀ v A, R v A → R' v A) : Spec P f args w H R' :=
  Calls.mono h fun _ _ ⟨v, A, he, hr, hc⟩ => ⟨v, A, he, k v A hr, hc⟩

/-- How a call ends. -/
def Ends (P : Program) (w : World) (H : Nat → Prop) (R : Value → List Assn → Prop) (e : Ending) (w' : World) : Prop := ∃ v A, e = .returned v ∧ R v A ∧ Conf ⟨P, 0, w, H⟩ A w'
/-- What a body owes at its end. -/
def Post (P : Program) (fn : Func) (w : World) (H : Nat → Prop) (R : Value → List Assn → Prop) : Exit → Act → World → Prop
  | .normal, a, w' | .ret, a, w' => LeavesInM Fence.wide 9 P fn a.tmps (Ends P w H R) a.defers .returning w'
  | _, _, _ => False

/-- Nothing of the slots is asked behind a panic; and no run is let out. -/
class NoPanic (Q : Exit → Act → World → Prop) : Prop where
  out : ∀ c a a' w, Q (.panic c) a w → Q (.panic c) a' w
  tight : ∀ a w, ¬ Q .outgrown a w
instance {P : Program} {fn : Func} {w : World} {H : Nat → Prop} {R : Value → List Assn → Prop} : NoPanic (Post P fn w H R) := ⟨fun c a a' w h => h.elim, fun a w h => h.elim⟩
instance {K : Act → World → Prop} {Q : Exit → Act → World → Prop} [h : NoPanic Q] : NoPanic (Exit.then K Q) := ⟨fun c a a' w => h.out c a a' w, fun a w => h.tight a w⟩
instance {id : Nat} {Q : Exit → Act → World → Prop} [h : NoPanic Q] : NoPanic (Exit.inBlock id Q) := ⟨fun c a a' w => h.out c a a' w, fun a w => h.tight a w⟩
theorem NoPanic.lets {Q : Exit → Act → World → Prop} [h : NoPanic Q] : ¬ LetsOut Q := fun ⟨a, w, k⟩ => h.tight a w k

/-! ### from a region's walk to a region's walk in a round -/
def noDefer (ops : Array Oper) : Bool := ops.all fun o => match o.op with | .defer _ => false | _ => true
theorem noDefer_spec {ops : Array Oper} (h : noDefer ops = true) {i : Nat} {o : Oper} (ho : ops[i]? = some o) (c : Call) : o.op ≠ .defer c := fun e => by
  obtain ⟨hi, rfl⟩ := Array.getElem?_eq_some_iff.1 ho
  have := (Array.all_eq_true.1 h) i hi
  rw [e] at this
  cases this

theorem uponIn_of {k : Kd} {n : Nat} {P : Program} {o : Oper} {a : Act} {next : Act → World → Prop} {Q Q' : Exit → Act → World → Prop} {r : Result Next} (hQ : ∀ c a w, Q (.panic c) a w → Q' (.panic c) a w) (hT : ¬ LetsOut Q) (h : o.upon P a next Q r) : o.uponIn (fen k) n P a next Q' r := by
  cases r with
  | ok x w' =>
    cases x with
    | value v => exact h
    | skip => exact h
    | defer d => exact h
    | enter f args => exact ⟨fun h => (by cases h), CallsIn.mono ((callsIn_wide (n := n - 1)).2 h) (fun e w'' he => by cases e <;> first | exact he | exact hQ _ _ _ he | exact (hT he).elim)⟩
    | row row args => exact ⟨fun h => (by cases h), fun c cs _ => let ⟨v, w', r, s⟩ := h c cs; ⟨v, w', r, stepsIn_wide.2 s⟩⟩
    | _ => exact h.elim
  | halt x w' => cases x <;> first | exact h | exact hQ _ _ _ h
theorem wpOpIn_of {k : Kd} {n : Nat} {P : Program} {ops : Array Oper} {Q Q' : Exit → Act → World → Prop} (hQ : ∀ c a w, Q (.panic c) a w → Q' (.panic c) a w) (hT : ¬ LetsOut Q) (hnd : noDefer ops = true) {i : Nat} {K K' : Act → World → Prop} {a : Act} {w : World} (hK : ∀ a w, K a w → K' a w) (h : wpOp P ops Q i K a w) :
    match ops[i]? with
    | none => K' a w
    | some o => if Region.wanted o (yielded ops a.tmps) then o.wpIn (fen k) n P a w K' Q' else (∀ f, o.about P w a.eval = some f → (fen k).fn f) ∧ K' (a.put o.dst undef) w := by
  unfold wpOp at h
  split at h
  · rename_i h0; simp only [h0]; exact hK _ _ h
  · rename_i o ho
    simp only [ho]
    split at h
    · rename_i hw
      rw [if_pos hw]
      have h1 := Oper.wp_mono hK (h.resolve_right fun x => hT x.2)
      refine ⟨fun _ _ => trivial, ?_⟩
      rw [Oper.semAt_eq _ _ _ (noDefer_spec hnd ho)]
      exact uponIn_of hQ hT h1
    · rename_i hw
      rw [if_neg hw]
      exact ⟨fun _ _ => trivial, hK _ _ h⟩
/-- A walk of some operations, and of the rest behind them. -/
theorem wpOpsIn_then {k : Kd} {n : Nat} {P : Program} {ops : Array Oper} {Q : Exit → Act → World → Prop} [NoPanic Q] (hnd : noDefer ops = true) (rest : List Nat) : ∀ (l : List Nat) (a : Act) (w : World), wpOps P ops (Exit.then (wpOpsIn (fen k) n P ops Q rest) Q) l a w → wpOpsIn (fen k) n P ops Q (l ++ rest) a w
  | [], _, _, h => h
  | i :: l, a, w, h => by
    rw [wpOps_cons] at h
    have := wpOpIn_of (k := k) (n := n) (Q' := Q) (fun c a w h => h) NoPanic.lets hnd (fun a w => wpOpsIn_then hnd rest l a w) h
    rw [List.cons_append]
    unfold wpOpsIn
    exact this
theorem wpOpsIn_of {k : Kd} {n : Nat} {P : Program} {ops : Array Oper} {Q : Exit → Act → World → Prop} [NoPanic Q] (hnd : noDefer ops = true) : ∀ (l : List Nat) (a : Act) (w : World), wpOps P ops Q l a w → wpOpsIn (fen k) n P ops Q l a w
  | [], _, _, h => h
  | i :: rest, a, w, h => by
    rw [wpOps_cons] at h
    have := wpOpIn_of (k := k) (n := n) (fun _ _ _ h => h) NoPanic.lets hnd (fun a w => wpOpsIn_of (k := k) (n := n) hnd rest a w) h
    unfold wpOpsIn
    exact this

section
variable {Q : Exit → Act → World → Prop} {env env' : Env} {c d : Code} {id : Nat} {K : Act → World → Prop}

theorem X.seq (h : X C c (Exit.then (d.wpIn (fen C.n) 9 C.P Q) Q) env A) : X C (.seq c d) Q env A := ⟨fun a w he hc => wpIn_seq (h.go a w he hc)⟩
theorem X.skip (h : N C Q env A) : X C .skip Q env A := ⟨fun a w he hc => wpIn_skip (h.go a w he hc)⟩
theorem X.ret (h : Rt C Q env A) : X C .ret Q env A := ⟨fun a w he hc => wpIn_ret (h.go a w he hc)⟩
theorem X.exit (h : Ex C id Q env A) : X C (.exit id) Q env A := ⟨fun a w he hc => wpIn_exit (h.go a w he hc)⟩
theorem X.scope (h : X C c (Exit.noGoto Q) env A) (hro : C.n.ro = none := by rfl) : X C (.scope c) Q env A := ⟨fun a w he hc => by
  have e : fen C.n = Fence.wide := by unfold fen; rw [hro]; rfl
  have := h.go a w he hc
  rw [e, wpIn_wide] at this ⊢
  exact wp_scope_straight this⟩
theorem N.scope (h : N C Q env A) : N C (Exit.noGoto Q) env A := ⟨fun a w he hc => h.go a w he hc⟩
theorem Ex.scope {i : Nat} (h : Ex C i Q env A) : Ex C i (Exit.noGoto Q) env A := ⟨fun a w he hc => h.go a w he hc⟩
theorem Rt.scope (h : Rt C Q env A) : Rt C (Exit.noGoto Q) env A := ⟨fun a w he hc => h.go a w he hc⟩
instance {Q : Exit → Act → World → Prop} [h : NoPanic Q] : NoPanic (Exit.noGoto Q) := ⟨fun c a a' w => h.out c a a' w, fun a w => h.tight a w⟩
theorem X.label {l : Nat} (h : N C Q env A) : X C (.label l) Q env A := ⟨fun a w he hc => wpIn_label (h.go a w he hc)⟩
theorem X.block (h : X C c (Exit.inBlock id Q) env A) : X C (.block id c) Q env A := ⟨fun a w he hc => wpIn_block (h.go a w he hc)⟩
theorem X.condT {x : Operand} (hx : ev env x = some (.bool true)) (h : X C c Q env A) : X C (.cond x c d) Q env A := ⟨fun a w he hc => wpIn_cond_true (he.ev hx) (h.go a w he hc)⟩
theorem X.condF {x : Operand} (hx : ev env x = some (.bool false)) (h : X C d Q env A) : X C (.cond x c d) Q env A := ⟨fun a w he hc => wpIn_cond_false (he.ev hx) (h.go a w he hc)⟩
theorem X.cond {x : Operand} {t : Bool} (hx : ev env x = some (.bool t)) (h : t = true → X C c Q env A) (h' : t = false → X C d Q env A) : X C (.cond x c d) Q env A :=
  ⟨fun a w he hc => wpIn_cond_split (he.ev hx) (fun e => (h e).go a w he hc) (fun e => (h' e).go a w he hc)⟩
theorem X.condD {x : Operand} {p : Prop} [Decidable p] (hx : ev env x = some (.bool (decide p))) (h : p → X C c Q env A) (h' : ¬ p → X C d Q env A) : X C (.cond x c d) Q env A :=
  X.cond hx (fun e => h (of_decide_eq_true e)) (fun e => h' (of_decide_eq_false e))

theorem N.next (h : X C d Q env A) : N C (Exit.then (d.wpIn (fen C.n) 9 C.P Q) Q) env A := ⟨fun a w he hc => h.go a w he hc⟩
theorem N.block (h : N C Q env A) : N C (Exit.inBlock id Q) env A := ⟨fun a w he hc => h.go a w he hc⟩
theorem Ex.then {i : Nat} (h : Ex C i Q env A) : Ex C i (Exit.then K Q) env A := ⟨fun a w he hc => h.go a w he hc⟩
theorem Ex.here (h : N C Q env A) : Ex C id (Exit.inBlock id Q) env A := ⟨fun a w he hc => by
  simp only [Exit.inBlock, if_true]
  exact h.go a w he hc⟩
theorem Ex.out {i : Nat} (hne : (i == id) = false) (h : Ex C i Q env A) : Ex C i (Exit.inBlock id Q) env A := ⟨fun a w he hc => by
  have : ¬ i = id := by simpa using hne
  simp only [Exit.inBlock, this, if_false]
  exact h.go a w he hc⟩
theorem Rt.then (h : Rt C Q env A) : Rt C (Exit.then K Q) env A := ⟨fun a w he hc => h.go a w he hc⟩
theorem Rt.block (h : Rt C Q env A) : Rt C (Exit.inBlock id Q) env A := ⟨fun a w he hc => h.go a w he hc⟩

theorem X.weak (he : Sub env' env) (hA : ∀ w, Conf C A w → Conf C B w) (h : X C c Q env' B) : X C c Q env A := ⟨fun a w e k => h.go a w (e.sub he) (hA w k)⟩
theorem N.weak (he : Sub env' env) (hA : ∀ w, Conf C A w → Conf C B w) (h : N C Q env' B) : N C Q env A := ⟨fun a w e k => h.go a w (e.sub he) (hA w k)⟩
theorem X.mem (hA : ∀ w, Conf C A w → Conf C B w) (h : X C c Q env B) : X C c Q env A := ⟨fun a w e k => h.go a w e (hA w k)⟩
theorem N.mem (hA : ∀ w, Conf C A w → Conf C B w) (h : N C Q env B) : N C Q env A := ⟨fun a w e k => h.go a w e (hA w k)⟩
theorem Rt.mem (hA : ∀ w, Conf C A w → Conf C B w) (h : Rt C Q env B) : Rt C Q env A := ⟨fun a w e k => h.go a w e (hA w k)⟩
/-- A fact that memory bears. -/
theorem X.fact {p : Prop} (hp : ∀ w, Conf C A w → p) (h : p → X C c Q env A) : X C c Q env A := ⟨fun a w e k => (h (hp w k)).go a w e k⟩
theorem N.fact {p : Prop} (hp : ∀ w, Conf C A w → p) (h : p → N C Q env A) : N C Q env A := ⟨fun a w e k => (h (hp w k)).go a w e k⟩
theorem XL.fact {ops : Array Oper} {S : World → Prop} {L : Sd} {p : Prop} (hp : ∀ w, Conf C A w → p) (h : p → XL C ops Q S L env A) : XL C ops Q S L env A := ⟨fun a w e k => (h (hp w k)).go a w e k⟩
theorem XL.mem {ops : Array Oper} {S : World → Prop} {L : Sd} (hA : ∀ w, Conf C A w → Conf C B w) (h : XL C ops Q S L env B) : XL C ops Q S L env A := ⟨fun a w e k => h.go a w e (hA w k)⟩

theorem XL.nil {ops : Array Oper} {S : World → Prop} (h : N C Q env A) : XL C ops Q S .nil env A := ⟨fun a w he hc => h.go a w he hc⟩
theorem XL.at {ops : Array Oper} {S : World → Prop} {cl : Cl} {r : Sd} (i : Nat) (h : XL C ops Q S (.op cl i r) env A) : XL C ops Q S (.op cl i r) env A := h
/-- Several may come first. -/
theorem XL.br {ops : Array Oper} {S : World → Prop} {x y : Sd} (h : XL C ops Q S x env A) (k : XL C ops Q S y env A) : XL C ops Q S (.br x y) env A := ⟨fun a w he hc => ⟨h.go a w he hc, k.go a w he hc⟩⟩

/-- A region in the text's order. -/
theorem X.text {ops : Array Oper} [hQ : NoPanic Q] {L : Sd} (hL : Sd.text ops.size 0 = L) (hnd : noDefer ops = true) (h : XL C ops Q (fun _ => True) L env A) : X C (.region id ops false) Q env A :=
  ⟨fun a w he hc => wpIn_region (wpOpsIn_of hnd _ _ _ (wpOps_text (by rw [hL]; exact h.go a w he hc)))⟩

/-- A region that draws its order. -/
theorem X.draw {ops : Array Oper} [hQ : NoPanic Q] (σ : Sd) (hm : C.P.follows .mixedOrders = true) (hok : (noDefer ops && schedOk ops σ) = true) (h : XL C ops Q (fun w => Conf C A w) σ env A) : X C (.region id ops true) Q env A :=
  ⟨fun a w he hc => wpIn_region_draw fun t => by
    simp only [Bool.and_eq_true] at hok
    exact wpOpsIn_of hok.1 _ _ _ (wpOps_draw σ hm hok.2 hQ.out hc.drew (h.go a w.drew he hc.drew) t)⟩

/-- A loop: what holds at each round's head is told by an index that falls. -/
theorem X.loop {ι : Type} (E : ι → Env) (AA : ι → List Assn) (I : ι → Prop) (μ : ι → Nat) (i0 : ι) (h0 : I i0) (he0 : Sub (E i0) env) (hA0 : ∀ w, Conf C A w → Conf C (AA i0) w)
    (round : ∀ i, I i → X C c (Exit.then (fun a w => ∃ j, I j ∧ μ j < μ i ∧ EnvOK C.n (E j) a ∧ Conf C (AA j) w) Q) (E i) (AA i)) : X C (.loop c) Q env A := by
  refine ⟨fun a w he hc => ?_⟩
  intro b k cs hro hb hr
  have key : ∀ n i a w, μ i = n → I i → EnvOK C.n (E i) a → Conf C (AA i) w →
      ∃ e a' w', Q e a' w' ∧ ArrivesIn (Machine.fenced C.P (fen C.n)) C.P (lone (b.atR a (.code c :: .inLoop c :: k)) cs w) b k cs e a' w' := by
    intro n
    induction n using Nat.strongRecOn with
    | _ n ih =>
      intro i a w hn hI hE hK
      obtain ⟨e, a₁, w₁, hq, harr⟩ := (round i hI).go a w hE hK b (.inLoop c :: k) cs hro hb hr
      cases e with
      | normal =>
        obtain ⟨j, hI₁, hlt, hE₁, hK₁⟩ := hq
        obtain ⟨e₂, a₂, w₂, hq₂, harr₂⟩ := ih (μ j) (hn ▸ hlt) j a₁ w₁ rfl hI₁ hE₁ hK₁
        exact ⟨e₂, a₂, w₂, hq₂, .of_steps (StepsIn.trans harr (.one (fenced_calm hb hr rfl) stepR_inLoop)) harr₂⟩
      | exit id => exact ⟨_, a₁, w₁, hq, .pass (x := .inLoop c) rfl (fun _ _ => .inl (by simp)) harr⟩
      | goto l => exact ⟨_, a₁, w₁, hq, .pass (x := .inLoop c) rfl (fun _ _ => .inl (by simp)) harr⟩
      | ret => exact ⟨_, a₁, w₁, hq, .pass (x := .inLoop c) rfl (fun _ _ => .inl (by simp)) harr⟩
      | panic ch => exact ⟨_, a₁, w₁, hq, .pass (x := .inLoop c) rfl (fun _ _ => .inl (by simp)) harr⟩
      | outgrown => exact ⟨_, a₁, w₁, hq, .pass (x := .inLoop c) rfl (fun _ _ => .inl (by simp)) harr⟩
  obtain ⟨e, a', w', hq, harr⟩ := key _ i0 a w rfl h0 (he.sub he0) (hA0 w hc)
  exact ⟨e, a', w', hq, .of_steps (.one (fenced_calm hb hr rfl) stepR_loop) harr⟩

theorem N.again {ι : Type} {E : ι → Env} {AA : ι → List Assn} {I : ι → Prop} {μ : ι → Nat} {m : Nat} (j : ι) (hI : I j) (hμ : μ j < m) (he : Sub (E j) env) (hA : ∀ w, Conf C A w → Conf C (AA j) w) :
    N C (Exit.then (fun a w => ∃ j, I j ∧ μ j < m ∧ EnvOK C.n (E j) a ∧ Conf C (AA j) w) Q) env A :=
  ⟨fun a w e k => ⟨j, hI, hμ, e.sub he, hA w k⟩⟩

/-- Ways meet: what holds there is told once. -/
theorem X.meet {ι : Type} (E : ι → Env) (AA : ι → List Assn) (I : ι → Prop) (h : X C c (Exit.then (fun a w => ∃ j, I j ∧ EnvOK C.n (E j) a ∧ Conf C (AA j) w) Q) env A)
    (k : ∀ j, I j → X C d Q (E j) (AA j)) : X C (.seq c d) Q env A := by
  refine ⟨fun a w he hc => ?_⟩
  refine wpIn_seq (wpIn_mono (h.go a w he hc) ?_)
  intro e a' w' q
  cases e with
  | normal =>
    obtain ⟨j, hI, hE, hK⟩ := q
    exact (k j hI).go a' w' hE hK
  | _ => exact q
theorem N.meet {ι : Type} {E : ι → Env} {AA : ι → List Assn} {I : ι → Prop} (j : ι) (hI : I j) (he : Sub (E j) env) (hA : ∀ w, Conf C A w → Conf C (AA j) w) :
    N C (Exit.then (fun a w => ∃ j, I j ∧ EnvOK C.n (E j) a ∧ Conf C (AA j) w) Q) env A :=
  ⟨fun a w e k => ⟨j, hI, e.sub he, hA w k⟩⟩

/-- The beginning of a body. -/
def argEnv (k : Nat) : List Value → Env
  | [] => []
  | v :: vs => (k, v) :: argEnv (k + 1) vs

theorem argEnv_lookup : ∀ (vs : List Value) (k t : Nat) (v : Value), (argEnv k vs).lookup t = some v → ∃ i, t = k + i ∧ vs[i]? = some v
  | [], _, _, _, h => by cases h
  | u :: us, k, t, v, h => by
    simp only [argEnv, List.lookup_cons] at h
    by_cases e : t = k
    · subst e
      simp at h
      subst h
      exact ⟨0, rfl, rfl⟩
    · have : (t == k) = false := by simpa using e
      rw [this] at h
      obtain ⟨i, hi, hv⟩ := argEnv_lookup us (k + 1) t v h
      exact ⟨i + 1, by omega, by simpa using hv⟩

theorem Spec.enter {P : Program} {f : FuncId} {fn : Func} {n : Nat} {args : List Value} {w : World} {H : Nat → Prop} {R : Value → List Assn → Prop} {c : Code} (hf : P.funcs[f]? = some fn) (hb : fn.body = some c) (hn : fn.ntmps = n)
    (hle : (decide (args.length ≤ n)) = true) (hpre : Sep A w H) (h : X ⟨P, n, w, H⟩ c (Post P fn w H R) (argEnv 0 args) A) : Spec P f args.toArray w H R := by
  refine (callsIn_wide (n := 9)).1 (callsIn_of_wp_marks hf hb trivial (wpIn_mono (h.go _ w ⟨?_, rfl, ?_⟩ (Conf.start hpre)) (fun e a w q => by cases e <;> first | exact q | exact q.elim)))
  · have hle' : args.length ≤ n := by simpa using hle
    simp [hn]; omega
  · intro t v ht
    obtain ⟨i, rfl, hv⟩ := argEnv_lookup args 0 t v ht
    obtain ⟨hi, _⟩ := List.getElem?_eq_some_iff.1 hv
    simp only [Nat.zero_add]
    rw [Array.getElem?_append_left (by simpa using hi)]
    simpa using hv

/-- The end of a body. -/
def Res (C : Cx) (fn : Func) (env : Env) (A : List Assn) (v : Value) : Prop := ∀ a w, EnvOK C.n env a → Conf C A w → (results fn a.tmps).run C.P w = .ok v w

theorem Rt.done {P : Program} {n : Nat} {ro : Option Nat} {w0 : World} {H : Nat → Prop} {fn : Func} {R : Value → List Assn → Prop} {v : Value} (hv : Res ⟨P, ⟨n, none, ro⟩, w0, H⟩ fn env A v) (hR : R v B) (hA : ∀ w, Conf ⟨P, ⟨n, none, ro⟩, w0, H⟩ A w → Conf ⟨P, ⟨n, none, ro⟩, w0, H⟩ B w) : Rt ⟨P, ⟨n, none, ro⟩, w0, H⟩ (Post P fn w0 H R) env A :=
  ⟨fun a w he hc => by
    show LeavesInM _ _ _ _ _ _ a.defers _ _
    rw [he.defers]
    exact ⟨v, hv a w he hc, v, B, rfl, hR, (hA w hc).any⟩⟩
theorem N.done {P : Program} {n : Nat} {ro : Option Nat} {w0 : World} {H : Nat → Prop} {fn : Func} {R : Value → List Assn → Prop} {v : Value} (hv : Res ⟨P, ⟨n, none, ro⟩, w0, H⟩ fn env A v) (hR : R v B) (hA : ∀ w, Conf ⟨P, ⟨n, none, ro⟩, w0, H⟩ A w → Conf ⟨P, ⟨n, none, ro⟩, w0, H⟩ B w) : N ⟨P, ⟨n, none, ro⟩, w0, H⟩ (Post P fn w0 H R) env A :=
  ⟨fun a w he hc => (Rt.done hv hR hA).go a w he hc⟩

theorem EnvOK.getD {n : Kd} {a : Act} (h : EnvOK n env a) {t : Nat} {v : Value} (ht : env.lookup t = some v) : a.tmps.getD t undef = v := by
  simp [Array.getD_eq_getD_getElem?, h.vals t v ht]
theorem Res.none {fn : Func} (h : fn.results = #[]) : Res C fn env A (.tuple #[]) := fun a w _ _ => results_none h _ _ _
theorem Res.one {fn : Func} {t : Nat} {v : Value} (h : fn.results = #[.tmp t]) (hv : env.lookup t = some v) : Res C fn env A v := fun a w he _ => by
  rw [results_tmp h, he.getD hv]
theorem Res.two {fn : Func} {t u : Nat} {v x : Value} (h : fn.results = #[.tmp t, .tmp u]) (hv : env.lookup t = some v) (hx : env.lookup u = some x) : Res C fn env A (.tuple #[v, x]) := fun a w he _ => by
  rw [results_tmp2 h, he.getD hv, he.getD hx]
end
end Go.Lx
