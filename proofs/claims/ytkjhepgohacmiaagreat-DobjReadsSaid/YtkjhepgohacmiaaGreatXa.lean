/- Own layer, part a: a region that draws its order may be run in one order that is told ('Sched'), where what floats only reads. Plain theorems over the kit's own Code.wp; no program in it. -/
import Derived.Orders
import Derived.OrdersHeld
import Derived.WalkKit
namespace Go.Lx

section
variable {P : Program} {ops : Array Oper} {Q : Exit → Act → World → Prop} {md : Region.Mode} {S : World → Prop}

/-- j waits for i, over some steps. -/
def waits (md : Region.Mode) (ops : Array Oper) : Nat → Nat → Nat → Bool
  | 0, _, _ => false
  | n + 1, j, i => match ops[j]? with
    | none => false
    | some o => o.after.toList.any fun e => Region.binds md e && (e.on == i || waits md ops n e.on i)

def Closed (md : Region.Mode) (ops : Array Oper) (l : Array Bool) : Prop :=
  ∀ (j : Nat) (o : Oper), l.getD j false = true → ops[j]? = some o → ∀ e ∈ o.after, Region.binds md e = true → l.getD e.on false = true

theorem closed_init (n : Nat) : Closed md ops (Array.replicate n false) := by
  intro j o h
  exfalso
  rcases Nat.lt_or_ge j n with hj | hj
  · simp [hj] at h
  · simp [hj] at h

theorem getD_set_self {l : Array Bool} {j : Nat} (hj : j < l.size) : (l.setIfInBounds j true).getD j false = true := by
  simp [Array.getD, hj]

theorem Closed.set {l : Array Bool} {j : Nat} (h : Closed md ops l) (hj : j ∈ Region.ready md ops l) : Closed md ops (l.setIfInBounds j true) := by
  obtain ⟨_, oj, hoj, hall⟩ := mem_ready.1 hj
  intro k o hk hok e he hb
  apply getD_set_true
  by_cases hkj : k = j
  · subst hkj
    rw [hoj] at hok
    cases hok
    exact hall e he hb
  · rw [getD_set_ne false (Ne.symm hkj)] at hk
    exact h k o hk hok e he hb

theorem waits_listed {l : Array Bool} (hc : Closed md ops l) : ∀ (n j i : Nat), waits md ops n j i = true → (∀ o, ops[j]? = some o → ∀ e ∈ o.after, Region.binds md e = true → l.getD e.on false = true) → l.getD i false = true
  | 0, _, _, h, _ => by simp [waits] at h
  | n + 1, j, i, h, hall => by
    unfold waits at h
    split at h
    · cases h
    · rename_i o ho
      obtain ⟨e, he, hb⟩ := List.any_eq_true.1 h
      simp only [Bool.and_eq_true, Bool.or_eq_true, beq_iff_eq] at hb
      have hl := hall o ho e (Array.mem_toList_iff.1 he) hb.1
      rcases hb.2 with rfl | hw
      · exact hl
      · exact waits_listed hc n e.on i hw (fun o' ho' e' he' hb' => hc e.on o' hl ho' e' he' hb')

theorem waits_ready {l : Array Bool} (hc : Closed md ops l) {n j i : Nat} (hw : waits md ops n j i = true) (hj : j ∈ Region.ready md ops l) : l.getD i false = true := by
  obtain ⟨_, oj, hoj, hall⟩ := mem_ready.1 hj
  refine waits_listed hc n j i hw (fun o ho e he hb => ?_)
  rw [hoj] at ho
  cases ho
  exact hall e he hb

def finDone (fins : List Nat) (l : Array Bool) : Bool := fins.any fun f => l.getD f false

theorem finDone_set_ne {fins : List Nat} {l : Array Bool} {i : Nat} (h : fins.contains i = false) : finDone fins (l.setIfInBounds i true) = finDone fins l := by
  unfold finDone
  induction fins with
  | nil => rfl
  | cons f fs ih =>
    simp only [List.contains_cons, Bool.or_eq_false_iff, beq_eq_false_iff_ne] at h
    simp only [List.any_cons]
    rw [ih h.2, getD_set_ne false h.1]

/-- 'wpAnyH', where behind an operation of 'fins' nothing is asked of the world. -/
def wpAnyF (P : Program) (md : Region.Mode) (ops : Array Oper) (Q : Exit → Act → World → Prop) (S : World → Prop) (fins : List Nat) : Nat → Array Bool → Act → World → Prop
  | 0, listed, a, w => Region.ready md ops listed = [] ∧ Q .normal a w
  | fuel + 1, listed, a, w =>
    (Region.ready md ops listed = [] → Q .normal a w) ∧
    ∀ i ∈ Region.ready md ops listed, wpOp P ops Q i (fun a' w' => (finDone fins (listed.setIfInBounds i true) = true ∨ S w') ∧ wpAnyF P md ops Q S fins fuel (listed.setIfInBounds i true) a' w') a w

theorem wpAny_of_F {fins : List Nat} : ∀ (fuel : Nat) (listed : Array Bool) (a : Act) (w : World), wpAnyF P md ops Q S fins fuel listed a w → wpAny P md ops Q fuel listed a w
  | 0, _, _, _, h => h
  | fuel + 1, _, _, _, h => ⟨h.1, fun i hi => wpOp_mono (fun a' w' h' => wpAny_of_F fuel _ a' w' h'.2) (h.2 i hi)⟩

theorem getD_of_ready {l : Array Bool} {i : Nat} (h : i ∈ Region.ready md ops l) : l.getD i false = false := by
  have h0 := (mem_ready.1 h).1
  rcases Nat.lt_or_ge i l.size with h' | h'
  · simp [h'] at h0; simp [h', h0]
  · simp [h']

theorem not_after {l : Array Bool} {i : Nat} {oj : Oper} (hr : i ∈ Region.ready md ops l) (hall : ∀ e ∈ oj.after, Region.binds md e = true → l.getD e.on false = true) : ∀ e ∈ oj.after, Region.binds md e = true → e.on ≠ i := fun e he hb heq => by
  have h1 := hall e he hb
  rw [heq, getD_of_ready hr] at h1
  cases h1

/-- What yields in every world that meets S is taken first, while no operation of 'fins' has come up, and all of these wait for it. -/
theorem wpAnyF_first1 {fins : List Nat} {i : Nat} {oi : Oper} {v : Value} (hi : ops[i]? = some oi) (hsel : ∀ (j : Nat) (o : Oper) cs b, ops[j]? = some o → o.op ≠ .select cs b)
    (hQ : ∀ c a w, Q (.panic c) (a.put oi.dst v) w → Q (.panic c) a w) (hin : fins.contains i = false) (hfin : ∀ j, fins.contains j = true → waits md ops ops.size j i = true) :
    ∀ (fuel : Nat) (listed : Array Bool) (a : Act) (w : World), Closed md ops listed → finDone fins listed = false →
      (∀ j oj, ops[j]? = some oj → j ≠ i → listed.getD j true = false → (∀ e ∈ oj.after, Region.binds md e = true → e.on ≠ i) → oi.apart ops oj = true) →
      i ∈ Region.ready md ops listed → YieldsIf P ops S oi v a → S w →
      wpAnyF P md ops Q S fins fuel (listed.setIfInBounds i true) (a.put oi.dst v) w → wpAnyF P md ops Q S fins (fuel + 1) listed a w := by
  intro fuel
  induction fuel with
  | zero =>
    intro listed a w _ _ _ hr hy hS H
    refine ⟨fun h => (by rw [h] at hr; cases hr), fun j hj => ?_⟩
    by_cases hji : j = i
    · subst hji; exact hy.wpOp hi hS ⟨.inr hS, H⟩
    · have := ready_mono hj hji
      rw [H.1] at this
      cases this
  | succ fuel ih =>
    intro listed a w hcl hfd hfree hr hy hS H
    refine ⟨fun h => (by rw [h] at hr; cases hr), fun j hj => ?_⟩
    by_cases hji : j = i
    · subst hji; exact hy.wpOp hi hS ⟨.inr hS, H⟩
    · have h1 := H.2 j (ready_mono hj hji)
      obtain ⟨hjun, oj, hoj, hall⟩ := mem_ready.1 hj
      have hun0 := getD_of_ready hr
      have hnf : fins.contains j = false := by
        cases hf : fins.contains j with
        | false => rfl
        | true =>
          rw [waits_ready hcl (hfin j hf) hj] at hun0
          cases hun0
      have h2 := wpOp_putIf hoj (hfree j oj hoj hji hjun (not_after hr hall)) (fun cs b => hsel i oi cs b hi) (fun cs b => hsel j oj cs b hoj) hQ hy h1
      have hfree' : ∀ k ok, ops[k]? = some ok → k ≠ i → (listed.setIfInBounds j true).getD k true = false →
          (∀ e ∈ ok.after, Region.binds md e = true → e.on ≠ i) → oi.apart ops ok = true := fun k ok hk hki hun hno => by
        refine hfree k ok hk hki ?_ hno
        by_cases hjk : j = k
        · subst hjk; exact hjun
        · rw [getD_set_ne true hjk] at hun; exact hun
      refine wpOp_mono (fun a' w' h3 => ?_) h2
      have hfd' : finDone fins (listed.setIfInBounds j true) = false := by rw [finDone_set_ne hnf]; exact hfd
      have hS' : S w' := by
        rcases h3.2.1 with h | h
        · rw [finDone_set_ne hnf, finDone_set_ne hin, hfd] at h; cases h
        · exact h
      refine ⟨.inr hS', ih (listed.setIfInBounds j true) a' w' (hcl.set hj) hfd' hfree' (ready_mono hr (Ne.symm hji)) h3.1 hS' ?_⟩
      rw [Array.setIfInBounds_comm _ _ hji]
      exact h3.2.2

/-- What yields in whatever world is taken first. -/
theorem wpAnyF_first0 {fins : List Nat} {i : Nat} {oi : Oper} {v : Value} (hi : ops[i]? = some oi) (hsel : ∀ (j : Nat) (o : Oper) cs b, ops[j]? = some o → o.op ≠ .select cs b)
    (hQ : ∀ c a w, Q (.panic c) (a.put oi.dst v) w → Q (.panic c) a w) (hin : fins.contains i = false) :
    ∀ (fuel : Nat) (listed : Array Bool) (a : Act) (w : World), (finDone fins listed = true ∨ S w) →
      (∀ j oj, ops[j]? = some oj → j ≠ i → listed.getD j true = false → (∀ e ∈ oj.after, Region.binds md e = true → e.on ≠ i) → oi.apart ops oj = true) →
      i ∈ Region.ready md ops listed → Yields P ops oi v a →
      wpAnyF P md ops Q S fins fuel (listed.setIfInBounds i true) (a.put oi.dst v) w → wpAnyF P md ops Q S fins (fuel + 1) listed a w := by
  intro fuel
  induction fuel with
  | zero =>
    intro listed a w hS _ hr hy H
    refine ⟨fun h => (by rw [h] at hr; cases hr), fun j hj => ?_⟩
    by_cases hji : j = i
    · subst hji; exact (hy.yieldsIf (S := fun _ => True)).wpOp hi trivial ⟨by rw [finDone_set_ne hin]; exact hS, H⟩
    · have := ready_mono hj hji
      rw [H.1] at this
      cases this
  | succ fuel ih =>
    intro listed a w hS hfree hr hy H
    refine ⟨fun h => (by rw [h] at hr; cases hr), fun j hj => ?_⟩
    by_cases hji : j = i
    · subst hji; exact (hy.yieldsIf (S := fun _ => True)).wpOp hi trivial ⟨by rw [finDone_set_ne hin]; exact hS, H⟩
    · have h1 := H.2 j (ready_mono hj hji)
      obtain ⟨hjun, oj, hoj, hall⟩ := mem_ready.1 hj
      have h2 := wpOp_put hoj (hfree j oj hoj hji hjun (not_after hr hall)) (fun cs b => hsel i oi cs b hi) (fun cs b => hsel j oj cs b hoj) hQ hy h1
      have hfree' : ∀ k ok, ops[k]? = some ok → k ≠ i → (listed.setIfInBounds j true).getD k true = false →
          (∀ e ∈ ok.after, Region.binds md e = true → e.on ≠ i) → oi.apart ops ok = true := fun k ok hk hki hun hno => by
        refine hfree k ok hk hki ?_ hno
        by_cases hjk : j = k
        · subst hjk; exact hjun
        · rw [getD_set_ne true hjk] at hun; exact hun
      refine wpOp_mono (fun a' w' h3 => ?_) h2
      have hS' : finDone fins (listed.setIfInBounds j true) = true ∨ S w' := by
        have := h3.2.1
        rw [Array.setIfInBounds_comm _ _ (Ne.symm hji), finDone_set_ne hin] at this
        exact this
      refine ⟨hS', ih (listed.setIfInBounds j true) a' w' hS' hfree' (ready_mono hr (Ne.symm hji)) h3.1 ?_⟩
      rw [Array.setIfInBounds_comm _ _ hji]
      exact h3.2.2

/-- How an operation is taken: v0: it yields its value in any world; v1: in every world that meets S; ch: behind it S stands; fin: behind it nothing of S is asked. -/
inductive Cl where
  | v0 | v1 | ch | fin
  deriving DecidableEq

/-- The orders that are walked: one behind the other; or, where several operations that change memory may come first, each of them. -/
inductive Sd where
  | nil
  | op (c : Cl) (i : Nat) (r : Sd)
  | br (x y : Sd)

def wpT (P : Program) (ops : Array Oper) (Q : Exit → Act → World → Prop) (S : World → Prop) : Sd → Act → World → Prop
  | .nil, a, w => Q .normal a w
  | .op .v0 i r, a, w => ∃ o v, ops[i]? = some o ∧ Yields P ops o v a ∧ wpT P ops Q S r (a.put o.dst v) w
  | .op .v1 i r, a, w => ∃ o v, ops[i]? = some o ∧ YieldsIf P ops S o v a ∧ wpT P ops Q S r (a.put o.dst v) w
  | .op .ch i r, a, w => wpOp P ops Q i (fun a' w' => S w' ∧ wpT P ops Q S r a' w') a w
  | .op .fin i r, a, w => wpOp P ops Q i (wpT P ops Q S r) a w
  | .br x y, a, w => wpT P ops Q S x a w ∧ wpT P ops Q S y a w

def Sd.heads : Sd → List Nat
  | .op .ch i _ => [i]
  | .br x y => x.heads ++ y.heads
  | _ => []
def Sd.dep : Sd → Nat
  | .nil => 0
  | .op _ _ r => r.dep + 1
  | .br x y => max x.dep y.dep

/-- The orders are all: closed, for the kernel. 'd': whether one of 'fins' has come up; 'b': within a parting. -/
def chk (md : Region.Mode) (ops : Array Oper) (fins : List Nat) : Sd → Bool → Array Bool → Bool → Bool
  | .nil, b, l, _ => !b && (Region.ready md ops l).isEmpty
  | .op .v0 i r, b, l, d => !b && Region.free md ops l i && (Region.ready md ops l).contains i && !fins.contains i && chk md ops fins r false (l.setIfInBounds i true) d
  | .op .v1 i r, b, l, d => !b && !d && Region.free md ops l i && (Region.ready md ops l).contains i && !fins.contains i && fins.all (fun j => waits md ops ops.size j i) && chk md ops fins r false (l.setIfInBounds i true) d
  | .op .ch i r, b, l, d => !d && (b || Region.ready md ops l == [i]) && (Region.ready md ops l).contains i && !fins.contains i && chk md ops fins r false (l.setIfInBounds i true) d
  | .op .fin i r, b, l, _ => !b && (Region.ready md ops l == [i]) && chk md ops fins r false (l.setIfInBounds i true) true
  | .br x y, b, l, d => (b || (Region.ready md ops l).all fun i => (x.heads ++ y.heads).contains i) && chk md ops fins x true l d && chk md ops fins y true l d

theorem finDone_set_of {fins : List Nat} {l : Array Bool} (i : Nat) (h : finDone fins l = true) : finDone fins (l.setIfInBounds i true) = true := by
  unfold finDone at *
  obtain ⟨f, hf, hl⟩ := List.any_eq_true.1 h
  exact List.any_eq_true.2 ⟨f, hf, getD_set_true hl⟩

def finsOf : Sd → List Nat
  | .nil => []
  | .op .fin i r => i :: finsOf r
  | .op _ _ r => finsOf r
  | .br x y => finsOf x ++ finsOf y

theorem wpAnyF_done {fins : List Nat} {l : Array Bool} (hr : Region.ready md ops l = []) : ∀ (n : Nat) {a : Act} {w : World}, Q .normal a w → wpAnyF P md ops Q S fins n l a w
  | 0, _, _, h => ⟨hr, h⟩
  | n + 1, _, _, h => ⟨fun _ => h, fun i hi => by rw [hr] at hi; cases hi⟩

theorem wpT_any (fins : List Nat) (hs : Region.noSelect ops = true) (hQ : ∀ c a a' w, Q (.panic c) a w → Q (.panic c) a' w) (hfl : fins.all (· < ops.size) = true) : ∀ (σ : Sd) (b : Bool) (n : Nat) (l : Array Bool) (d : Bool) (a : Act) (w : World), l.size = ops.size → Closed md ops l →
    chk md ops fins σ b l d = true → (∀ i, i ∈ finsOf σ → fins.contains i = true) → (d = false → finDone fins l = false) → (d = true → finDone fins l = true) → (d = true ∨ S w) → wpT P ops Q S σ a w →
    if b then σ.dep ≤ n + 1 → ∀ i ∈ σ.heads, wpOp P ops Q i (fun a' w' => (finDone fins (l.setIfInBounds i true) = true ∨ S w') ∧ wpAnyF P md ops Q S fins n (l.setIfInBounds i true) a' w') a w
    else σ.dep ≤ n → wpAnyF P md ops Q S fins n l a w
  | .nil, b, n, l, d, a, w, _, _, hc, _, _, _, _, h => by
    simp only [chk, List.isEmpty_iff, Bool.and_eq_true, Bool.not_eq_true'] at hc
    obtain ⟨rfl, hc⟩ := hc
    exact fun _ => wpAnyF_done hc n h
  | .op .v0 i r, b, n, l, d, a, w, hsz, hcl, hc, hf, hd0, hd1, hS, h => by
    simp only [chk, Bool.and_eq_true, Bool.not_eq_true'] at hc
    obtain ⟨⟨⟨⟨rfl, hfr⟩, hrd⟩, hin⟩, hk⟩ := hc
    intro hn
    obtain ⟨o, v, ho, hy, hr⟩ := h
    have hrd' : i ∈ Region.ready md ops l := by simpa using hrd
    cases n with
    | zero => simp [Sd.dep] at hn
    | succ n =>
      refine wpAnyF_first0 ho (Region.noSelect_spec hs) (fun c a w => hQ c _ _ w) hin n l a w ?_ (Region.free_spec ho hfr) hrd' hy ?_
      · rcases hS with h | h
        · exact .inl (hd1 h)
        · exact .inr h
      · refine wpT_any fins hs hQ hfl r false n _ d _ w (by simpa using hsz) (hcl.set hrd') hk (fun i hi => hf i hi) ?_ ?_ hS hr (by simp [Sd.dep] at hn; exact hn)
        · intro e; rw [finDone_set_ne hin]; exact hd0 e
        · intro e; rw [finDone_set_ne hin]; exact hd1 e
  | .op .v1 i r, b, n, l, d, a, w, hsz, hcl, hc, hf, hd0, hd1, hS, h => by
    simp only [chk, Bool.and_eq_true, Bool.not_eq_true'] at hc
    obtain ⟨⟨⟨⟨⟨⟨rfl, hd⟩, hfr⟩, hrd⟩, hin⟩, hw⟩, hk⟩ := hc
    subst hd
    intro hn
    obtain ⟨o, v, ho, hy, hr⟩ := h
    have hrd' : i ∈ Region.ready md ops l := by simpa using hrd
    have hS' : S w := hS.resolve_left (by simp)
    cases n with
    | zero => simp [Sd.dep] at hn
    | succ n =>
      refine wpAnyF_first1 ho (Region.noSelect_spec hs) (fun c a w => hQ c _ _ w) hin ?_ n l a w hcl (hd0 rfl) (Region.free_spec ho hfr) hrd' hy hS' ?_
      · intro j hj
        have := List.all_eq_true.1 hw j (by simpa using hj)
        exact this
      · refine wpT_any fins hs hQ hfl r false n _ false _ w (by simpa using hsz) (hcl.set hrd') hk (fun i hi => hf i hi) ?_ ?_ hS hr (by simp [Sd.dep] at hn; exact hn)
        · intro e; rw [finDone_set_ne hin]; exact hd0 e
        · intro e; cases e
  | .op .ch i r, b, n, l, d, a, w, hsz, hcl, hc, hf, hd0, hd1, hS, h => by
    simp only [chk, Bool.and_eq_true, Bool.not_eq_true', Bool.or_eq_true, beq_iff_eq] at hc
    obtain ⟨⟨⟨⟨hd, hb⟩, hrd⟩, hin⟩, hk⟩ := hc
    subst hd
    have hrd' : i ∈ Region.ready md ops l := by simpa using hrd
    have key : ∀ m, r.dep ≤ m → wpOp P ops Q i (fun a' w' => (finDone fins (l.setIfInBounds i true) = true ∨ S w') ∧ wpAnyF P md ops Q S fins m (l.setIfInBounds i true) a' w') a w := by
      intro m hm
      refine wpOp_mono (fun a' w' h3 => ⟨.inr h3.1, ?_⟩) h
      refine wpT_any fins hs hQ hfl r false m _ false _ w' (by simpa using hsz) (hcl.set hrd') hk (fun i hi => hf i hi) ?_ ?_ (.inr h3.1) h3.2 hm
      · intro e; rw [finDone_set_ne hin]; exact hd0 e
      · intro e; cases e
    cases b with
    | true =>
      simp only [if_true]
      intro hn j hj
      simp only [Sd.heads, List.mem_singleton] at hj
      subst hj
      exact key n (by simp [Sd.dep] at hn; exact hn)
    | false =>
      simp only [Bool.false_eq_true, if_false]
      intro hn
      have hb' : Region.ready md ops l = [i] := hb.resolve_left (by simp)
      cases n with
      | zero => simp [Sd.dep] at hn
      | succ n =>
        refine ⟨fun h0 => (by rw [hb'] at h0; cases h0), fun j hj => ?_⟩
        rw [hb'] at hj
        obtain rfl : j = i := by simpa using hj
        exact key n (by simp [Sd.dep] at hn; exact hn)
  | .op .fin i r, b, n, l, d, a, w, hsz, hcl, hc, hf, hd0, hd1, hS, h => by
    simp only [chk, Bool.and_eq_true, Bool.not_eq_true', beq_iff_eq] at hc
    obtain ⟨⟨rfl, hrd⟩, hk⟩ := hc
    intro hn
    have hrd' : i ∈ Region.ready md ops l := by rw [hrd]; simp
    have hin : fins.contains i = true := hf i (List.mem_cons_self ..)
    have hil : i < l.size := by
      have := List.all_eq_true.1 hfl i (by simpa using hin)
      rw [hsz]; simpa using this
    have hfd : finDone fins (l.setIfInBounds i true) = true := List.any_eq_true.2 ⟨i, by simpa using hin, by simp [hil]⟩
    cases n with
    | zero => simp [Sd.dep] at hn
    | succ n =>
      refine ⟨fun h0 => (by rw [hrd] at h0; cases h0), fun j hj => ?_⟩
      rw [hrd] at hj
      obtain rfl : j = i := by simpa using hj
      refine wpOp_mono (fun a' w' h3 => ⟨.inl hfd, ?_⟩) h
      exact wpT_any fins hs hQ hfl r false n _ true _ w' (by simpa using hsz) (hcl.set hrd') hk (fun i hi => hf i (List.mem_cons_of_mem _ hi)) (by intro e; cases e) (fun _ => hfd) (.inl rfl) h3 (by simp [Sd.dep] at hn; exact hn)
  | .br x y, b, n, l, d, a, w, hsz, hcl, hc, hf, hd0, hd1, hS, h => by
    simp only [chk, Bool.and_eq_true, Bool.or_eq_true] at hc
    obtain ⟨⟨hb, hx⟩, hy⟩ := hc
    have kx := fun m => wpT_any fins hs hQ hfl x true m l d a w hsz hcl hx (fun i hi => hf i (List.mem_append.2 (.inl hi))) hd0 hd1 hS h.1
    have ky := fun m => wpT_any fins hs hQ hfl y true m l d a w hsz hcl hy (fun i hi => hf i (List.mem_append.2 (.inr hi))) hd0 hd1 hS h.2
    simp only [if_true] at kx ky
    have key : ∀ m, (Sd.br x y).dep ≤ m + 1 → ∀ i ∈ (Sd.br x y).heads, wpOp P ops Q i (fun a' w' => (finDone fins (l.setIfInBounds i true) = true ∨ S w') ∧ wpAnyF P md ops Q S fins m (l.setIfInBounds i true) a' w') a w := by
      intro m hm i hi
      simp only [Sd.dep] at hm
      simp only [Sd.heads] at hi
      rcases List.mem_append.1 hi with h1 | h1
      · exact kx m (by omega) i h1
      · exact ky m (by omega) i h1
    cases b with
    | true => simp only [if_true]; exact key n
    | false =>
      simp only [Bool.false_eq_true, if_false]
      intro hn
      have hb' := hb.resolve_left (by simp)
      have dpos : ∀ (z : Sd) (l : Array Bool) (d : Bool), chk md ops fins z true l d = true → 0 < z.dep := by
        intro z
        induction z with
        | nil => intro l d h; simp [chk] at h
        | op c i r _ => intro l d _; simp [Sd.dep]
        | br x y ihx _ =>
          intro l d h
          simp only [chk, Bool.and_eq_true] at h
          have := ihx l d h.1.2
          simp only [Sd.dep]
          omega
      have hpos := dpos x l d hx
      cases n with
      | zero => simp only [Sd.dep] at hn; omega
      | succ n =>
        refine ⟨fun h0 => ?_, fun j hj => ?_⟩
        · exfalso
          have hne : ∀ (z : Sd) (b : Bool), chk md ops fins z true l d = true → Region.ready md ops l = [] → False := by
            intro z
            induction z with
            | nil => intro b h _; simp [chk] at h
            | op c i r _ =>
              intro b h h0
              cases c <;> simp only [chk, h0, Bool.and_eq_true] at h <;> simp at h
            | br x y ihx _ =>
              intro b h h0
              simp only [chk, Bool.and_eq_true] at h
              exact ihx b h.1.2 h0
          exact hne x true hx h0
        · exact key n hn j (by have := List.all_eq_true.1 hb' j hj; simpa [Sd.heads] using this)

/-- All that is closed of an order, in one Bool. -/
def schedOk (ops : Array Oper) (σ : Sd) : Bool :=
  Region.noSelect ops && (finsOf σ).all (· < ops.size) && decide (σ.dep ≤ ops.size) && chk .any ops (finsOf σ) σ false (Array.replicate ops.size false) false

/-- A region that draws its order, run in the told ones. -/
theorem wpOps_draw {a : Act} {w : World} (σ : Sd) (hm : P.follows .mixedOrders = true) (hok : schedOk ops σ = true) (hQ : ∀ c a a' w, Q (.panic c) a w → Q (.panic c) a' w)
    (hS : S w) (h : wpT P ops Q S σ a w) (t : Nat) : wpOps P ops Q (Region.schedule (P.follows .mixedOrders) ops t) a w := by
  simp only [schedOk, Bool.and_eq_true, decide_eq_true_eq] at hok
  obtain ⟨⟨⟨hs, hfl⟩, hlen⟩, hc⟩ := hok
  simp only [Region.schedule, hm, Bool.true_or, if_true]
  refine wpAny_sound ops.size t _ a _ (wpAny_of_F (S := S) (fins := finsOf σ) _ _ _ _ ?_)
  refine wpT_any (finsOf σ) hs hQ hfl σ false _ _ false a _ (by simp) (closed_init _) hc (fun i hi => by simpa using hi) ?_ ?_ (.inr hS) h hlen
  · intro _
    unfold finDone
    rw [List.any_eq_false]
    intro f _
    rcases Nat.lt_or_ge f ops.size with hj | hj
    · simp [hj]
    · simp [hj]
  · intro e; cases e

def Sd.text : Nat → Nat → Sd
  | 0, _ => .nil
  | n + 1, k => .op .fin k (Sd.text n (k + 1))
/-- A region in its own order. -/
theorem wpOps_of_wpT : ∀ (n k : Nat) (a : Act) (w : World), wpT P ops Q (fun _ => True) (Sd.text n k) a w → wpOps P ops Q (List.range' k n) a w
  | 0, _, _, _, h => h
  | n + 1, k, a, w, h => by
    rw [List.range'_succ, wpOps_cons]
    exact wpOp_mono (fun a' w' h' => wpOps_of_wpT n (k + 1) a' w' h') h

theorem wpOps_text {a : Act} {w : World} (h : wpT P ops Q (fun _ => True) (Sd.text ops.size 0) a w) : wpOps P ops Q (List.range ops.size) a w := by
  have := wpOps_of_wpT _ 0 a w h
  rw [← List.range_eq_range'] at this
  exact this
end
end Go.Lx
