/- Own layer, part g: what a call is handed is opened to values, and a walk that only makes memory closes a row. Plain theorems. -/
import Derived.Test.YtkjhepgohacmiaaGreatXf
import Derived.WalkKit
import Derived.ProofKit
import Derived.OpenShut
import Derived.ShutString
import Derived.ChangeOld
import Derived.Below
import Derived.Carry
import Derived.SizedLaws
import Derived.Deep.Slices
import Derived.Deep.Fields
import Derived.ChangeSame
namespace Go.Lx
open Go.ChangeShapes Go.WideShapes Go.Deep Go.RowKit
set_option linter.unusedVariables false
set_option linter.unusedSimpArgs false

/-- What is read of a type's cells is an element's. -/
def Opens (P : Program) (t : TypeId) {α : Type} (f : α → List Value) (G : α → Prop) : Prop :=
  ∀ {H : Type} {enc : TypeId × Value → H} {w : World} {base : Nat} {spare : Nat → Bool} {held : Bool} {fuel : Nat} {cs : List Value} {x : DataW H × List MemPlace}, DataW.trod enc P w base spare held fuel t cs = some x → ∃ a : α, cs = f a ∧ G a

def i64 (n : Int) : Prop := -9223372036854775808 ≤ n ∧ n ≤ 9223372036854775807
theorem opens_i64 {P : Program} {t : TypeId} (h : P.underlying t = some (.int .i64)) : Opens P t (fun n : Int => [Value.int .i64 n]) i64 := by
  intro H enc w base spare held fuel cs x hx
  obtain ⟨n, h1, _, h2⟩ := DataW.trod_int h hx
  refine ⟨n, h1, ?_⟩
  have h3 : IntKind.i64.min = -9223372036854775808 := by decide
  have h4 : IntKind.i64.max = 9223372036854775807 := by decide
  simp only [Lit.wf, Bool.and_eq_true, decide_eq_true_eq, h3, h4] at h2
  exact h2
theorem wf_i64' {n : Int} (h2 : (Lit.int .i64 n).wf = true) : i64 n := by
  have h3 : IntKind.i64.min = -9223372036854775808 := by decide
  have h4 : IntKind.i64.max = 9223372036854775807 := by decide
  simp only [Lit.wf, Bool.and_eq_true, decide_eq_true_eq, h3, h4] at h2
  exact h2
theorem opens_struct2 {P : Program} {t : TypeId} {f0 f1 : Field} {α β : Type} {g : α → Value} {h : β → Value} {G : α → Prop} {K : β → Prop} (hs : P.underlying t = some (.struct #[f0, f1])) (hc : P.cellsOf t = 2) (hk : f0.offset = 0 ∧ P.cellsOf f0.type = 1 ∧ f1.offset = 1 ∧ P.cellsOf f1.type = 1)
    (h0 : Opens P f0.type (fun a => [g a]) G) (h1 : Opens P f1.type (fun b => [h b]) K) : Opens P t (fun x : α × β => [g x.1, h x.2]) (fun x => G x.1 ∧ K x.2) := by
  intro H enc w base spare held fuel cs x hx
  obtain ⟨y0, y1, n, _, hl, e0, e1⟩ := trod_struct2 hs hx
  rw [hc] at hl
  obtain ⟨k0, k1, k2, k3⟩ := hk
  match cs, hl with
  | [c0, c1], _ =>
    rw [k0, k1] at e0
    rw [k2, k3] at e1
    obtain ⟨a, ha, hG⟩ := h0 e0
    obtain ⟨b, hb, hK⟩ := h1 e1
    simp at ha hb
    subst ha hb
    exact ⟨(a, b), rfl, hG, hK⟩

theorem opens_arr2 {P : Program} {t e : TypeId} {α : Type} {g : α → Value} {G : α → Prop} (hs : P.underlying t = some (.array 2 e)) (hc : P.cellsOf t = 2) (he : P.cellsOf e = 1) (h0 : Opens P e (fun a => [g a]) G) : Opens P t (fun x : α × α => [g x.1, g x.2]) (fun x => G x.1 ∧ G x.2) := by
  intro H enc w base spare held fuel cs x hx
  obtain ⟨xs, n, _, _, hl, hn, hf⟩ := DataW.trod_array hs hx
  rw [hc] at hl
  match cs, hl, xs, hn with
  | [c0, c1], _, [y0, y1], _ =>
    have e0 := hf 0 (by omega)
    have e1 := hf 1 (by omega)
    rw [he] at e0 e1
    obtain ⟨a, ha, hG⟩ := h0 e0
    obtain ⟨b, hb, hK⟩ := h0 e1
    simp at ha hb
    subst ha hb
    exact ⟨(a, b), rfl, hG, hK⟩

/-- A struct or an array by value. -/
theorem open_val {H : Type} {enc : TypeId × Value → H} {P : Program} {w : World} {base : Nat} {spare : Nat → Bool} {held : Bool} {t : TypeId} {α : Type} {f : α → List Value} {G : α → Prop} (hO : Opens P t f G) {v : Value} (hv : ∃ cs, v = .agg cs) {d : DataW H} {ps : List MemPlace} (h : DataW.Trod enc P w base spare held t v d ps) : ∃ x : α, v = .agg (f x).toArray ∧ G x := by
  obtain ⟨cs, rfl⟩ := hv
  obtain ⟨fuel, hx⟩ := h
  obtain ⟨x, h1, h2⟩ := hO hx
  refine ⟨x, ?_, h2⟩
  rw [← h1]
  simp [Value.cells]
theorem okWide_arr {P : Program} {w : World} {r : Reach} {base : Nat} {t e : TypeId} {n : Nat} {v : Value} (ht : P.underlying t = some (.array n e)) (h : Value.okWide P w r base t v) : ∃ cs, v = .agg cs := by
  simp only [Value.okWide, ht] at h
  obtain ⟨cs, h1, _⟩ := h
  exact ⟨cs, h1⟩

theorem exists_list {α : Type} (p : Nat → α → Prop) : ∀ (n : Nat), (∀ i, i < n → ∃ x, p i x) → ∃ l : List α, l.length = n ∧ ∀ i x, l[i]? = some x → p i x
  | 0, _ => ⟨[], rfl, fun _ _ h => (by cases h)⟩
  | n + 1, h => by
    obtain ⟨l, hl, hp⟩ := exists_list p n (fun i hi => h i (by omega))
    obtain ⟨x, hx⟩ := h n (by omega)
    refine ⟨l ++ [x], by simp [hl], fun i y hy => ?_⟩
    by_cases hi : i < l.length
    · rw [List.getElem?_append_left hi] at hy
      exact hp i y hy
    · have := (List.getElem?_eq_some_iff.1 hy).1
      simp at this
      obtain rfl : i = l.length := by omega
      simp at hy
      subst hy
      rw [hl]
      exact hx

theorem Rd.ofCells {w : World} {a : Addr} {n c sz : Nat} {α : Type} {f : α → List Value} (hf : ∀ x, (f x).length = sz) (hsz : 0 < sz) (l : List α) (hl : l.length = n) (hc : n ≤ c) (hm : c ≤ maxLen) (h : ∀ i x, l[i]? = some x → ∀ j u, (f x)[j]? = some u → w.cell? (a.add (i * sz + j)) = some u) : Rd w sz (some a) n c (l.flatMap f) := by
  refine ⟨by rw [flat_len f sz hf, hl], hc, hm, fun _ => rfl, fun t v ht => ?_⟩
  have htl : t < l.length * sz := by rw [← flat_len f sz hf]; exact (List.getElem?_eq_some_iff.1 ht).1
  have h1 : t / sz < l.length := by rw [Nat.div_lt_iff_lt_mul hsz]; exact htl
  have h2 : t % sz < sz := Nat.mod_lt _ hsz
  have h3 := flat_get f sz hf l (t / sz) (t % sz) l[t / sz] (List.getElem?_eq_getElem h1) h2
  have e : t / sz * sz + t % sz = t := by rw [Nat.mul_comm]; exact Nat.div_add_mod t sz
  rw [e] at h3
  rw [h3] at ht
  have := h (t / sz) l[t / sz] (List.getElem?_eq_getElem h1) (t % sz) v ht
  rw [e] at this
  exact this

/-- A slice that a call is handed. -/
theorem open_list {H : Type} {enc : TypeId × Value → H} {P : Program} {w : World} {base : Nat} {spare : Nat → Bool} {held : Bool} {t e sz : TypeId} {α : Type} {f : α → List Value} {G : α → Prop} (ht : P.underlying t = some (.slice e)) (hsz : P.cellsOf e = sz) (h0 : 0 < sz) (hf : ∀ x, (f x).length = sz) (hO : Opens P e f G)
    {a : Option Addr} {n c : Nat} {d : DataW H} {ps : List MemPlace} (h : DataW.Trod enc P w base spare held t (.slice a n c) d ps) : ∃ l : List α, l.length = n ∧ Rd w sz a n c (l.flatMap f) ∧ ∀ x ∈ l, G x := by
  subst hsz
  obtain ⟨fuel, hx⟩ := h
  rcases open_slice ht hx with ⟨hcs, _⟩ | ⟨a', len, cap, m, n', D, Pl, hcs, _, hl, hm, hmm, _, hi⟩
  · simp [Value.cells] at hcs
    obtain ⟨rfl, rfl, rfl⟩ := hcs
    exact ⟨[], rfl, Rd.nil w _, fun _ h => (by cases h)⟩
  · simp [Value.cells] at hcs
    obtain ⟨rfl, rfl, rfl⟩ := hcs
    have hle : n ≤ m := by rw [hmm]; split <;> omega
    obtain ⟨l, hll, hp⟩ := exists_list (fun i (x : α) => G x ∧ ∀ j u, (f x)[j]? = some u → w.cell? (a'.add (i * P.cellsOf e + j)) = some u) n (fun i hin => by
      obtain ⟨cs', hcells, htr⟩ := hi i (by omega)
      obtain ⟨x, rfl, hG⟩ := hO htr
      obtain ⟨_, _, hcell⟩ := World.cells?_some hcells
      refine ⟨x, hG, fun j u hu => ?_⟩
      have hj : j < P.cellsOf e := by rw [← hf x]; exact (List.getElem?_eq_some_iff.1 hu).1
      rw [← Go.Deep.add_add, hcell j hj, hu])
    refine ⟨l, hll, Rd.ofCells hf h0 l hll hl hm (fun i x hx => (hp i x hx).2), fun x hx => ?_⟩
    obtain ⟨i, hi'⟩ := List.mem_iff_getElem?.1 hx
    exact (hp i x hi').1

/-- It is no longer than its weight allows. -/
theorem sized_len {H : Type} {enc : TypeId × Value → H} {P : Program} {w : World} {base : Nat} {spare : Nat → Bool} {held : Bool} {t e B : Nat} {a : Option Addr} {n c : Nat} {d : DataW H} {ps : List MemPlace} {ts : List TypeId} {ds : List (DataW H)} {j : Nat} (hsz : (DataW.weightsEach P ts ds).all (· ≤ reachBytes) = true) (hts : ts[j]? = some t) (hd : ds[j]? = some d)
    (ht : P.underlying t = some (.slice e)) (hB : P.bytesOf e = B) (h : DataW.Trod enc P w base spare held t (.slice a n c) d ps) : n * B ≤ 140737488351232 := by
  obtain ⟨fuel, hx⟩ := h
  rcases open_slice ht hx with ⟨hcs, _⟩ | ⟨a', len, cap, m, n', D, Pl, hcs, _, hl, hm, hmm, hxe, hi⟩
  · simp [Value.cells] at hcs
    obtain ⟨rfl, rfl, rfl⟩ := hcs
    simp
  · simp [Value.cells] at hcs
    obtain ⟨rfl, rfl, rfl⟩ := hcs
    obtain ⟨hx1, _⟩ := Prod.mk.inj hxe
    subst hx1
    have z := sized_slice hsz hts hd ht
    rw [hB] at z
    simp only [List.length_map, List.length_range] at z
    exact Nat.le_trans (Nat.mul_le_mul_right _ (Nat.le_add_right _ _)) z

/-- An array's element's address. -/
theorem D.indexArr {C : Cx} {env : Env} {W : World → Prop} {x y : Operand} {ty t : TypeId} {pos : String} {af : Array Edge} {gd : Option (Nat × Bool)} {ds : Option Tmp} {g o n e sz : Nat} {k : IntKind} {j : Int} (m : Nat) [h : ArrT C.P t n e] [hs : Sz C.P e sz] (hx : ev env x = some (.pointer (some ⟨g, o, none⟩))) (hy : ev env y = some (.int k j)) (hj : j = (m : Int)) (hm : m < n) :
    Det C W env ⟨ds, .indexAddr t x y, ty, pos, af, gd⟩ (.pointer (some ⟨g, o + m * sz, none⟩)) := ⟨fun a w he _ => by
  subst hj
  have h1 : (m : Int) < ((n : Nat) : Int) := by omega
  rw [← at_add]
  simp [execOp, he.ev hx, he.ev hy, Instr.indexAt, asIntOf, run_underlying h.und, hs.run, hm, Instr.sureAddr]⟩

/-- A row of one's own may be read. -/
theorem Conf.rd {C : Cx} {A : List Assn} {w : World} {a : Option Addr} {n c sz i : Nat} {T : TypeId} {xs : List Value} [h : OwnA A a n c T sz xs i] (hw : Conf C A w) : Rd w sz a n c xs := hw.ownRd h.at_

/-- A walk that was given nothing leaves what was there. -/
theorem Conf.below {P : Program} {w w' : World} {A : List Assn} (h : Conf ⟨P, 0, w, fun _ => False⟩ A w') : RowKit.Below w.heap.size w w' :=
  ⟨h.os, h.tape, h.output, h.size, fun b hb => h.keep b hb (fun h => h)⟩
theorem Spec.says {P : Program} {f : FuncId} {args : Array Value} {w : World} {u : Value} (h : Spec P f args w (fun _ => False) (fun v A => v = u ∧ A = [])) : Calls P f args w (fun e w' => e = .returned u ∧ RowKit.Below w.heap.size w w') :=
  Calls.mono h (by rintro e w' ⟨v, A, rfl, ⟨rfl, rfl⟩, hc⟩; exact ⟨rfl, hc.below⟩)
end Go.Lx
