/- Own layer, part k: what a call is handed is opened to values, through structs and slices within slices. Plain theorems. -/
import Derived.Test.YtkjhepgohacmiaaGreatXg
import Derived.Test.YtkjhepgohacmiaaGreatXi
namespace Go.Lx
open Go.ChangeShapes Go.WideShapes Go.Deep Go.RowKit
set_option linter.unusedVariables false
set_option linter.unusedSimpArgs false

/-- What is read of a type's cells is an element's, and what memory shows of it. -/
def OpensW (P : Program) (t : TypeId) (sz : Nat) {α : Type} (f : α → List Value) (G : World → α → Prop) : Prop :=
  (∀ a, (f a).length = sz) ∧ P.cellsOf t = sz ∧
  ∀ {H : Type} {enc : TypeId × Value → H} {w : World} {base : Nat} {spare : Nat → Bool} {held : Bool} {fuel : Nat} {cs : List Value} {x : DataW H × List MemPlace}, DataW.trod enc P w base spare held fuel t cs = some x → ∃ a : α, cs = f a ∧ G w a

theorem opensW_int {P : Program} {t : TypeId} {k : IntKind} (h : P.underlying t = some (.int k)) (hc : P.cellsOf t = 1) : OpensW P t 1 (fun n : Int => [Value.int k n]) (fun _ n => (Lit.int k n).wf = true) :=
  ⟨fun _ => rfl, hc, fun hx => by
    obtain ⟨n, h1, _, h2⟩ := DataW.trod_int h hx
    exact ⟨n, h1, h2⟩⟩
theorem opensW_bool {P : Program} {t : TypeId} (h : P.underlying t = some .bool) (hc : P.cellsOf t = 1) : OpensW P t 1 (fun b : Bool => [Value.bool b]) (fun _ _ => True) :=
  ⟨fun _ => rfl, hc, fun hx => by
    obtain ⟨b, h1, _⟩ := DataW.trod_bool h hx
    exact ⟨b, h1, trivial⟩⟩
theorem opensW_string {P : Program} {t : TypeId} (h : P.underlying t = some .string) (hc : P.cellsOf t = 1) : OpensW P t 1 (fun s : ByteArray => [Value.string s]) (fun _ s => s.size ≤ maxLen) :=
  ⟨fun _ => rfl, hc, fun hx => by
    obtain ⟨s, h1, _, h2⟩ := DataW.trod_string h hx
    exact ⟨s, h1, h2⟩⟩
theorem OpensW.map {P : Program} {t : TypeId} {sz : Nat} {α β : Type} {f : α → List Value} {G : World → α → Prop} (h : OpensW P t sz f G) (e : α → β) (f' : β → List Value) (G' : World → β → Prop) (hs : ∀ b, (f' b).length = sz) (hf : ∀ w a, G w a → f a = f' (e a)) (hG : ∀ w a, G w a → G' w (e a)) : OpensW P t sz f' G' :=
  ⟨hs, h.2.1, fun hx => by
    obtain ⟨a, h1, h2⟩ := h.2.2 hx
    exact ⟨e a, h1.trans (hf _ a h2), hG _ _ h2⟩⟩

/-- Fields, from a place on. -/
def OpF (P : Program) (fs : List Field) (off sz : Nat) {α : Type} (f : α → List Value) (G : World → α → Prop) : Prop :=
  (∀ a, (f a).length = sz) ∧
  ∀ {H : Type} {enc : TypeId × Value → H} {w : World} {base : Nat} {spare : Nat → Bool} {held : Bool} {n : Nat} {cs : List Value}, cs.length = off + sz → (∀ (i : Nat) (fd : Field), fs[i]? = some fd → ∃ y, DataW.trod enc P w base spare held n fd.type ((cs.drop fd.offset).take (P.cellsOf fd.type)) = some y) → ∃ a : α, cs.drop off = f a ∧ G w a
theorem OpF.nil {P : Program} {off : Nat} : OpF P [] off 0 (fun _ : Unit => []) (fun _ _ => True) :=
  ⟨fun _ => rfl, fun hl _ => ⟨(), List.drop_of_length_le (by omega), trivial⟩⟩
theorem OpF.cons {P : Program} {fd : Field} {fs : List Field} {off s0 s1 : Nat} {α β : Type} {f : α → List Value} {g : β → List Value} {G : World → α → Prop} {K : World → β → Prop} (ho : fd.offset = off) (h0 : OpensW P fd.type s0 f G) (h1 : OpF P fs (off + s0) s1 g K) :
    OpF P (fd :: fs) off (s0 + s1) (fun x : α × β => f x.1 ++ g x.2) (fun w x => G w x.1 ∧ K w x.2) :=
  ⟨fun x => by simp [h0.1, h1.1], fun {H enc w base spare held n cs} hl hall => by
    obtain ⟨y, hy⟩ := hall 0 fd rfl
    rw [ho, h0.2.1] at hy
    obtain ⟨a, ha, hG⟩ := h0.2.2 hy
    obtain ⟨b, hb, hK⟩ := h1.2 (H := H) (enc := enc) (w := w) (base := base) (spare := spare) (held := held) (n := n) (cs := cs) (by omega) (fun i fd' hi => hall (i + 1) fd' (by simpa using hi))
    refine ⟨(a, b), ?_, hG, hK⟩
    dsimp only
    rw [← ha, ← hb, ← List.drop_drop, List.take_append_drop]⟩
theorem opensW_struct {P : Program} {t : TypeId} {fs : Array Field} {sz : Nat} {α : Type} {f : α → List Value} {G : World → α → Prop} (hs : P.underlying t = some (.struct fs)) (hc : P.cellsOf t = sz) (hf : OpF P fs.toList 0 sz f G) : OpensW P t sz f G :=
  ⟨hf.1, hc, fun {H enc w base spare held fuel cs x} hx => by
    obtain ⟨xs, n, _, _, hl, hlen, hall⟩ := DataW.trod_struct hs hx
    obtain ⟨a, ha, hG⟩ := hf.2 (H := H) (enc := enc) (w := w) (base := base) (spare := spare) (held := held) (n := n) (cs := cs) (by rw [hl, hc]; omega) (fun i fd hi => by
      have hi' : fs[i]? = some fd := by simpa using hi
      have hlt : i < xs.length := by rw [hlen]; exact (Array.getElem?_eq_some_iff.1 hi').1
      exact ⟨xs[i], by rw [hall i fd hi', List.getElem?_eq_getElem hlt]⟩)
    exact ⟨a, by simpa using ha, hG⟩⟩
/-- A slice, and what it holds. -/
structure SlV (α : Type) where
  a : Option Addr
  n : Nat
  c : Nat
  l : List α
theorem opensW_slice {P : Program} {t e sz : Nat} {α : Type} {f : α → List Value} {G : World → α → Prop} (ht : P.underlying t = some (.slice e)) (hc : P.cellsOf t = 1) (h0 : 0 < sz) (hO : OpensW P e sz f G) :
    OpensW P t 1 (fun s : SlV α => [.slice s.a s.n s.c]) (fun w s => s.l.length = s.n ∧ Rd w sz s.a s.n s.c (s.l.flatMap f) ∧ ∀ x ∈ s.l, G w x) :=
  ⟨fun _ => rfl, hc, fun {H enc w base spare held fuel cs x} hx => by
    rcases open_slice ht hx with ⟨hcs, _⟩ | ⟨a', len, cap, m, n', D, Pl, hcs, _, hl, hm, hmm, _, hi⟩
    · exact ⟨⟨none, 0, 0, []⟩, hcs, rfl, Rd.nil w _, fun _ h => (by cases h)⟩
    · have hle : len ≤ m := by rw [hmm]; split <;> omega
      obtain ⟨l, hll, hp⟩ := exists_list (fun i (x : α) => G w x ∧ ∀ j u, (f x)[j]? = some u → w.cell? (a'.add (i * P.cellsOf e + j)) = some u) len (fun i hin => by
        obtain ⟨cs', hcells, htr⟩ := hi i (by omega)
        obtain ⟨x, rfl, hG⟩ := hO.2.2 htr
        obtain ⟨_, _, hcell⟩ := World.cells?_some hcells
        refine ⟨x, hG, fun j u hu => ?_⟩
        have hj : j < P.cellsOf e := by rw [hO.2.1, ← hO.1 x]; exact (List.getElem?_eq_some_iff.1 hu).1
        rw [← Go.Deep.add_add, hcell j hj, hu])
      rw [hO.2.1] at hp
      exact ⟨⟨some a', len, cap, l⟩, hcs, hll, Rd.ofCells hO.1 h0 l hll hl hm (fun i x hx => (hp i x hx).2), fun x hx => by
        obtain ⟨i, hi'⟩ := List.mem_iff_getElem?.1 hx
        exact (hp i x hi').1⟩⟩
/-- An array of two. -/
theorem opensW_arr2 {P : Program} {t e sz s2 : Nat} {α : Type} {f : α → List Value} {G : World → α → Prop} (hs : P.underlying t = some (.array 2 e)) (hc : P.cellsOf t = s2) (h2 : s2 = sz + sz) (hO : OpensW P e sz f G) : OpensW P t s2 (fun x : α × α => f x.1 ++ f x.2) (fun w x => G w x.1 ∧ G w x.2) :=
  ⟨fun x => by simp [hO.1, h2], hc, fun {H enc w base spare held fuel cs x} hx => by
    obtain ⟨xs, n, _, _, hl, hn, hf⟩ := DataW.trod_array hs hx
    rw [hO.2.1] at hf
    have g0 : 0 < xs.length := by omega
    have g1 : 1 < xs.length := by omega
    have e0 := hf 0 (by omega)
    have e1 := hf 1 (by omega)
    rw [List.getElem?_eq_getElem g0] at e0
    rw [List.getElem?_eq_getElem g1] at e1
    obtain ⟨a, ha, hG⟩ := hO.2.2 e0
    obtain ⟨b, hb, hK⟩ := hO.2.2 e1
    refine ⟨(a, b), ?_, hG, hK⟩
    dsimp only
    rw [← ha, ← hb]
    simp only [Nat.zero_mul, List.drop_zero, Nat.one_mul]
    rw [hc] at hl
    rw [List.take_of_length_le (l := cs.drop sz) (by simp; omega), List.take_append_drop]⟩

/-- A value that is handed in, opened: its cells. -/
theorem openW {H : Type} {enc : TypeId × Value → H} {P : Program} {w : World} {base : Nat} {spare : Nat → Bool} {held : Bool} {t sz : Nat} {α : Type} {f : α → List Value} {G : World → α → Prop} (hO : OpensW P t sz f G) {v : Value} {d : DataW H} {ps : List MemPlace} (h : DataW.Trod enc P w base spare held t v d ps) : ∃ x : α, v.cells.toList = f x ∧ G w x := by
  obtain ⟨fuel, hx⟩ := h
  exact hO.2.2 hx
theorem openW_slice {H : Type} {enc : TypeId × Value → H} {P : Program} {w : World} {base : Nat} {spare : Nat → Bool} {held : Bool} {t e sz : Nat} {α : Type} {f : α → List Value} {G : World → α → Prop} (ht : P.underlying t = some (.slice e)) (hc : P.cellsOf t = 1) (h0 : 0 < sz) (hO : OpensW P e sz f G)
    {a : Option Addr} {n c : Nat} {d : DataW H} {ps : List MemPlace} (h : DataW.Trod enc P w base spare held t (.slice a n c) d ps) : ∃ l : List α, l.length = n ∧ Rd w sz a n c (l.flatMap f) ∧ ∀ x ∈ l, G w x := by
  obtain ⟨s, hs, h1, h2, h3⟩ := openW (opensW_slice ht hc h0 hO) h
  simp [Value.cells] at hs
  obtain ⟨rfl, rfl, rfl⟩ := hs
  exact ⟨s.l, h1, h2, h3⟩
theorem openW_agg {H : Type} {enc : TypeId × Value → H} {P : Program} {w : World} {base : Nat} {spare : Nat → Bool} {held : Bool} {t sz : Nat} {α : Type} {f : α → List Value} {G : World → α → Prop} (hO : OpensW P t sz f G) {v : Value} (hv : ∃ cs, v = .agg cs) {d : DataW H} {ps : List MemPlace} (h : DataW.Trod enc P w base spare held t v d ps) : ∃ x : α, v = .agg (f x).toArray ∧ G w x := by
  obtain ⟨cs, rfl⟩ := hv
  obtain ⟨x, h1, h2⟩ := openW hO h
  refine ⟨x, ?_, h2⟩
  rw [← h1]
  simp [Value.cells]
/-- A text that is handed in. -/
theorem open_string {H : Type} {enc : TypeId × Value → H} {P : Program} {w : World} {base : Nat} {spare : Nat → Bool} {held : Bool} {r : Reach} {b0 : Nat} {t : TypeId} {v : Value} {d : DataW H} {ps : List MemPlace} (ht : P.underlying t = some .string) (hval : Value.okWide P w r b0 t v) (hd : DataW.Trod enc P w base spare held t v d ps) :
    ∃ s : List UInt8, v = .string ⟨s.toArray⟩ ∧ d = .lit (.string s) ∧ ps = [] ∧ i64 s.length := by
  obtain ⟨s, rfl⟩ := okWide_string ht hval
  obtain ⟨fuel, hf⟩ := hd
  obtain ⟨s', h, hx, hw⟩ := DataW.trod_string ht hf
  simp [Value.cells] at h
  subst h
  simp only [Prod.mk.injEq] at hx
  refine ⟨s.data.toList, by simp, hx.1, hx.2, ?_⟩
  have : s.data.toList.length = s.size := Array.length_toList
  unfold maxLen at hw
  unfold i64
  omega
end Go.Lx
