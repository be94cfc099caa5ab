/- Texts Xg Xk Xn, merged: a claim has at most 60 files. -/
import Derived.Test.YtakoppmiegjjlaaGreatDoorM1
import Derived.WalkKit
import Derived.ProofKit
import Derived.OpenShut
import Derived.ShutString
import Derived.ChangeOld
import Derived.Below
import Derived.Carry
import Derived.SizedLaws
import Derived.Deep.Slices
import Derived.Deep.Fields
import Derived.ChangeSame
import Derived.Test.YtakoppmiegjjlaaGreatDoorM2
/- Own layer, part g: what a call is handed is opened to values, and a walk that only makes memory closes a row. Plain theorems. -/
namespace Go.Lx
open Go.ChangeShapes Go.WideShapes Go.Deep Go.RowKit
set_option linter.unusedVariables false
set_option linter.unusedSimpArgs false

def i64 (n : Int) : Prop := -9223372036854775808 ≤ n ∧ n ≤ 9223372036854775807
theorem wf_i64' {n : Int} (h2 : (Lit.int .i64 n).wf = true) : i64 n := by
  have h3 : IntKind.i64.min = -9223372036854775808 := by decide
  have h4 : IntKind.i64.max = 9223372036854775807 := by decide
  simp only [Lit.wf, Bool.and_eq_true, decide_eq_true_eq, h3, h4] at h2
  exact h2
/-- A row of one's own may be read. -/
theorem Conf.rd {C : Cx} {A : List Assn} {w : World} {a : Option Addr} {n c sz i : Nat} {T : TypeId} {xs : List Value} [h : OwnA A a n c T sz xs i] (hw : Conf C A w) : Rd w sz a n c xs := hw.ownRd h.at_

/-- A walk that was given nothing leaves what was there. -/
theorem Conf.below {P : Program} {w w' : World} {A : List Assn} (h : Conf ⟨P, 0, w, fun _ => False⟩ A w') : RowKit.Below w.heap.size w w' :=
  ⟨h.os, h.tape, h.output, h.size, fun b hb => h.keep b hb (fun h => h)⟩
theorem Spec.says {P : Program} {f : FuncId} {args : Array Value} {w : World} {u : Value} (h : Spec P f args w (fun _ => False) (fun v A => v = u ∧ A = [])) : Calls P f args w (fun e w' => e = .returned u ∧ RowKit.Below w.heap.size w w') :=
  Calls.mono h (by rintro e w' ⟨v, A, rfl, ⟨rfl, rfl⟩, hc⟩; exact ⟨rfl, hc.below⟩)
end Go.Lx

/- Own layer, part k: what a call is handed is opened to values, through structs and slices within slices. Plain theorems. -/
namespace Go.Lx
open Go.ChangeShapes Go.WideShapes Go.Deep Go.RowKit
set_option linter.unusedVariables false
set_option linter.unusedSimpArgs false

/-- What is read of a type's cells is an element's, and what memory shows of it. -/
def OpensW (P : Program) (t : TypeId) (sz : Nat) {α : Type} (f : α → List Value) (G : World → α → Prop) : Prop :=
  (∀ a, (f a).length = sz) ∧ P.cellsOf t = sz ∧
  ∀ {H : Type} {enc : TypeId × Value → H} {w : World} {base : Nat} {spare : Nat → Bool} {held : Bool} {fuel : Nat} {cs : List Value} {x : DataW H × List MemPlace}, DataW.trod enc P w base spare held fuel t cs = some x → ∃ a : α, cs = f a ∧ G w a

theorem OpensW.map {P : Program} {t : TypeId} {sz : Nat} {α β : Type} {f : α → List Value} {G : World → α → Prop} (h : OpensW P t sz f G) (e : α → β) (f' : β → List Value) (G' : World → β → Prop) (hs : ∀ b, (f' b).length = sz) (hf : ∀ w a, G w a → f a = f' (e a)) (hG : ∀ w a, G w a → G' w (e a)) : OpensW P t sz f' G' :=
  ⟨hs, h.2.1, fun hx => by
    obtain ⟨a, h1, h2⟩ := h.2.2 hx
    exact ⟨e a, h1.trans (hf _ a h2), hG _ _ h2⟩⟩

/-- Fields, from a place on. -/
def OpF (P : Program) (fs : List Field) (off sz : Nat) {α : Type} (f : α → List Value) (G : World → α → Prop) : Prop :=
  (∀ a, (f a).length = sz) ∧
  ∀ {H : Type} {enc : TypeId × Value → H} {w : World} {base : Nat} {spare : Nat → Bool} {held : Bool} {n : Nat} {cs : List Value}, cs.length = off + sz → (∀ (i : Nat) (fd : Field), fs[i]? = some fd → ∃ y, DataW.trod enc P w base spare held n fd.type ((cs.drop fd.offset).take (P.cellsOf fd.type)) = some y) → ∃ a : α, cs.drop off = f a ∧ G w a
theorem OpF.nil {P : Program} {off : Nat} : OpF P [] off 0 (fun _ : Unit => []) (fun _ _ => True) :=
  ⟨fun _ => rfl, fun hl _ => ⟨(), List.drop_of_length_le (by omega), trivial⟩⟩
theorem OpF.cons {P : Program} {fd : Field} {fs : List Field} {off s0 s1 : Nat} {α β : Type} {f : α → List Value} {g : β → List Value} {G : World → α → Prop} {K : World → β → Prop} (ho : fd.offset = off) (h0 : OpensW P fd.type s0 f G) (h1 : OpF P fs (off + s0) s1 g K) :
    OpF P (fd :: fs) off (s0 + s1) (fun x : α × β => f x.1 ++ g x.2) (fun w x => G w x.1 ∧ K w x.2) :=
  ⟨fun x => by simp [h0.1, h1.1], fun {H enc w base spare held n cs} hl hall => by
    obtain ⟨y, hy⟩ := hall 0 fd rfl
    rw [ho, h0.2.1] at hy
    obtain ⟨a, ha, hG⟩ := h0.2.2 hy
    obtain ⟨b, hb, hK⟩ := h1.2 (H := H) (enc := enc) (w := w) (base := base) (spare := spare) (held := held) (n := n) (cs := cs) (by omega) (fun i fd' hi => hall (i + 1) fd' (by simpa using hi))
    refine ⟨(a, b), ?_, hG, hK⟩
    dsimp only
    rw [← ha, ← hb, ← List.drop_drop, List.take_append_drop]⟩
/-- A slice, and what it holds. -/
structure SlV (α : Type) where
  a : Option Addr
  n : Nat
  c : Nat
  l : List α
/-- A text that is handed in. -/
theorem open_string {H : Type} {enc : TypeId × Value → H} {P : Program} {w : World} {base : Nat} {spare : Nat → Bool} {held : Bool} {r : Reach} {b0 : Nat} {t : TypeId} {v : Value} {d : DataW H} {ps : List MemPlace} (ht : P.underlying t = some .string) (hval : Value.okWide P w r b0 t v) (hd : DataW.Trod enc P w base spare held t v d ps) :
    ∃ s : List UInt8, v = .string ⟨s.toArray⟩ ∧ d = .lit (.string s) ∧ ps = [] ∧ i64 s.length := by
  obtain ⟨s, rfl⟩ := okWide_string ht hval
  obtain ⟨fuel, hf⟩ := hd
  obtain ⟨s', h, hx, hw⟩ := DataW.trod_string ht hf
  simp [Value.cells] at h
  subst h
  simp only [Prod.mk.injEq] at hx
  refine ⟨s.data.toList, by simp, hx.1, hx.2, ?_⟩
  have : s.data.toList.length = s.size := Array.length_toList
  unfold maxLen at hw
  unfold i64
  omega
end Go.Lx

/- Own layer, part n: rows of whole numbers, and of Bools. -/
namespace Go.Lx
set_option linter.unusedVariables false
set_option linter.unusedSimpArgs false

def encN1 (n : Int) : List Value := [.int .i64 n]
def encN (l : List Int) : List Value := l.flatMap encN1
theorem Rd.intAt {w : World} {a : Option Addr} {n c m : Nat} {xs : List Int} {x : Int} (h : Rd w 1 a n c (encN xs)) (hx : xs[m]? = some x) : w.cell? (el a (m * 1)) = some (.int .i64 x) := by
  have := Rd.elem (f := encN1) h (fun _ => rfl) hx 0 _ rfl
  rw [el_add] at this
  exact this
end Go.Lx
