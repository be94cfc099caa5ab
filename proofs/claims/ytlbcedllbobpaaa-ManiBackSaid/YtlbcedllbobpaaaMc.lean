/- Manifests: plain. -/
import Derived.Test.YtlbcedllbobpaaaMb
namespace Go.Lx
open Go.Proofs
set_option linter.unusedVariables false
set_option linter.unusedSimpArgs false

structure Sn3 where
  n : Bs
  q : Int
  u : Int
  deriving DecidableEq, Inhabited
def encQ1 (x : Sn3) : List Value := [.string ⟨x.n.toArray⟩, .int .i64 x.q, .int .i64 x.u]
def encQ (l : List Sn3) : List Value := l.flatMap encQ1
structure Man where
  v : Bs
  k : Nat
  s : Int
  z : Int
  b : Bs
  bq : Int
  sn : List Sn3
  deriving DecidableEq, Inhabited
theorem Rd.snap {w : World} {a : Option Addr} {n c m : Nat} {xs : List Sn3} {x : Sn3} (h : Rd w 3 a n c (encQ xs)) (hx : xs[m]? = some x) : ∀ j u, (encQ1 x)[j]? = some u → w.cell? ((el a (m * 3)).add j) = some u := Rd.elem (f := encQ1) h (fun _ => rfl) hx
/-- Names rise, and none is empty or too long: of the first i. -/
def NamesTo (l : List Sn3) (i : Nat) : Prop := ∀ j x, j < i → l[j]? = some x → x.n ≠ [] ∧ x.n.length ≤ 64 ∧ ∀ y, 0 < j → l[j - 1]? = some y → Op.bytesLess y.n x.n = true
def NumsTo (l : List Sn3) (i : Nat) : Prop := ∀ j x, j < i → l[j]? = some x → nmS x.q ∧ nmS x.u
/-- What is wrong with a manifest. -/
def IsChkM (m : Man) (e : Int) : Prop :=
  ((¬ VolOK m.v ∨ ¬ BaseOK m.v m.b m.bq ∨ ¬ NamesTo m.sn m.sn.length) ∧ e = 1) ∨
  ((VolOK m.v ∧ BaseOK m.v m.b m.bq ∧ NamesTo m.sn m.sn.length) ∧
    ((¬ (nmS m.s ∧ 1 ≤ m.z ∧ m.z ≤ 65536 ∧ NumsTo m.sn m.sn.length) ∧ e = 31) ∨
     ((nmS m.s ∧ 1 ≤ m.z ∧ m.z ≤ 65536 ∧ NumsTo m.sn m.sn.length) ∧ (m.sn.length > 100 ∧ e = 32 ∨ m.sn.length ≤ 100 ∧ e = 0))))
theorem IsChkM.unique {m : Man} {e f : Int} (h : IsChkM m e) (k : IsChkM m f) : e = f := by
  unfold IsChkM at h k
  rcases h with ⟨h, rfl⟩ | ⟨h, ⟨h2, rfl⟩ | ⟨h2, h3⟩⟩ <;> rcases k with ⟨k, rfl⟩ | ⟨k, ⟨k2, rfl⟩ | ⟨k2, k3⟩⟩
  · rfl
  · exact absurd k (fun ⟨a, b, c⟩ => by rcases h with h | h | h <;> exact h (by assumption))
  · exact absurd k (fun ⟨a, b, c⟩ => by rcases h with h | h | h <;> exact h (by assumption))
  · exact absurd h (fun ⟨a, b, c⟩ => by rcases k with k | k | k <;> exact k (by assumption))
  · rfl
  · exact absurd k2 h2
  · exact absurd h (fun ⟨a, b, c⟩ => by rcases k with k | k | k <;> exact k (by assumption))
  · exact absurd h2 k2
  · omega
end Go.Lx
