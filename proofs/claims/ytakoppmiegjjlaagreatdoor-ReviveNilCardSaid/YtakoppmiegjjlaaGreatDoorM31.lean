/- Texts Kk Ke Kf, merged: a claim has at most 60 files. -/
import Derived.Test.YtakoppmiegjjlaaGreatDoorM30
import Derived.Test.YtakoppmiegjjlaaGreatDoorM4
/- Which bytes are a state's: plain laws. -/
namespace Go.Lx
open Go.Proofs
set_option linter.unusedVariables false
set_option linter.unusedSimpArgs false

def okK (z : Zk) : Prop := ((((((z.1.1.1.1.1.1.1 < 256 ^ 8 ∧ z.1.1.1.1.1.1.2 ≤ 1099511627776) ∧ z.1.1.1.1.1.2 ≤ 1099511627776) ∧ z.1.1.1.1.2 ≤ 1099511627776) ∧ z.1.1.1.2 ≤ 1099511627776) ∧ (z.1.1.2.length ≤ 65536 ∧ ∀ x ∈ z.1.1.2, OkP x)) ∧ (z.1.2.length ≤ 65536 ∧ ∀ x ∈ z.1.2, OkR x)) ∧ z.2.length ≤ 16384
/-- What Decode answers. -/
def DecK (s : Bs) (c : Ck) (e : Int) : Prop :=
  ((openS s).2 ≠ 0 ∧ e = (openS s).2 ∧ c = zK) ∨ ((openS s).2 = 0 ∧ (∀ r, (openS s).1 ≠ kdK ++ r) ∧ e = 14 ∧ c = zK) ∨
  (∃ r, (openS s).2 = 0 ∧ (openS s).1 = kdK ++ r ∧ (((∀ z, okK z → chkK (ckZ z) = 0 → r ≠ hkE z) ∧ e = 12 ∧ c = zK) ∨ ∃ z, okK z ∧ chkK (ckZ z) = 0 ∧ r = hkE z ∧ e = 0 ∧ c = ckZ z))
theorem DecK.few {s : Bs} {c : Ck} {e : Int} (h : DecK s c e) (he : e ≠ 0) : c = zK := by
  rcases h with ⟨_, _, h⟩ | ⟨_, _, _, h⟩ | ⟨r, _, _, ⟨_, _, h⟩ | ⟨z, _, _, _, h, _⟩⟩
  · exact h
  · exact h
  · exact h
  · exact absurd h he
end Go.Lx

/- Package ckpt's walks: may, Fold. -/
namespace Go.Lx
open Go.Proofs
set_option linter.unusedVariables false
set_option linter.unusedSimpArgs false
set_option maxRecDepth 20000
set_option maxHeartbeats 4000000
end Go.Lx

/- Package ckpt's walks: Fold. -/
namespace Go.Lx
open Go.Proofs
set_option linter.unusedVariables false
set_option linter.unusedSimpArgs false
set_option maxRecDepth 20000
set_option maxHeartbeats 4000000
instance (priority := 40) {p : Assn} {B : List Assn} : Suf [p] (p :: B) := ⟨List.cons_sublist_cons.2 (List.nil_sublist B)⟩
structure Ob where
  o : Dob
  a : Option Addr
  c : Nat
  b : Option Addr
  d : Nat
structure CkS where
  c : Ck
  a : Option Addr
  n : Nat
  b : Option Addr
  d : Nat
/-- What is asked of objects that are handed in. -/
def ObOk (w : World) (x : Ob) : Prop := Rd w 4 x.a x.o.ps.length x.c (encE x.o.ps) ∧ Rd w 2 x.b x.o.cs.length x.d (encS x.o.cs) ∧ x.o.k < 18446744073709551616 ∧ x.o.d.length ≤ 1000000
theorem ObOk.conf0 {P : Program} {k : Nat} {w w' : World} {A : List Assn} {x : Ob} (h : ObOk w x) (hw : Conf ⟨P, k, w, fun _ => False⟩ A w') : ObOk w' x := ⟨h.1.conf0 hw, h.2.1.conf0 hw, h.2.2⟩
end Go.Lx
