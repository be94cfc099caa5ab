/- Texts Kr Kk Kl, merged: a claim has at most 60 files. -/
import Derived.Test.YtgmfmcammaighaaGreatM28
import Derived.Test.YtgmfmcammaighaaGreatM27
import Derived.Test.YtgmfmcammaighaaGreatM4
/- It does not count in how many calls objects are folded: plain laws. -/
namespace Go.Lx
open Go.Proofs
set_option linter.unusedVariables false
set_option linter.unusedSimpArgs false

/-- Two states of which the numbers are the same. -/
def AlikeK (c d : Ck) : Prop := c.k = d.k ∧ c.sq = d.sq ∧ c.ep = d.ep ∧ c.up = d.up ∧ c.sz = d.sz ∧ c.nt = d.nt
theorem AlikeK.may {c d : Ck} (h : AlikeK c d) (o : Dob) : mayK c o = mayK d o := mayK_eq h.1 h.2.1 h.2.2.1 h.2.2.2.1 h.2.2.2.2.1
theorem fold_end {k : Nat} {sz : Int} {L : List Dob} {y : Ck} (hsz : 1 ≤ sz ∧ sz ≤ 300) (hL : L.length ≤ 12) (h : FoldR (cN k sz) L y 0) : okN (cN k sz) L L.length ∧ IsEnd (cN k sz) L y ∧ chkK y = 0 := by
  have hc : chkK (cN k sz) = 0 := chk_new ⟨hsz.1, by omega⟩
  obtain ⟨_, h⟩ := h.resolve_left (fun g => g.1 hc)
  rcases h with ⟨i, o, i1, i2, i3, i4, _⟩ | ⟨h2, d, hd, h⟩
  · exact absurd i4.symm i3
  · rcases h with ⟨_, _, rfl⟩ | ⟨_, h, _⟩
    · exact ⟨h2, hd, chk_fold hsz h2 hL hd⟩
    · cases h
end Go.Lx

/- Which bytes are a state's: plain laws. -/
namespace Go.Lx
open Go.Proofs
set_option linter.unusedVariables false
set_option linter.unusedSimpArgs false

def krOf (z : (Nat × Nat) × Nat) : Kr := ((z.1.1 : Int), (z.1.2 : Int), (z.2 : Int))
def ofKr (x : Kr) : (Nat × Nat) × Nat := ((x.1.toNat, x.2.1.toNat), x.2.2.toNat)
theorem of_krOf (b : Kr) (h : OkR b) : (((ofKr b).1.1 ≤ 1099511627776 ∧ (ofKr b).1.2 ≤ 1099511627776) ∧ (ofKr b).2 ≤ 1099511627776) ∧ ((varB (ofKr b).1.1 ++ varB (ofKr b).1.2) ++ varB (ofKr b).2) = krB b ∧ krOf (ofKr b) = b := by
  obtain ⟨⟨h1, h2⟩, h3⟩ := h
  refine ⟨?_, rfl, ?_⟩
  · unfold ofKr; simp only; omega
  · unfold ofKr krOf; exact Prod.ext (by simp only; omega) (Prod.ext (by simp only; omega) (by simp only; omega))
theorem injKr : Inj krB OkR := ((injM.seq injM).seq injM).map krOf ofKr of_krOf
theorem injTx : Inj textB (fun s => s.length ≤ 16384) := ⟨fun a b c => (codText 16384 (by decide)).inj a b c⟩
def okK (z : Zk) : Prop := ((((((z.1.1.1.1.1.1.1 < 256 ^ 8 ∧ z.1.1.1.1.1.1.2 ≤ 1099511627776) ∧ z.1.1.1.1.1.2 ≤ 1099511627776) ∧ z.1.1.1.1.2 ≤ 1099511627776) ∧ z.1.1.1.2 ≤ 1099511627776) ∧ (z.1.1.2.length ≤ 65536 ∧ ∀ x ∈ z.1.1.2, OkP x)) ∧ (z.1.2.length ≤ 65536 ∧ ∀ x ∈ z.1.2, OkR x)) ∧ z.2.length ≤ 16384
theorem injK : Inj hkE okK :=
  have h8 : Inj (fun x => fixB x 8) (fun x => x < 256 ^ 8) := ⟨fun a b c => (codFix 8).inj a b c⟩
  ⟨fun {x y r q} hx hy hq => (((((((h8.seq injM).seq injM).seq injM).seq injM).seq (injPt.cnt (m := 65536) (by decide))).seq (injKr.cnt (m := 65536) (by decide))).seq injTx).inj hx hy hq⟩
/-- What Decode answers. -/
def DecK (s : Bs) (c : Ck) (e : Int) : Prop :=
  ((openS s).2 ≠ 0 ∧ e = (openS s).2 ∧ c = zK) ∨ ((openS s).2 = 0 ∧ (∀ r, (openS s).1 ≠ kdK ++ r) ∧ e = 14 ∧ c = zK) ∨
  (∃ r, (openS s).2 = 0 ∧ (openS s).1 = kdK ++ r ∧ (((∀ z, okK z → chkK (ckZ z) = 0 → r ≠ hkE z) ∧ e = 12 ∧ c = zK) ∨ ∃ z, okK z ∧ chkK (ckZ z) = 0 ∧ r = hkE z ∧ e = 0 ∧ c = ckZ z))
theorem DecK.unique {s : Bs} {c d : Ck} {e f : Int} (a : DecK s c e) (b : DecK s d f) : c = d ∧ e = f := by
  rcases a with ⟨a1, a2, a3⟩ | ⟨a1, a2, a3, a4⟩ | ⟨r, a1, a2, a3⟩ <;> rcases b with ⟨b1, b2, b3⟩ | ⟨b1, b2, b3, b4⟩ | ⟨q, b1, b2, b3⟩
  · exact ⟨a3.trans b3.symm, a2.trans b2.symm⟩
  · exact absurd b1 a1
  · exact absurd b1 a1
  · exact absurd a1 b1
  · exact ⟨a4.trans b4.symm, a3.trans b3.symm⟩
  · exact absurd b2 (a2 q)
  · exact absurd a1 b1
  · exact absurd a2 (b2 r)
  · obtain rfl : r = q := List.append_cancel_left (a2.symm.trans b2)
    rcases a3 with ⟨c1, c2, c3⟩ | ⟨z, c1, c2, c3, c4, c5⟩ <;> rcases b3 with ⟨d1, d2, d3⟩ | ⟨y, d1, d2, d3, d4, d5⟩
    · exact ⟨c3.trans d3.symm, c2.trans d2.symm⟩
    · exact absurd d3 (c1 y d1 d2)
    · exact absurd c3 (d1 z c1 c2)
    · obtain ⟨rfl, _⟩ := injK.inj (r := []) (q := []) c1 d1 (by rw [← c3, ← d3])
      exact ⟨c5.trans d5.symm, c4.trans d4.symm⟩
theorem DecK.few {s : Bs} {c : Ck} {e : Int} (h : DecK s c e) (he : e ≠ 0) : c = zK := by
  rcases h with ⟨_, _, h⟩ | ⟨_, _, _, h⟩ | ⟨r, _, _, ⟨_, _, h⟩ | ⟨z, _, _, _, h, _⟩⟩
  · exact h
  · exact h
  · exact h
  · exact absurd h he
end Go.Lx

/- Package ckpt's walks: what is read. -/
namespace Go.Lx
open Go.Proofs
set_option linter.unusedVariables false
set_option linter.unusedSimpArgs false
set_option maxRecDepth 20000
set_option maxHeartbeats 4000000
def c4 (L : List Nat) : List Value := L.map (fun x => Value.int .i64 ((x : Nat) : Int)) ++ List.replicate (4 - L.length) (.int .i64 0)
structure TQ where
  p : Nat
  e : Int
  L : List Nat
structure TM where
  p : Nat
  e : Int
  a : Option Addr
  c : Nat
  l : List Ext
structure TN where
  p : Nat
  e : Int
  a : Option Addr
  c : Nat
  l : List Kr
end Go.Lx
