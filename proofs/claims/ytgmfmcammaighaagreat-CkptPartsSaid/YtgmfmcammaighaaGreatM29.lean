/- Texts Kr Kk Kl, merged: a claim has at most 60 files. -/
import Derived.Test.YtgmfmcammaighaaGreatM28
import Derived.Test.YtgmfmcammaighaaGreatM27
import Derived.Test.YtgmfmcammaighaaGreatM4
/- It does not count in how many calls objects are folded: plain laws. -/
namespace Go.Lx
open Go.Proofs
set_option linter.unusedVariables false
set_option linter.unusedSimpArgs false

/-- Two states of which the numbers are the same. -/
def AlikeK (c d : Ck) : Prop := c.k = d.k ∧ c.sq = d.sq ∧ c.ep = d.ep ∧ c.up = d.up ∧ c.sz = d.sz ∧ c.nt = d.nt
theorem AlikeK.fold : ∀ (l : List Dob) {c d : Ck}, AlikeK c d → AlikeK (l.foldl foldC c) (l.foldl foldC d)
  | [], _, _, h => h
  | o :: l, c, d, h => by
    rw [List.foldl_cons, List.foldl_cons]
    exact AlikeK.fold l ⟨h.1, rfl, rfl, rfl, h.2.2.2.2.1, h.2.2.2.2.2⟩
theorem AlikeK.may {c d : Ck} (h : AlikeK c d) (o : Dob) : mayK c o = mayK d o := mayK_eq h.1 h.2.1 h.2.2.1 h.2.2.2.1 h.2.2.2.2.1
theorem foldN_take {c : Ck} {L : List Dob} {a j : Nat} (h : j ≤ a) : foldN c (L.take a) j = foldN c L j := by
  unfold foldN
  rw [List.take_take, Nat.min_eq_left h]
theorem foldN_drop (c : Ck) (L : List Dob) (a i : Nat) : foldN c L (a + i) = ((L.drop a).take i).foldl foldC (foldN c L a) := by
  unfold foldN
  rw [List.take_add, List.foldl_append]
theorem take_get {L : List Dob} {a j : Nat} {o : Dob} (h : (L.take a)[j]? = some o) : L[j]? = some o ∧ j < a := by
  rw [List.getElem?_take] at h
  split at h
  · rename_i g; exact ⟨h, g⟩
  · cases h
theorem get_take {L : List Dob} {a j : Nat} {o : Dob} (h : L[j]? = some o) (hj : j < a) : (L.take a)[j]? = some o := by
  rw [List.getElem?_take, if_pos hj]; exact h
theorem cntK_cnt (m n : List Ext) (R T : List Kr) : cntK m (cntK n R ++ T) = cntK m (R ++ T) := by
  unfold cntK
  rw [List.map_append, List.map_append, List.map_map]
  rfl
theorem fold_one {k : Nat} {sz : Int} {L : List Dob} {a : Nat} {x y : Ck} {e f : Int} (hsz : 1 ≤ sz ∧ sz ≤ 300) (hL : L.length ≤ 12) (h : FoldR (cN k sz) (L.take a) y f) (hf : f ≠ 0) (hx : FoldR (cN k sz) L x e) : e = f ∧ x = zK := by
  have hc : chkK (cN k sz) = 0 := chk_new ⟨hsz.1, by omega⟩
  obtain ⟨_, h⟩ := h.resolve_left (fun g => g.1 hc)
  rcases h with ⟨i, o, i1, i2, i3, rfl, rfl⟩ | ⟨h2, d, hd, h⟩
  · obtain ⟨j1, j2⟩ := take_get i1
    rw [foldN_take (by omega)] at i3 hf
    have hr : FoldR (cN k sz) L zK (mayK (foldN (cN k sz) L i) o) := .inr ⟨hc, .inl ⟨i, o, j1, fun j p hj hp => by have := i2 j p hj (get_take hp (by omega)); rwa [foldN_take (by omega)] at this, i3, rfl, rfl⟩⟩
    have := hx.unique hr
    rw [foldN_take (by omega)]
    exact ⟨this.2, this.1⟩
  · have hs := stK_small hsz h2 (by rw [List.length_take]; omega) hd
    rcases h with ⟨_, h, _⟩ | ⟨h, _⟩
    · exact absurd h hf
    · omega
theorem fold_end {k : Nat} {sz : Int} {L : List Dob} {y : Ck} (hsz : 1 ≤ sz ∧ sz ≤ 300) (hL : L.length ≤ 12) (h : FoldR (cN k sz) L y 0) : okN (cN k sz) L L.length ∧ IsEnd (cN k sz) L y ∧ chkK y = 0 := by
  have hc : chkK (cN k sz) = 0 := chk_new ⟨hsz.1, by omega⟩
  obtain ⟨_, h⟩ := h.resolve_left (fun g => g.1 hc)
  rcases h with ⟨i, o, i1, i2, i3, i4, _⟩ | ⟨h2, d, hd, h⟩
  · exact absurd i4.symm i3
  · rcases h with ⟨_, _, rfl⟩ | ⟨_, h, _⟩
    · exact ⟨h2, hd, chk_fold hsz h2 hL hd⟩
    · cases h
theorem fold_two {k : Nat} {sz : Int} {L : List Dob} {a : Nat} {y z : Ck} {g : Int} (hsz : 1 ≤ sz ∧ sz ≤ 300) (hL : L.length ≤ 12) (ha : a ≤ L.length) (h : FoldR (cN k sz) (L.take a) y 0) (hz : FoldR y (L.drop a) z g) : FoldR (cN k sz) L z g := by
  have hc : chkK (cN k sz) = 0 := chk_new ⟨hsz.1, by omega⟩
  have hla : (L.take a).length = a := by rw [List.length_take]; omega
  obtain ⟨h1, h2, h3⟩ := fold_end hsz (by omega) h
  rw [hla] at h1
  have hfa : foldN (cN k sz) (L.take a) (L.take a).length = foldN (cN k sz) L a := by rw [hla, foldN_take (Nat.le_refl _)]
  have hyeq : y = { foldN (cN k sz) L a with m := y.m, r := cntK y.m (foldN (cN k sz) L a).r } := by have := h2.eq; rwa [hfa] at this
  have hal : AlikeK y (foldN (cN k sz) L a) := by rw [hyeq]; exact ⟨rfl, rfl, rfl, rfl, rfl, rfl⟩
  have hali : ∀ i, AlikeK (foldN y (L.drop a) i) (foldN (cN k sz) L (a + i)) := fun i => by rw [foldN_drop]; exact AlikeK.fold _ hal
  have hok1 : okN (cN k sz) L a := fun j p hj hp => by have := h1 j p hj (get_take hp hj); rwa [foldN_take (by omega)] at this
  have hok2 : ∀ n, okN y (L.drop a) n → okN (cN k sz) L (a + n) := fun n hn j p hj hp => by
    rcases Nat.lt_or_ge j a with q | q
    · exact hok1 j p q hp
    · obtain ⟨i, rfl⟩ : ∃ i, j = a + i := ⟨j - a, by omega⟩
      rw [← (hali i).may]
      exact hn i p (by omega) (by rw [List.getElem?_drop]; exact hp)
  obtain ⟨_, hz⟩ := hz.resolve_left (fun q => q.1 h3)
  refine .inr ⟨hc, ?_⟩
  rcases hz with ⟨i, o, i1, i2, i3, rfl, rfl⟩ | ⟨z1, d, hd, hz⟩
  · rw [List.getElem?_drop] at i1
    refine .inl ⟨a + i, o, i1, hok2 i i2, ?_, ?_, rfl⟩
    · rw [← (hali i).may]; exact i3
    · exact (hali i).may o
  · have hld : a + (L.drop a).length = L.length := by rw [List.length_drop]; omega
    have hok : okN (cN k sz) L L.length := by have := hok2 _ z1; rwa [hld] at this
    refine .inr ⟨hok, d, ⟨?_, ?_⟩, hz⟩
    · have hs : sigC y = sigN (cN k sz) L a := by
        have e1 := ((chkK_ok h3).2.1).isMap
        have e2 := h2.map
        rw [hla] at e2
        have e3 : sigN (cN k sz) (L.take a) a = sigN (cN k sz) L a := by unfold sigN; rw [List.take_take, Nat.min_self]
        rw [e3] at e2
        exact e1.sig e2
      have e4 : sigN y (L.drop a) (L.drop a).length = sigN (cN k sz) L L.length := by
        unfold sigN at hs ⊢
        rw [hs, List.take_length, List.take_length, ← List.foldl_append, List.take_append_drop]
      rw [← e4]
      exact hd.map
    · have e := hd.eq
      have hai := hali (L.drop a).length
      rw [hld] at hai
      have hrr : cntK d.m (foldN y (L.drop a) (L.drop a).length).r = cntK d.m (foldN (cN k sz) L L.length).r := by
        rw [show foldN (cN k sz) L L.length = foldN (cN k sz) L (a + (L.drop a).length) by rw [hld], foldN_drop]
        unfold foldN
        rw [List.take_length, foldC_r, foldC_r]
        have hyr : y.r = cntK y.m (foldN (cN k sz) L a).r := by
          have := congrArg Ck.r hyeq
          exact this
        rw [hyr, cntK_cnt]
        rfl
      rw [hrr] at e
      obtain ⟨a1, a2, a3, a4, a5, a6⟩ := hai
      exact e.trans (by dsimp only; rw [a1, a2, a3, a4, a5, a6])
end Go.Lx

/- Which bytes are a state's: plain laws. -/
namespace Go.Lx
open Go.Proofs
set_option linter.unusedVariables false
set_option linter.unusedSimpArgs false

def krOf (z : (Nat × Nat) × Nat) : Kr := ((z.1.1 : Int), (z.1.2 : Int), (z.2 : Int))
def ofKr (x : Kr) : (Nat × Nat) × Nat := ((x.1.toNat, x.2.1.toNat), x.2.2.toNat)
theorem of_krOf (b : Kr) (h : OkR b) : (((ofKr b).1.1 ≤ 1099511627776 ∧ (ofKr b).1.2 ≤ 1099511627776) ∧ (ofKr b).2 ≤ 1099511627776) ∧ ((varB (ofKr b).1.1 ++ varB (ofKr b).1.2) ++ varB (ofKr b).2) = krB b ∧ krOf (ofKr b) = b := by
  obtain ⟨⟨h1, h2⟩, h3⟩ := h
  refine ⟨?_, rfl, ?_⟩
  · unfold ofKr; simp only; omega
  · unfold ofKr krOf; exact Prod.ext (by simp only; omega) (Prod.ext (by simp only; omega) (by simp only; omega))
theorem injKr : Inj krB OkR := ((injM.seq injM).seq injM).map krOf ofKr of_krOf
theorem injTx : Inj textB (fun s => s.length ≤ 16384) := ⟨fun a b c => (codText 16384 (by decide)).inj a b c⟩
def okK (z : Zk) : Prop := ((((((z.1.1.1.1.1.1.1 < 256 ^ 8 ∧ z.1.1.1.1.1.1.2 ≤ 1099511627776) ∧ z.1.1.1.1.1.2 ≤ 1099511627776) ∧ z.1.1.1.1.2 ≤ 1099511627776) ∧ z.1.1.1.2 ≤ 1099511627776) ∧ (z.1.1.2.length ≤ 65536 ∧ ∀ x ∈ z.1.1.2, OkP x)) ∧ (z.1.2.length ≤ 65536 ∧ ∀ x ∈ z.1.2, OkR x)) ∧ z.2.length ≤ 16384
theorem injK : Inj hkE okK :=
  have h8 : Inj (fun x => fixB x 8) (fun x => x < 256 ^ 8) := ⟨fun a b c => (codFix 8).inj a b c⟩
  ⟨fun {x y r q} hx hy hq => (((((((h8.seq injM).seq injM).seq injM).seq injM).seq (injPt.cnt (m := 65536) (by decide))).seq (injKr.cnt (m := 65536) (by decide))).seq injTx).inj hx hy hq⟩
/-- What Decode answers. -/
def DecK (s : Bs) (c : Ck) (e : Int) : Prop :=
  ((openS s).2 ≠ 0 ∧ e = (openS s).2 ∧ c = zK) ∨ ((openS s).2 = 0 ∧ (∀ r, (openS s).1 ≠ kdK ++ r) ∧ e = 14 ∧ c = zK) ∨
  (∃ r, (openS s).2 = 0 ∧ (openS s).1 = kdK ++ r ∧ (((∀ z, okK z → chkK (ckZ z) = 0 → r ≠ hkE z) ∧ e = 12 ∧ c = zK) ∨ ∃ z, okK z ∧ chkK (ckZ z) = 0 ∧ r = hkE z ∧ e = 0 ∧ c = ckZ z))
theorem DecK.unique {s : Bs} {c d : Ck} {e f : Int} (a : DecK s c e) (b : DecK s d f) : c = d ∧ e = f := by
  rcases a with ⟨a1, a2, a3⟩ | ⟨a1, a2, a3, a4⟩ | ⟨r, a1, a2, a3⟩ <;> rcases b with ⟨b1, b2, b3⟩ | ⟨b1, b2, b3, b4⟩ | ⟨q, b1, b2, b3⟩
  · exact ⟨a3.trans b3.symm, a2.trans b2.symm⟩
  · exact absurd b1 a1
  · exact absurd b1 a1
  · exact absurd a1 b1
  · exact ⟨a4.trans b4.symm, a3.trans b3.symm⟩
  · exact absurd b2 (a2 q)
  · exact absurd a1 b1
  · exact absurd a2 (b2 r)
  · obtain rfl : r = q := List.append_cancel_left (a2.symm.trans b2)
    rcases a3 with ⟨c1, c2, c3⟩ | ⟨z, c1, c2, c3, c4, c5⟩ <;> rcases b3 with ⟨d1, d2, d3⟩ | ⟨y, d1, d2, d3, d4, d5⟩
    · exact ⟨c3.trans d3.symm, c2.trans d2.symm⟩
    · exact absurd d3 (c1 y d1 d2)
    · exact absurd c3 (d1 z c1 c2)
    · obtain ⟨rfl, _⟩ := injK.inj (r := []) (q := []) c1 d1 (by rw [← c3, ← d3])
      exact ⟨c5.trans d5.symm, c4.trans d4.symm⟩
theorem DecK.few {s : Bs} {c : Ck} {e : Int} (h : DecK s c e) (he : e ≠ 0) : c = zK := by
  rcases h with ⟨_, _, h⟩ | ⟨_, _, _, h⟩ | ⟨r, _, _, ⟨_, _, h⟩ | ⟨z, _, _, _, h, _⟩⟩
  · exact h
  · exact h
  · exact h
  · exact absurd h he
end Go.Lx

/- Package ckpt's walks: what is read. -/
namespace Go.Lx
open Go.Proofs
set_option linter.unusedVariables false
set_option linter.unusedSimpArgs false
set_option maxRecDepth 20000
set_option maxHeartbeats 4000000
def c4 (L : List Nat) : List Value := L.map (fun x => Value.int .i64 ((x : Nat) : Int)) ++ List.replicate (4 - L.length) (.int .i64 0)
structure TQ where
  p : Nat
  e : Int
  L : List Nat
structure TM where
  p : Nat
  e : Int
  a : Option Addr
  c : Nat
  l : List Ext
structure TN where
  p : Nat
  e : Int
  a : Option Addr
  c : Nat
  l : List Kr
end Go.Lx
