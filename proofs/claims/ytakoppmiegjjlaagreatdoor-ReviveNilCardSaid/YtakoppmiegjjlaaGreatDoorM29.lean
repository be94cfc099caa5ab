/- Texts Fg Dm Ka, merged: a claim has at most 60 files. -/
import Derived.Test.YtakoppmiegjjlaaGreatDoorM4
import Derived.Test.YtakoppmiegjjlaaGreatDoorM28
import Derived.Test.YtakoppmiegjjlaaGreatDoorM21
import Derived.Test.YtakoppmiegjjlaaGreatDoorM24
import Derived.Test.YtakoppmiegjjlaaGreatDoorM6
/- The statements on maps: nil maps; a map held against the document's; statements ExtmapNil and ExtmapPlays. -/
namespace Go.Lx
open Go.Proofs
set_option linter.unusedVariables false
set_option linter.unusedSimpArgs false
set_option maxRecDepth 20000
set_option maxHeartbeats 8000000

end Go.Lx

/- Package dobj's walks: Apply. -/
namespace Go.Lx
open Go.Proofs
set_option linter.unusedVariables false
set_option linter.unusedSimpArgs false
set_option maxRecDepth 20000
set_option maxHeartbeats 4000000
end Go.Lx

/- What states are, and which bytes: plain laws. -/
namespace Go.Lx
open Go.Proofs
set_option linter.unusedVariables false
set_option linter.unusedSimpArgs false

abbrev Kr := Int × Int × Int
def encK1 (x : Kr) : List Value := [.int .i64 x.1, .int .i64 x.2.1, .int .i64 x.2.2]
def encK (xs : List Kr) : List Value := xs.flatMap encK1
theorem Rd.kr {w : World} {a : Option Addr} {n c m : Nat} {xs : List Kr} {x : Kr} (h : Rd w 3 a n c (encK xs)) (hx : xs[m]? = some x) : ∀ j u, [Value.int .i64 x.1, .int .i64 x.2.1, .int .i64 x.2.2][j]? = some u → w.cell? ((el a (m * 3)).add j) = some u := Rd.elem (f := encK1) h (fun _ => rfl) hx
structure Ck where
  k : Nat
  ep : Int
  sq : Int
  up : Int
  sz : Int
  m : List Ext
  r : List Kr
  nt : Bs
def zK : Ck := ⟨0, 0, 0, 0, 0, [], [], []⟩

/-! ### how many sectors of an object there are -/
def liveN : List Ext → Int → Int
  | [], _ => 0
  | x :: l, q => (if x.q = q then x.n else 0) + liveN l q
theorem liveN_append (q : Int) : ∀ l m : List Ext, liveN (l ++ m) q = liveN l q + liveN m q
  | [], m => by simp [liveN]
  | x :: l, m => by simp only [List.cons_append, liveN, liveN_append q l m]; omega
theorem liveN_take {l : List Ext} {i : Nat} {x : Ext} (h : l[i]? = some x) (q : Int) : liveN (l.take (i + 1)) q = liveN (l.take i) q + (if x.q = q then x.n else 0) := by
  rw [take_snocE h, liveN_append]; simp [liveN]
theorem liveN_bd (q : Int) : ∀ {l : List Ext} {lo : Int}, Rise lo l → 0 ≤ liveN l q ∧ lo + liveN l q ≤ endE lo l
  | [], lo, _ => by simp [liveN, endE]
  | x :: l, lo, h => by
    obtain ⟨h1, h2, h3⟩ := h
    have ih := liveN_bd q h3
    unfold inE at h2
    simp only [liveN, endE]
    split <;> omega
theorem liveN_top {l : List Ext} (h : Rise 0 l) (q : Int) : 0 ≤ liveN l q ∧ liveN l q ≤ 65536 := by
  have h1 := liveN_bd q h
  have h2 := h.endTop (by omega)
  omega
/-! ### which states may be -/
def prevK (l : List Kr) : Nat → Int
  | 0 => 0
  | i + 1 => match l[i]? with
    | some x => x.1
    | none => 0
theorem prevK_succ {l : List Kr} {i : Nat} {x : Kr} (h : l[i]? = some x) : prevK l (i + 1) = x.1 := by simp [prevK, h]
def RowP (c : Ck) (p : Int) (x : Kr) : Prop := p < x.1 ∧ x.1 ≤ c.sq ∧ 0 ≤ x.2.1 ∧ x.2.1 ≤ 65536 ∧ x.2.2 = liveN c.m x.1 ∧ x.2.2 ≤ x.2.1
def rowsN (c : Ck) (n : Nat) : Prop := ∀ i x, i < n → c.r[i]? = some x → RowP c (prevK c.r i) x
def inK (l : List Kr) (q : Int) : Prop := ∃ x ∈ l, x.1 = q
def hasK (c : Ck) : Prop := ∀ x ∈ c.m, inK c.r x.q
def rowedP (c : Ck) : Prop := rowsN c c.r.length ∧ hasK c
def mappedP (c : Ck) : Prop := ExtOK c.m c.m.length ∧ NF c.m ∧ ∀ x ∈ c.m, x.a + x.n ≤ c.sz
def numsK (c : Ck) : Prop := (1 ≤ c.ep ∧ c.ep < 1099511627776) ∧ (0 ≤ c.sq ∧ c.sq < 1099511627776) ∧ (0 ≤ c.up ∧ c.up < 1099511627776) ∧ 1 ≤ c.sz ∧ c.sz ≤ 65536
theorem rowsN.step {c : Ck} {i : Nat} {x : Kr} (h : rowsN c i) (hx : c.r[i]? = some x) (hp : RowP c (prevK c.r i) x) : rowsN c (i + 1) := fun j y hj hy => by
  rcases Nat.lt_or_ge j i with g | g
  · exact h j y g hy
  · obtain rfl : j = i := by omega
    rw [hx] at hy; cases hy; exact hp
theorem rowsN.prev {c : Ck} : ∀ {i : Nat}, rowsN c i → i ≤ c.r.length → 0 ≤ prevK c.r i ∧ ∀ q, inK (c.r.take i) q → 1 ≤ q ∧ q ≤ prevK c.r i
  | 0, _, _ => ⟨Int.le_refl _, fun q ⟨x, hx, _⟩ => by simp at hx⟩
  | i + 1, h, hi => by
    obtain ⟨x, hx⟩ := get_lt (l := c.r) (k := i) hi
    obtain ⟨h1, h2⟩ := rowsN.prev (i := i) (fun j y hj hy => h j y (by omega) hy) (by omega)
    have hp := h i x (by omega) hx
    unfold RowP at hp
    rw [prevK_succ hx]
    refine ⟨by omega, fun q ⟨y, hy, hyq⟩ => ?_⟩
    rw [take_snocE hx] at hy
    rcases List.mem_append.1 hy with g | g
    · have := h2 q ⟨y, g, hyq⟩; omega
    · obtain rfl : y = x := by simpa using g
      omega
theorem rowsN.fresh {c : Ck} {i : Nat} {q : Int} (h : rowsN c i) (hi : i ≤ c.r.length) (hq : prevK c.r i < q) : ¬ inK (c.r.take i) q := fun g => by
  have := (h.prev hi).2 q g
  omega

/-! ### bytes -/
def kdK : Bs := [67, 75, 80, 49]
def krB (x : Kr) : Bs := (varB x.1.toNat ++ varB x.2.1.toNat) ++ varB x.2.2.toNat
def OkR (x : Kr) : Prop := ((0 ≤ x.1 ∧ x.1 ≤ 1099511627776) ∧ (0 ≤ x.2.1 ∧ x.2.1 ≤ 1099511627776)) ∧ (0 ≤ x.2.2 ∧ x.2.2 ≤ 1099511627776)
abbrev Zk := ((((((Nat × Nat) × Nat) × Nat) × Nat) × List Ext) × List Kr) × Bs
def hkE (z : Zk) : Bs := ((((((fixB z.1.1.1.1.1.1.1 8 ++ varB z.1.1.1.1.1.1.2) ++ varB z.1.1.1.1.1.2) ++ varB z.1.1.1.1.2) ++ varB z.1.1.1.2) ++ cntB ptB z.1.1.2) ++ cntB krB z.1.2) ++ textB z.2
def zCk (c : Ck) : Zk := (((((((c.k, c.ep.toNat), c.sq.toNat), c.up.toNat), c.sz.toNat), c.m), c.r), c.nt)
def ckZ (z : Zk) : Ck := ⟨z.1.1.1.1.1.1.1, z.1.1.1.1.1.1.2, z.1.1.1.1.1.2, z.1.1.1.1.2, z.1.1.1.2, z.1.1.2, z.1.2, z.2⟩
def bodK (c : Ck) : Bs := kdK ++ hkE (zCk c)
def stK (c : Ck) : Bs := sealS (bodK c)
theorem krB_len (x : Kr) : (krB x).length ≤ 27 := by
  have h1 := varB_le x.1.toNat
  have h2 := varB_le x.2.1.toNat
  have h3 := varB_le x.2.2.toNat
  simp only [krB, List.length_append]
  omega
open Classical in
noncomputable def chkK (c : Ck) : Int := if numsK c then if mappedP c ∧ rowedP c ∧ c.nt.length ≤ 16384 then if (stK c).length ≤ 65536 then 0 else 31 else 1 else 1
theorem chkK_of {c : Ck} (h1 : numsK c) (h2 : mappedP c) (h3 : rowedP c) (h4 : c.nt.length ≤ 16384) (h5 : (stK c).length ≤ 65536) : chkK c = 0 := by
  unfold chkK
  rw [if_pos h1, if_pos ⟨h2, h3, h4⟩, if_pos h5]
theorem bodK_len (c : Ck) : (bodK c).length ≤ 100 + 36 * c.m.length + 27 * c.r.length + c.nt.length := by
  have h1 := varB_le c.ep.toNat
  have h2 := varB_le c.sq.toNat
  have h3 := varB_le c.up.toNat
  have h4 := varB_le c.sz.toNat
  have h5 := varB_le c.m.length
  have h6 := varB_le c.r.length
  have h7 := flatMap_len ptB 36 c.m ptB_len
  have h8 := flatMap_len krB 27 c.r krB_len
  have h9 := textB_len c.nt
  have h0 := fixB_len c.k 8
  simp only [bodK, hkE, zCk, cntB, List.length_append]
  have : kdK.length = 4 := rfl
  omega
theorem stK_len (c : Ck) : (stK c).length = (bodK c).length + 4 := by unfold stK; rw [sealS_len]
theorem mappedP.rise {c : Ck} (h : mappedP c) : Rise 0 c.m := h.1.rise0
def PosE (x : Ext) : Prop := (0 ≤ x.a ∧ x.a ≤ 1099511693312) ∧ (0 ≤ x.n ∧ x.n ≤ 1099511693312) ∧ (0 ≤ x.q ∧ x.q ≤ 1099511693312) ∧ 0 ≤ x.p ∧ x.p ≤ 1099511693312
theorem posE_in {x : Ext} (h : inE x) : PosE x := by
  unfold inE at h
  unfold PosE
  omega
theorem Rise.pos {l : List Ext} {lo : Int} (h : Rise lo l) : ∀ x ∈ l, PosE x := fun x hx => posE_in (h.mem hx).1
theorem okR_of {c : Ck} (h : rowsN c c.r.length) (hn : numsK c) (hr : Rise 0 c.m) : ∀ x ∈ c.r, OkR x := fun x hx => by
  obtain ⟨i, hi⟩ := List.mem_iff_getElem?.1 hx
  have hil := lt_of_get hi
  have h1 := h i x hil hi
  have h2 := (rowsN.prev (c := c) (i := i) (fun j y hj hy => h j y (by omega) hy) (by omega)).1
  have h3 := liveN_top hr x.1
  unfold RowP at h1
  unfold numsK at hn
  unfold OkR
  omega
/-- As few extents as can be: what of a list is itself. -/
theorem few_self {l o : List Ext} (h : (ExtOK l l.length ∧ JnI 0 l l.length o) ∨ (¬ ExtOK l l.length ∧ o = [])) : o = l ↔ ExtOK l l.length ∧ NF l := by
  rcases h with ⟨h1, hJ⟩ | ⟨h1, rfl⟩
  · have hr := h1.rise0
    constructor
    · rintro rfl; exact ⟨h1, hJ.nf⟩
    · rintro ⟨_, hn⟩
      exact ext_unique o l hJ.rise hr hJ.nf hn (fun t s => by rw [hJ.at_, List.take_length])
  · constructor
    · rintro rfl; exact absurd (fun k x hk => by simp at hk) h1
    · rintro ⟨h, _⟩; exact absurd h h1
end Go.Lx
