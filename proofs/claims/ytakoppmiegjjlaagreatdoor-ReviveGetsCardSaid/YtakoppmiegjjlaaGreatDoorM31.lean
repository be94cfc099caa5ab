import Derived.Test.YtakoppmiegjjlaaGreatDoorM4
import Derived.Test.YtakoppmiegjjlaaGreatDoorM23
import Derived.Test.YtakoppmiegjjlaaGreatDoorM26
import Derived.Test.YtakoppmiegjjlaaGreatDoorM30
import Derived.Test.YtakoppmiegjjlaaGreatDoorM6
set_option linter.unusedVariables false
set_option linter.unusedSimpArgs false
set_option maxRecDepth 20000
set_option maxHeartbeats 4000000
namespace Go.Lx
open Go.Proofs
end Go.Lx
namespace Go.Lx
open Go.Proofs
abbrev Kr := Int × Int × Int
def encK1 (x : Kr) : List Value := [.int .i64 x.1, .int .i64 x.2.1, .int .i64 x.2.2]
def encK (xs : List Kr) : List Value := xs.flatMap encK1
theorem Rd.kr {w : World} {a : Option Addr} {n c m : Nat} {xs : List Kr} {x : Kr} (h : Rd w 3 a n c (encK xs)) (hx : xs[m]? = some x) : ∀ j u, [Value.int .i64 x.1, .int .i64 x.2.1, .int .i64 x.2.2][j]? = some u → w.cell? ((el a (m * 3)).add j) = some u := Rd.elem (f := encK1) h (fun _ => rfl) hx
theorem encK_snoc (xs : List Kr) (x : Kr) : encK xs ++ [.int .i64 x.1, .int .i64 x.2.1, .int .i64 x.2.2] = encK (xs ++ [x]) := by simp [encK, encK1]
structure Ck where
  k : Nat
  ep : Int
  sq : Int
  up : Int
  sz : Int
  m : List Ext
  r : List Kr
  nt : Bs
def zK : Ck := ⟨0, 0, 0, 0, 0, [], [], []⟩
def liveN : List Ext → Int → Int
  | [], _ => 0
  | x :: l, q => (if x.q = q then x.n else 0) + liveN l q
theorem liveN_append (q : Int) : ∀ l m : List Ext, liveN (l ++ m) q = liveN l q + liveN m q
  | [], m => by simp [liveN]
  | x :: l, m => by simp only [List.cons_append, liveN, liveN_append q l m]; omega
theorem liveN_take {l : List Ext} {i : Nat} {x : Ext} (h : l[i]? = some x) (q : Int) : liveN (l.take (i + 1)) q = liveN (l.take i) q + (if x.q = q then x.n else 0) := by
  rw [Qw h, liveN_append]; simp [liveN]
theorem liveN_bd (q : Int) : ∀ {l : List Ext} {lo : Int}, Rise lo l → 0 ≤ liveN l q ∧ lo + liveN l q ≤ endE lo l
  | [], lo, _ => by simp [liveN, endE]
  | x :: l, lo, h => by
    obtain ⟨h1, h2, h3⟩ := h
    have ih := liveN_bd q h3
    unfold inE at h2
    simp only [liveN, endE]
    split <;> omega
theorem liveN_top {l : List Ext} (h : Rise 0 l) (q : Int) : 0 ≤ liveN l q ∧ liveN l q ≤ 65536 := by
  have h1 := liveN_bd q h
  have h2 := h.endTop (by omega)
  omega
def prevK (l : List Kr) : Nat → Int
  | 0 => 0
  | i + 1 => match l[i]? with
    | some x => x.1
    | none => 0
theorem prevK_succ {l : List Kr} {i : Nat} {x : Kr} (h : l[i]? = some x) : prevK l (i + 1) = x.1 := by simp [prevK, h]
def RowP (c : Ck) (p : Int) (x : Kr) : Prop := p < x.1 ∧ x.1 ≤ c.sq ∧ 0 ≤ x.2.1 ∧ x.2.1 ≤ 65536 ∧ x.2.2 = liveN c.m x.1 ∧ x.2.2 ≤ x.2.1
def rowsN (c : Ck) (n : Nat) : Prop := ∀ i x, i < n → c.r[i]? = some x → RowP c (prevK c.r i) x
def inK (l : List Kr) (q : Int) : Prop := ∃ x ∈ l, x.1 = q
def hasK (c : Ck) : Prop := ∀ x ∈ c.m, inK c.r x.q
def rowedP (c : Ck) : Prop := rowsN c c.r.length ∧ hasK c
def mappedP (c : Ck) : Prop := ExtOK c.m c.m.length ∧ NF c.m ∧ ∀ x ∈ c.m, x.a + x.n ≤ c.sz
def numsK (c : Ck) : Prop := (1 ≤ c.ep ∧ c.ep < 1099511627776) ∧ (0 ≤ c.sq ∧ c.sq < 1099511627776) ∧ (0 ≤ c.up ∧ c.up < 1099511627776) ∧ 1 ≤ c.sz ∧ c.sz ≤ 65536
theorem rowsN.step {c : Ck} {i : Nat} {x : Kr} (h : rowsN c i) (hx : c.r[i]? = some x) (hp : RowP c (prevK c.r i) x) : rowsN c (i + 1) := fun j y hj hy => by
  rcases Nat.lt_or_ge j i with g | g
  · exact h j y g hy
  · obtain rfl : j = i := by omega
    rw [hx] at hy; cases hy; exact hp
theorem rowsN.prev {c : Ck} : ∀ {i : Nat}, rowsN c i → i ≤ c.r.length → 0 ≤ prevK c.r i ∧ ∀ q, inK (c.r.take i) q → 1 ≤ q ∧ q ≤ prevK c.r i
  | 0, _, _ => ⟨Int.le_refl _, fun q ⟨x, hx, _⟩ => by simp at hx⟩
  | i + 1, h, hi => by
    obtain ⟨x, hx⟩ := Qx (l := c.r) (k := i) hi
    obtain ⟨h1, h2⟩ := rowsN.prev (i := i) (fun j y hj hy => h j y (by omega) hy) (by omega)
    have hp := h i x (by omega) hx
    unfold RowP at hp
    rw [prevK_succ hx]
    refine ⟨by omega, fun q ⟨y, hy, hyq⟩ => ?_⟩
    rw [Qw hx] at hy
    rcases List.mem_append.1 hy with g | g
    · have := h2 q ⟨y, g, hyq⟩; omega
    · obtain rfl : y = x := by simpa using g
      omega
theorem rowsN.fresh {c : Ck} {i : Nat} {q : Int} (h : rowsN c i) (hi : i ≤ c.r.length) (hq : prevK c.r i < q) : ¬ inK (c.r.take i) q := fun g => by
  have := (h.prev hi).2 q g
  omega
def kdK : Bs := [67, 75, 80, 49]
def krB (x : Kr) : Bs := (varB x.1.toNat ++ varB x.2.1.toNat) ++ varB x.2.2.toNat
def OkR (x : Kr) : Prop := ((0 ≤ x.1 ∧ x.1 ≤ 1099511627776) ∧ (0 ≤ x.2.1 ∧ x.2.1 ≤ 1099511627776)) ∧ (0 ≤ x.2.2 ∧ x.2.2 ≤ 1099511627776)
abbrev Zk := ((((((Nat × Nat) × Nat) × Nat) × Nat) × List Ext) × List Kr) × Bs
def hkE (z : Zk) : Bs := ((((((fixB z.1.1.1.1.1.1.1 8 ++ varB z.1.1.1.1.1.1.2) ++ varB z.1.1.1.1.1.2) ++ varB z.1.1.1.1.2) ++ varB z.1.1.1.2) ++ cntB ptB z.1.1.2) ++ cntB krB z.1.2) ++ textB z.2
def zCk (c : Ck) : Zk := (((((((c.k, c.ep.toNat), c.sq.toNat), c.up.toNat), c.sz.toNat), c.m), c.r), c.nt)
def ckZ (z : Zk) : Ck := ⟨z.1.1.1.1.1.1.1, z.1.1.1.1.1.1.2, z.1.1.1.1.1.2, z.1.1.1.1.2, z.1.1.1.2, z.1.1.2, z.1.2, z.2⟩
def bodK (c : Ck) : Bs := kdK ++ hkE (zCk c)
def stK (c : Ck) : Bs := sealS (bodK c)
theorem krB_len (x : Kr) : (krB x).length ≤ 27 := by
  have h1 := Qv x.1.toNat
  have h2 := Qv x.2.1.toNat
  have h3 := Qv x.2.2.toNat
  simp only [krB, List.length_append]
  omega
open Classical in
noncomputable def chkK (c : Ck) : Int := if numsK c then if mappedP c ∧ rowedP c ∧ c.nt.length ≤ 16384 then if (stK c).length ≤ 65536 then 0 else 31 else 1 else 1
theorem chkK_of {c : Ck} (h1 : numsK c) (h2 : mappedP c) (h3 : rowedP c) (h4 : c.nt.length ≤ 16384) (h5 : (stK c).length ≤ 65536) : chkK c = 0 := by
  unfold chkK
  rw [if_pos h1, if_pos ⟨h2, h3, h4⟩, if_pos h5]
theorem bodK_len (c : Ck) : (bodK c).length ≤ 100 + 36 * c.m.length + 27 * c.r.length + c.nt.length := by
  have h1 := Qv c.ep.toNat
  have h2 := Qv c.sq.toNat
  have h3 := Qv c.up.toNat
  have h4 := Qv c.sz.toNat
  have h5 := Qv c.m.length
  have h6 := Qv c.r.length
  have h7 := flatMap_len ptB 36 c.m ptB_len
  have h8 := flatMap_len krB 27 c.r krB_len
  have h9 := textB_len c.nt
  have h0 := fixB_len c.k 8
  simp only [bodK, hkE, zCk, cntB, List.length_append]
  have : kdK.length = 4 := rfl
  omega
theorem stK_len (c : Ck) : (stK c).length = (bodK c).length + 4 := by unfold stK; rw [sealS_len]
theorem mappedP.rise {c : Ck} (h : mappedP c) : Rise 0 c.m := h.1.rise0
def PosE (x : Ext) : Prop := (0 ≤ x.a ∧ x.a ≤ 1099511693312) ∧ (0 ≤ x.n ∧ x.n ≤ 1099511693312) ∧ (0 ≤ x.q ∧ x.q ≤ 1099511693312) ∧ 0 ≤ x.p ∧ x.p ≤ 1099511693312
theorem posE_in {x : Ext} (h : inE x) : PosE x := by
  unfold inE at h
  unfold PosE
  omega
theorem Rise.pos {l : List Ext} {lo : Int} (h : Rise lo l) : ∀ x ∈ l, PosE x := fun x hx => posE_in (h.mem hx).1
theorem okR_of {c : Ck} (h : rowsN c c.r.length) (hn : numsK c) (hr : Rise 0 c.m) : ∀ x ∈ c.r, OkR x := fun x hx => by
  obtain ⟨i, hi⟩ := List.mem_iff_getElem?.1 hx
  have hil := lt_of_get hi
  have h1 := h i x hil hi
  have h2 := (rowsN.prev (c := c) (i := i) (fun j y hj hy => h j y (by omega) hy) (by omega)).1
  have h3 := liveN_top hr x.1
  unfold RowP at h1
  unfold numsK at hn
  unfold OkR
  omega
theorem few_self {l o : List Ext} (h : (ExtOK l l.length ∧ JnI 0 l l.length o) ∨ (¬ ExtOK l l.length ∧ o = [])) : o = l ↔ ExtOK l l.length ∧ NF l := by
  rcases h with ⟨h1, hJ⟩ | ⟨h1, rfl⟩
  · have hr := h1.rise0
    constructor
    · rintro rfl; exact ⟨h1, hJ.nf⟩
    · rintro ⟨_, hn⟩
      exact ext_unique o l hJ.rise hr hJ.nf hn (fun t s => by rw [hJ.at_, List.take_length])
  · constructor
    · rintro rfl; exact absurd (fun k x hk => by simp at hk) h1
    · rintro ⟨h, _⟩; exact absurd h h1
end Go.Lx
namespace Go.Lx
open Go.Proofs
instance : MpT Tryz.prog 240 3 3 := ⟨Tryz.underlying240⟩
instance : Zr Tryz.prog 3 (.int .i64 0) := Zr.mk' (by kernel_rfl)
theorem kNumber_spec (n f : Int) (w : World) : Spec Tryz.prog 87 #[.int .i64 n, .int .i64 f] w (fun _ => False) (fun v A => v = .bool (decide (f ≤ n ∧ n < 1099511627776)) ∧ A = []) := by
  refine Spec.enter (args := [.int .i64 n, .int .i64 f]) (A := []) Tryz.func87 rfl Tryz.ntmps87 rfl (fun _ h => h) ?_
  ((refine Qg (by kernel_rfl) ?_<;>repeat' first|refine Z.p rfl ?_|refine Qf ?_)<;>(refine Qg (by kernel_rfl) ?_<;>repeat' first|refine Z.p rfl ?_|(refine XL.at 2 ?_;(refine Z.cs rfl (fun h1 => ?_) (fun h1 => ?_)))|(refine XL.at 5 ?_;(refine Z.cs rfl (fun h2 => ?_) (fun h2 => ?_)))|refine Qf ?_)<;>(apply X.r1 Tryz.results87 (Qi rfl);(focus (first| exact ⟨by rw [decide_eq_true (show f ≤ n ∧ n < 1099511627776 from ⟨by omega, by omega⟩)], rfl⟩ | exact ⟨by rw [decide_eq_false (show ¬ (f ≤ n ∧ n < 1099511627776) from by omega)], rfl⟩));exact fun _=>Conf.takes))
theorem EqualE_spec (w : World) (a b : Option Addr) (c d : Nat) (l m : List Ext) (hl : Rd w 4 a l.length c (encE l)) (hm : Rd w 4 b m.length d (encE m)) :
    Spec Tryz.prog 160 #[.slice a l.length c, .slice b m.length d] w (fun _ => False) (fun v A => ∃ f : Bool, v = .bool f ∧ (f = true ↔ l = m) ∧ A = []) := by
  have hb1 := hl.bd'
  have hb2 := hm.bd'
  refine Spec.enter (args := [.slice a l.length c, .slice b m.length d]) (A := []) Tryz.func160 rfl Tryz.ntmps160 rfl (fun _ h => h) ?_
  ((refine Qg (by kernel_rfl) ?_<;>repeat' first|refine Z.p rfl ?_|refine Qf ?_)<;>refine X.seq ?_<;>((refine Qg (by kernel_rfl) ?_<;>repeat' first|refine Z.p rfl ?_|refine Z.ln rfl rfl ?_|refine Z.cs rfl (fun _=>?_) (fun _=>?_)|refine Qf ?_)<;>(refine Qj rfl ?_ ?_;rotate_left;(focus (intro hc;first|exact no_ hc rfl|(refine X.skip ?_)));rotate_right;(focus (intro hc;first|exact no_ hc rfl|((refine Qg (by kernel_rfl) ?_<;>repeat' first|refine Z.p rfl ?_|refine Qf ?_)<;>(apply X.r1 Tryz.results160 (Qi rfl);(focus (first| exact ⟨false, rfl, iff_of_false bF (fun e => by subst e; first| omega ), rfl⟩));exact fun _=>Conf.takes))))))<;>(first|refine N.next ?_<;>(refine X.seq ?_<;>((refine Qg (by kernel_rfl) ?_<;>repeat' first|refine Z.p rfl ?_|refine Z.ln rfl rfl ?_|refine Qf ?_)<;>refine X.block ?_<;>((refine Qu (ι := Nat) (fun i => [(0, .slice a l.length c), (1, .slice b m.length d), (12, .int .i64 l.length), (13, .int .i64 ((i : Nat) : Int))]) (fun _ => []) (fun i => i ≤ l.length ∧ l.take i = m.take i) (fun i => l.length - i) (0) ?_ ?_ ?_ ?_; (focus (exact ⟨Nat.zero_le _, rfl⟩)); (focus (repeat (first| exact Sub.nil | refine Sub.cons rfl ?_))); (focus (exact (fun w h => h.takes))); rintro i ⟨hi, ht⟩; (dsimp only at *)) <;> ((refine Qg (by kernel_rfl) ?_<;>repeat' first|(refine XL.at 0 ?_;(refine Z.cs rfl (fun h3 => ?_) (fun h3 => ?_)))|refine Qf ?_)<;>refine X.seq ?_<;>((refine Qj rfl ?_ ?_;rotate_left;(focus (intro hc;first|exact no_ hc rfl|(refine Qs ?_)));rotate_right;(focus (intro hc;first|exact no_ hc rfl|(refine X.skip ?_)))))<;>(first|refine Ex.then ?_|refine N.next ?_<;>(refine X.seq ?_<;>(refine X.block ?_<;>((refine Qg (by kernel_rfl) ?_<;>repeat' first|(refine XL.at 0 ?_;(have hil : i < l.length := (by omega); (obtain ⟨x, hx⟩ := Qx hil); (obtain ⟨y, hy⟩ := Qx (l := m) (k := i) (by omega)); refine Z.p rfl ?_))|refine Z.p rfl ?_|refine Qf ?_)<;>(refine X.sd (.a 0 (.a 1 (.a 2 (.b 3 (.a 4 (.a 5 (.a 6 (.b 7 (.a 8 .n))))))))) mixed (by kernel_rfl) ?_<;>repeat' first|refine Z.p rfl ?_|(refine XL.at 2 ?_;(refine Z.ix i rfl rfl rfl rfl hil (hl.sm (by omega)) ?_))|(refine XL.at 3 ?_;(refine Z.lb rfl rfl rfl (fun w hw j u hu => Rd.ext (hl.conf0 hw) hx j u hu) ?_))|(refine XL.at 6 ?_;(refine Z.ix i rfl rfl rfl rfl (by omega) (hm.sm (by omega)) ?_))|(refine XL.at 7 ?_;(refine Z.lb rfl rfl rfl (fun w hw j u hu => Rd.ext (hm.conf0 hw) hy j u hu) ?_))|(refine XL.at 8 ?_;((by_cases h4 : x.a = y.a ∧ x.n = y.n ∧ x.q = y.q ∧ x.p = y.p) <;> (first| refine XL.cmpF0 rfl rfl rfl rfl (D.neS4 rfl rfl rfl) (fun g => g h4) ?_ | refine XL.cmpT0 rfl rfl rfl rfl (D.neS4 rfl rfl rfl) h4 ?_)))|refine Qf ?_)<;>(refine Qj rfl ?_ ?_;rotate_left;(focus (intro hc;first|exact no_ hc rfl|(refine X.skip ?_)));rotate_right;(focus (intro hc;first|exact no_ hc rfl|((refine Qg (by kernel_rfl) ?_<;>repeat' first|refine Z.p rfl ?_|refine Qf ?_)<;>(apply X.r1 Tryz.results160 (Qi rfl);(focus (first| exact ⟨false, rfl, iff_of_false bF (fun e => by subst e; first| (rw [hx] at hy; cases hy; exact h4 ⟨rfl, rfl, rfl, rfl⟩)), rfl⟩));exact fun _=>Conf.takes))))))<;>(first|refine N.block ?_))<;>(first|refine N.next ?_<;>(refine X.tx (by kernel_rfl) ?_<;>repeat' first|refine Z.p rfl ?_|refine Z.g rfl (by omega) ?_|refine XL.nil ?_))))) <;> (first| refine Ex.then ?_ | ((refine Qp ((i + 1)) ?_ ?_ ?_ ?_; (focus (exact ⟨hil, by rw [Qw hx, Qw hy, ht, Ext.eq' h4.1 h4.2.1 h4.2.2.1 h4.2.2.2]⟩)); (focus (first| omega )); (focus (repeat (first| exact Sub.nil | refine Sub.cons rfl ?_))); exact (fun w h => h.takes)))))<;>(first|refine Qo ?_))<;>(first|refine N.next ?_<;>((refine Qg (by kernel_rfl) ?_<;>repeat' first|refine Z.p rfl ?_|refine Qf ?_)<;>(apply X.r1 Tryz.results160 (Qi rfl);(focus (first| exact ⟨true, rfl, iff_of_true rfl (by have e : i = l.length := (by omega); rw [List.take_of_length_le (by omega), List.take_of_length_le (by omega)] at ht; exact ht), rfl⟩ ));exact fun _=>Conf.takes))))))
theorem mapped1_spec (w : World) (g : Nat) (x : Ext) (cs : List Value) (sz : Int) (hg : w.cell? ⟨g, 4, none⟩ = some (.int .i64 sz)) (hx : -9223372036854775808 ≤ x.a + x.n ∧ x.a + x.n ≤ 9223372036854775807) : Spec Tryz.prog 162 #[.agg #[.int .i64 x.a, .int .i64 x.n, .int .i64 x.q, .int .i64 x.p], .pointer (some ⟨g, 0, none⟩)] w (fun _ => False) (fun v A => v = .bool (decide (sz < x.a + x.n)) ∧ A = []) := by
  refine Spec.enter (args := [.agg #[.int .i64 x.a, .int .i64 x.n, .int .i64 x.q, .int .i64 x.p], .pointer (some ⟨g, 0, none⟩)]) (A := []) Tryz.func162 rfl Tryz.ntmps162 rfl (fun _ h => h) ?_
  ((refine Qg (by kernel_rfl) ?_<;>repeat' first|refine Z.p rfl ?_|(refine XL.at 0 ?_;(refine Qt rfl rfl rfl rfl (by intro g; infer_instance) (fun g2 => ?_)))|refine Qf ?_)<;>(refine X.sd (.a 0 (.b 1 (.a 3 (.b 4 (.c 2 (.a 5 (.a 6 .n))))))) mixed (by kernel_rfl) ?_<;>repeat' first|refine Z.p rfl ?_|(refine XL.at 2 ?_;((refine XL.call rfl rfl rfl rfl (fun w hw => dEnd_spec (x.a, x.n) hx w) ?_; rintro v B' ⟨rfl, rfl⟩; refine Qh ?_)))|(refine XL.at 4 ?_;(refine Z.la rfl rfl (fun w hw => hw.cell0 hg (fun h => h)) ?_))|(refine XL.at 5 ?_;(refine Z.cs rfl (fun h1 => ?_) (fun h1 => ?_)))|refine Z.fa rfl rfl rfl ?_|refine Z.lP rfl rfl rfl ?_|refine Qf ?_)<;>(apply X.r1 Tryz.results162 (Qi rfl);(focus (first| exact ⟨by rw [decide_eq_true h1], rfl⟩ | exact ⟨by rw [decide_eq_false h1], rfl⟩));exact fun _=>Conf.takes))
theorem List.any_eq_false' {α : Type} {p : α → Bool} {l : List α} : l.any p = false ↔ ∀ x ∈ l, p x = false := by simp [List.any_eq_false]
theorem mapped_spec (w : World) (c : Ck) (a b : Option Addr) (n d : Nat) (hl : Rd w 4 a c.m.length n (encE c.m)) (hbd : c.m.length ≤ 1000000) : Spec Tryz.prog 88 #[.agg #[.int .u64 ((c.k : Nat) : Int), .int .i64 c.ep, .int .i64 c.sq, .int .i64 c.up, .int .i64 c.sz, .slice a c.m.length n, .slice b c.r.length d, .string ⟨List.toArray c.nt⟩]] w (fun _ => False) (fun v A => ∃ f : Bool, v = .bool f ∧ (f = true ↔ mappedP c) ∧ A = []) := by
  refine Spec.enter (args := [.agg #[.int .u64 ((c.k : Nat) : Int), .int .i64 c.ep, .int .i64 c.sq, .int .i64 c.up, .int .i64 c.sz, .slice a c.m.length n, .slice b c.r.length d, .string ⟨List.toArray c.nt⟩]]) (A := []) Tryz.func88 rfl Tryz.ntmps88 rfl (fun _ h => h) ?_
  ((refine Qg (by kernel_rfl) ?_<;>repeat' first|refine Z.p rfl ?_|(refine XL.at 0 ?_;(refine Qt rfl rfl rfl rfl (by intro g; infer_instance) (fun g1 => ?_)))|refine Qf ?_)<;>(refine X.sd (.a 0 (.b 1 (.a 3 (.b 4 (.c 2 (.c 5 (.a 6 (.a 7 (.b 8 (.a 9 (.c 10 (.a 11 (.a 12 (.a 13 .n)))))))))))))) mixed (by kernel_rfl) ?_<;>repeat' first|refine XL.skipC rfl rfl rfl rfl ?_|refine Z.p rfl ?_|(refine XL.at 2 ?_;((refine XL.call rfl rfl rfl rfl (fun w hw => FewE_spec w a n c.m (hl.conf0 hw) hbd) ?_; rintro v B' ⟨a2, c2, o, rfl, ho, rfl⟩; refine Qh ?_); have hfs := few_self ho))|(refine XL.at 5 ?_;((refine XL.call rfl rfl rfl rfl (fun w hw => EqualE_spec w a2 a c2 n o c.m (hw.rd (a := a2)) (hl.conf0 hw)) ?_; rintro v B' ⟨f, rfl, hf, rfl⟩; refine Qh ?_); cases f))|(refine XL.at 10 ?_;(have hE := hfs.1 (hf.1 rfl); (refine XL.call rfl rfl rfl rfl (fun w hw => ContainsFuncE_spec w a c.m.length n c.m (hl.conf0 hw) 162 [.pointer (some ⟨g1, 0, none⟩)] (fun x => decide (c.sz < x.a + x.n)) (fun x hx w' hw' => mapped1_spec w' g1 x [] c.sz ((hw'.cell0 (hw.cellAt (o := 4) (Loc.at_) rfl) (fun h => h))) (by have := (hE.1.rise0.mem hx).1; unfold inE at this; omega))) ?_; rintro v B' ⟨rfl, rfl⟩; refine Qh ?_); (cases hf2 : c.m.any (fun x : Ext => decide (c.sz < x.a + x.n)))))|refine Z.fa rfl rfl rfl ?_|refine Z.l1 rfl rfl rfl ?_|refine Z.mf rfl rfl rfl ?_|refine Qf ?_)<;>(apply X.r1 Tryz.results88 (Qi rfl);(focus (first| exact ⟨true, rfl, iff_of_true rfl ⟨hE.1, hE.2, fun x hx => by have := of_decide_eq_false (List.any_eq_false'.1 hf2 x hx); omega⟩, rfl⟩ | exact ⟨false, rfl, iff_of_false bF (fun h => by obtain ⟨x, hx, hz⟩ := List.any_eq_true.1 hf2; have := h.2.2 x hx; have := of_decide_eq_true hz; omega), rfl⟩ | exact ⟨false, rfl, iff_of_false bF (fun h => bF (hf.2 (hfs.2 ⟨h.1, h.2.1⟩))), rfl⟩));exact fun _=>Conf.takes))
theorem lives_spec (w : World) (c : Ck) (a b : Option Addr) (n d : Nat) (hl : Rd w 4 a c.m.length n (encE c.m)) (hr : Rise 0 c.m) : Spec Tryz.prog 149 #[.agg #[.int .u64 ((c.k : Nat) : Int), .int .i64 c.ep, .int .i64 c.sq, .int .i64 c.up, .int .i64 c.sz, .slice a c.m.length n, .slice b c.r.length d, .string ⟨List.toArray c.nt⟩]] w (fun _ => False)
    (fun v A => ∃ g L, v = .map (some g) ∧ (keyM L).Nodup ∧ (∀ q, getI L q = liveN c.m q) ∧ (∀ q, q ∈ keyM L ↔ ∃ x ∈ c.m, x.q = q) ∧ A = [mapA (Value.int .i64) g L]) := by
  have hbd := rise_len c.m 0 hr (by omega)
  refine Spec.enter (args := [.agg #[.int .u64 ((c.k : Nat) : Int), .int .i64 c.ep, .int .i64 c.sq, .int .i64 c.up, .int .i64 c.sz, .slice a c.m.length n, .slice b c.r.length d, .string ⟨List.toArray c.nt⟩]]) (A := []) Tryz.func149 rfl Tryz.ntmps149 rfl (fun _ h => h) ?_
  ((refine Qg (by kernel_rfl) ?_<;>repeat' first|refine Z.p rfl ?_|(refine XL.at 0 ?_;(refine Qt rfl rfl rfl rfl (by intro g; infer_instance) (fun g1 => ?_)))|refine Qf ?_)<;>(refine Qg (by kernel_rfl) ?_<;>repeat' first|refine Z.p rfl ?_|(refine XL.at 0 ?_;(refine XL.makeMap (Value.int .i64) rfl rfl rfl (fun _ => by infer_instance) (fun gm => ?_)))|refine Qf ?_)<;>refine X.seq ?_<;>((refine Qg (by kernel_rfl) ?_<;>repeat' first|refine Z.p rfl ?_|refine Z.fa rfl rfl rfl ?_|refine Z.l1 rfl rfl rfl ?_|refine Z.ln rfl rfl ?_|refine Qf ?_)<;>refine X.block ?_<;>((refine Qu (ι := Nat × List (Int × Int)) (fun y => [(3, .map (some gm)), (8, .slice a c.m.length n), (9, .int .i64 c.m.length), (10, .int .i64 ((y.1 : Nat) : Int))]) (fun y => [mapA (Value.int .i64) gm y.2]) (fun y => y.1 ≤ c.m.length ∧ (keyM y.2).Nodup ∧ (∀ q, getI y.2 q = liveN (c.m.take y.1) q) ∧ (∀ q, q ∈ keyM y.2 ↔ ∃ x ∈ c.m.take y.1, x.q = q)) (fun y => c.m.length - y.1) ((0, [])) ?_ ?_ ?_ ?_; (focus (exact ⟨Nat.zero_le _, List.nodup_nil, fun _ => rfl, fun q => by simp [keyM]⟩)); (focus (repeat (first| exact Sub.nil | refine Sub.cons rfl ?_))); (focus (exact (fun w h => h.takes))); rintro ⟨i, L⟩ ⟨hi, hN, hG, hK⟩; (dsimp only at *)) <;> ((refine Qg (by kernel_rfl) ?_<;>repeat' first|(refine XL.at 0 ?_;(refine Z.cs rfl (fun h3 => ?_) (fun h3 => ?_)))|refine Qf ?_)<;>refine X.seq ?_<;>((refine Qj rfl ?_ ?_;rotate_left;(focus (intro hc;first|exact no_ hc rfl|(refine Qs ?_)));rotate_right;(focus (intro hc;first|exact no_ hc rfl|(refine X.skip ?_)))))<;>(first|refine Ex.then ?_|refine N.next ?_<;>(refine X.seq ?_<;>(refine X.block ?_<;>((refine Qg (by kernel_rfl) ?_<;>repeat' first|(refine XL.at 0 ?_;(have hil : i < c.m.length := (by omega); (obtain ⟨x, hx⟩ := Qx hil); have hxi := (hr.mem (List.mem_of_getElem? hx)).1; unfold inE at hxi; have hlt := liveN_top (hr.take i) x.q; have hgx := hG x.q; refine Z.ix i rfl rfl rfl rfl hil (hl.sm (by omega)) ?_))|(refine XL.at 1 ?_;(refine Z.lb rfl rfl rfl (fun w hw j u hu => Rd.ext (hl.conf0 hw) hx j u hu) ?_))|refine XL.alloc rfl rfl rfl (by intro g; infer_instance) (fun g => ?_)|refine Qn rfl rfl rfl rfl rfl rfl ?_|refine Qf ?_)<;>refine X.tx (by kernel_rfl) ?_<;>repeat' first|refine Z.p rfl ?_|(refine XL.at 9 ?_;(refine XL.mapSet (getI L x.q + x.n) rfl rfl rfl rfl rfl ?_))|refine Z.fa rfl rfl rfl ?_|refine Z.l1 rfl rfl rfl ?_|refine Z.lkI rfl rfl rfl ?_|refine Z.g rfl (by omega) ?_|refine XL.nil ?_)<;>(first|refine N.block ?_))<;>(first|refine N.next ?_<;>(refine X.tx (by kernel_rfl) ?_<;>repeat' first|refine Z.p rfl ?_|refine Z.g rfl (by omega) ?_|refine XL.nil ?_))))) <;> (first| refine Ex.then ?_ | ((refine Qp ((i + 1, setM L x.q (getI L x.q + x.n))) ?_ ?_ ?_ ?_; (focus (exact ⟨hil, nodup_set _ _ L hN, fun q => by dsimp only; rw [liveN_take hx q]; unfold getI; rw [getM_set]; by_cases hq : q = x.q; (subst hq; rw [if_pos rfl, if_pos rfl, ← hG]; rfl); (rw [if_neg hq, if_neg (Ne.symm hq), ← hG q]; unfold getI; omega), fun q => by dsimp only; rw [key_set, hK, Qw hx]; simp only [List.mem_append, List.mem_singleton]; constructor; (rintro (rfl | ⟨y, hy, hq⟩); exact ⟨x, .inr rfl, rfl⟩; exact ⟨y, .inl hy, hq⟩); (rintro ⟨y, hy | rfl, hq⟩; exact .inr ⟨y, hy, hq⟩; exact .inl hq.symm)⟩)); (focus (first| omega )); (focus (repeat (first| exact Sub.nil | refine Sub.cons rfl ?_))); exact (fun w h => h.takes)))))<;>(first|refine Qo ?_))<;>(first|refine N.next ?_<;>((refine Qg (by kernel_rfl) ?_<;>repeat' first|refine Z.p rfl ?_|refine Qf ?_)<;>(apply X.r1 Tryz.results149 (Qi rfl);(focus (exact ⟨gm, L, rfl, hN, fun q => by rw [hG, List.take_of_length_le (by omega)], fun q => by rw [hK, List.take_of_length_le (by omega)], rfl⟩));exact fun _=>Conf.takes))))
end Go.Lx
