/- Texts Kk Kl Kh, merged: a claim has at most 60 files. -/
import Derived.Test.YtgmfmcammaighaaGreatM28
import Derived.Test.YtgmfmcammaighaaGreatM4
import Derived.Test.YtgmfmcammaighaaGreatM29
import Derived.Test.YtgmfmcammaighaaGreatM23
/- Which bytes are a state's: plain laws. -/
namespace Go.Lx
open Go.Proofs
set_option linter.unusedVariables false
set_option linter.unusedSimpArgs false

def krOf (z : (Nat × Nat) × Nat) : Kr := ((z.1.1 : Int), (z.1.2 : Int), (z.2 : Int))
def ofKr (x : Kr) : (Nat × Nat) × Nat := ((x.1.toNat, x.2.1.toNat), x.2.2.toNat)
theorem of_krOf (b : Kr) (h : OkR b) : (((ofKr b).1.1 ≤ 1099511627776 ∧ (ofKr b).1.2 ≤ 1099511627776) ∧ (ofKr b).2 ≤ 1099511627776) ∧ ((varB (ofKr b).1.1 ++ varB (ofKr b).1.2) ++ varB (ofKr b).2) = krB b ∧ krOf (ofKr b) = b := by
  obtain ⟨⟨h1, h2⟩, h3⟩ := h
  refine ⟨?_, rfl, ?_⟩
  · unfold ofKr; simp only; omega
  · unfold ofKr krOf; exact Prod.ext (by simp only; omega) (Prod.ext (by simp only; omega) (by simp only; omega))
theorem injKr : Inj krB OkR := ((injM.seq injM).seq injM).map krOf ofKr of_krOf
theorem injTx : Inj textB (fun s => s.length ≤ 16384) := ⟨fun a b c => (codText 16384 (by decide)).inj a b c⟩
def okK (z : Zk) : Prop := ((((((z.1.1.1.1.1.1.1 < 256 ^ 8 ∧ z.1.1.1.1.1.1.2 ≤ 1099511627776) ∧ z.1.1.1.1.1.2 ≤ 1099511627776) ∧ z.1.1.1.1.2 ≤ 1099511627776) ∧ z.1.1.1.2 ≤ 1099511627776) ∧ (z.1.1.2.length ≤ 65536 ∧ ∀ x ∈ z.1.1.2, OkP x)) ∧ (z.1.2.length ≤ 65536 ∧ ∀ x ∈ z.1.2, OkR x)) ∧ z.2.length ≤ 16384
theorem injK : Inj hkE okK :=
  have h8 : Inj (fun x => fixB x 8) (fun x => x < 256 ^ 8) := ⟨fun a b c => (codFix 8).inj a b c⟩
  ⟨fun {x y r q} hx hy hq => (((((((h8.seq injM).seq injM).seq injM).seq injM).seq (injPt.cnt (m := 65536) (by decide))).seq (injKr.cnt (m := 65536) (by decide))).seq injTx).inj hx hy hq⟩
/-- What Decode answers. -/
def DecK (s : Bs) (c : Ck) (e : Int) : Prop :=
  ((openS s).2 ≠ 0 ∧ e = (openS s).2 ∧ c = zK) ∨ ((openS s).2 = 0 ∧ (∀ r, (openS s).1 ≠ kdK ++ r) ∧ e = 14 ∧ c = zK) ∨
  (∃ r, (openS s).2 = 0 ∧ (openS s).1 = kdK ++ r ∧ (((∀ z, okK z → chkK (ckZ z) = 0 → r ≠ hkE z) ∧ e = 12 ∧ c = zK) ∨ ∃ z, okK z ∧ chkK (ckZ z) = 0 ∧ r = hkE z ∧ e = 0 ∧ c = ckZ z))
theorem DecK.unique {s : Bs} {c d : Ck} {e f : Int} (a : DecK s c e) (b : DecK s d f) : c = d ∧ e = f := by
  rcases a with ⟨a1, a2, a3⟩ | ⟨a1, a2, a3, a4⟩ | ⟨r, a1, a2, a3⟩ <;> rcases b with ⟨b1, b2, b3⟩ | ⟨b1, b2, b3, b4⟩ | ⟨q, b1, b2, b3⟩
  · exact ⟨a3.trans b3.symm, a2.trans b2.symm⟩
  · exact absurd b1 a1
  · exact absurd b1 a1
  · exact absurd a1 b1
  · exact ⟨a4.trans b4.symm, a3.trans b3.symm⟩
  · exact absurd b2 (a2 q)
  · exact absurd a1 b1
  · exact absurd a2 (b2 r)
  · obtain rfl : r = q := List.append_cancel_left (a2.symm.trans b2)
    rcases a3 with ⟨c1, c2, c3⟩ | ⟨z, c1, c2, c3, c4, c5⟩ <;> rcases b3 with ⟨d1, d2, d3⟩ | ⟨y, d1, d2, d3, d4, d5⟩
    · exact ⟨c3.trans d3.symm, c2.trans d2.symm⟩
    · exact absurd d3 (c1 y d1 d2)
    · exact absurd c3 (d1 z c1 c2)
    · obtain ⟨rfl, _⟩ := injK.inj (r := []) (q := []) c1 d1 (by rw [← c3, ← d3])
      exact ⟨c5.trans d5.symm, c4.trans d4.symm⟩
theorem DecK.few {s : Bs} {c : Ck} {e : Int} (h : DecK s c e) (he : e ≠ 0) : c = zK := by
  rcases h with ⟨_, _, h⟩ | ⟨_, _, _, h⟩ | ⟨r, _, _, ⟨_, _, h⟩ | ⟨z, _, _, _, h, _⟩⟩
  · exact h
  · exact h
  · exact h
  · exact absurd h he
end Go.Lx

/- Package ckpt's walks: what is read. -/
namespace Go.Lx
open Go.Proofs
set_option linter.unusedVariables false
set_option linter.unusedSimpArgs false
set_option maxRecDepth 20000
set_option maxHeartbeats 4000000
def c4 (L : List Nat) : List Value := L.map (fun x => Value.int .i64 ((x : Nat) : Int)) ++ List.replicate (4 - L.length) (.int .i64 0)
structure TQ where
  p : Nat
  e : Int
  L : List Nat
structure TM where
  p : Nat
  e : Int
  a : Option Addr
  c : Nat
  l : List Ext
structure TN where
  p : Nat
  e : Int
  a : Option Addr
  c : Nat
  l : List Kr
end Go.Lx

/- The document's answer for states: Check, Bytes. -/
namespace Go.Lx
open Go.Proofs
set_option linter.unusedVariables false
set_option linter.unusedSimpArgs false
set_option maxRecDepth 20000
set_option maxHeartbeats 4000000
theorem Rd.kA {w : World} {a : Option Addr} {n c m : Nat} {xs : List Kr} {x : Kr} (h : Rd w 3 a n c (encK xs)) (hx : xs[m]? = some x) : w.cell? (el a (m * 3)) = some (.int .i64 x.1) ∧ w.cell? (el a (m * 3 + 1)) = some (.int .i64 x.2.1) ∧ w.cell? (el a (m * 3 + 2)) = some (.int .i64 x.2.2) :=
  ⟨by have := h.kr hx 0 _ rfl; rwa [el_add] at this, by have := h.kr hx 1 _ rfl; rwa [el_add] at this, by have := h.kr hx 2 _ rfl; rwa [el_add] at this⟩
theorem rNumber14_spec (n f : Int) (w : World) : Spec Tryz.prog 58 #[.int .i64 n, .int .i64 f] w (fun _ => False) (fun v A => v = .bool (decide (f ≤ n ∧ n < 1099511627776)) ∧ A = []) := by
  refine Spec.enter (args := [.int .i64 n, .int .i64 f]) (A := []) Tryz.func58 rfl Tryz.ntmps58 rfl (fun _ h => h) ?_
  ((refine X.st (by kernel_rfl) ?_<;>repeat' first|refine Z.p rfl ?_|refine XL.nn ?_)<;>(refine X.st (by kernel_rfl) ?_<;>repeat' first|refine Z.p rfl ?_|(refine XL.at 2 ?_;(refine Z.cs rfl (fun h1 => ?_) (fun h1 => ?_)))|(refine XL.at 5 ?_;(refine Z.cs rfl (fun h2 => ?_) (fun h2 => ?_)))|refine Z.pk rfl rfl rfl rfl ?_|refine XL.nn ?_)<;>(apply X.r1 Tryz.results58 (RV.tmp rfl);(focus (first | exact ⟨by rw [decide_eq_true (show f ≤ n ∧ n < 1099511627776 from ⟨by omega, by omega⟩)], rfl⟩ | exact ⟨by rw [decide_eq_false (show ¬ (f ≤ n ∧ n < 1099511627776) from by omega)], rfl⟩));exact fun _=>Conf.takes))
theorem rFew14_spec (n : Int) (hn : 0 ≤ n ∧ n < 9223372036854775808) (w : World) : Spec Tryz.prog 64 #[.int .i64 n] w (fun _ => False) (fun v A => v = .string ⟨List.toArray (varB n.toNat)⟩ ∧ A = []) := by
  refine Spec.enter (args := [.int .i64 n]) (A := []) Tryz.func64 rfl Tryz.ntmps64 rfl (fun _ h => h) ?_
  ((refine X.st (by kernel_rfl) ?_<;>repeat' first|refine Z.p rfl ?_|refine XL.nn ?_)<;>(refine X.st (by kernel_rfl) ?_<;>repeat' first|refine Z.p rfl ?_|(refine XL.at 1 ?_;((apply XL.det0F rfl rfl rfl rfl; exact D.convI rfl hn)))|(refine XL.at 2 ?_;((refine XL.call rfl rfl rfl rfl (fun w hw => refVar_spec n.toNat (by omega) w) ?_; rintro v B' ⟨rfl, rfl⟩; refine XL.both ?_)))|refine XL.nn ?_)<;>(apply X.r1 Tryz.results64 (RV.tmp rfl);(focus (exact ⟨rfl, rfl⟩));exact fun _=>Conf.takes))
theorem rLives_spec (w : World) (a : Option Addr) (n : Nat) (l : List Ext) (q : Int) (hl : Rd w 4 a l.length n (encE l)) (hr : Rise 0 l) : Spec Tryz.prog 46 #[.slice a l.length n, .int .i64 q] w (fun _ => False) (fun v A => v = .int .i64 (liveN l q) ∧ A = []) := by
  have hbd := rise_len l 0 hr (by omega)
  refine Spec.enter (args := [.slice a l.length n, .int .i64 q]) (A := []) Tryz.func46 rfl Tryz.ntmps46 rfl (fun _ h => h) ?_
  ((refine X.st (by kernel_rfl) ?_<;>repeat' first|refine Z.p rfl ?_|refine XL.nn ?_)<;>(refine X.st (by kernel_rfl) ?_<;>repeat' first|refine Z.p rfl ?_|refine XL.nn ?_)<;>refine X.seq ?_<;>((refine X.st (by kernel_rfl) ?_<;>repeat' first|refine Z.p rfl ?_|refine XL.nn ?_)<;>refine X.block ?_<;>((refine X.loop (ι := Nat) (fun i => [(0, .slice a l.length n), (1, .int .i64 q), (5, .int .i64 (liveN (l.take i) q)), (6, .int .i64 ((i : Nat) : Int))]) (fun _ => []) (fun i => i ≤ l.length) (fun i => l.length - i) (0) ?_ ?_ ?_ ?_; (focus (exact Nat.zero_le _)); (focus (repeat (first | exact Sub.nil | refine Sub.cons rfl ?_))); (focus (exact (fun w h => h.takes))); rintro i hi; (dsimp only at *)) <;> (refine X.seq ?_<;>((refine X.st (by kernel_rfl) ?_<;>repeat' first|refine Z.p rfl ?_|(refine XL.at 3 ?_;(refine Z.cs rfl (fun h1 => ?_) (fun h1 => ?_)))|refine Z.ln rfl rfl ?_|refine Z.lnL rfl rfl ?_|refine Z.lnS rfl rfl ?_|refine XL.nn ?_)<;>(refine X.cond rfl ?_ ?_;rotate_left;(focus (intro hc;first|exact no_ hc rfl|(refine X.exit ?_)));rotate_right;(focus (intro hc;first|exact no_ hc rfl|(refine X.skip ?_)))))<;>(first|refine Ex.then ?_|refine N.next ?_<;>(refine X.seq ?_<;>(refine X.block ?_<;>((refine X.st (by kernel_rfl) ?_<;>repeat' first|refine Z.p rfl ?_|(refine XL.at 2 ?_;(have hil : i < l.length := (by omega); (obtain ⟨x, hx⟩ := get_lt hil); have hxi := (hr.mem (List.mem_of_getElem? hx)).1; unfold inE at hxi; have hlt := liveN_top (hr.take i) q; refine Z.ix i rfl rfl rfl rfl hil (hl.sm (by omega)) ?_))|(refine XL.at 5 ?_;(refine Z.la rfl rfl (fun w hw => (Rd.dA (hl.conf0 hw) hx).2.2.1) ?_))|(refine XL.at 7 ?_;(refine Z.cs rfl (fun h2 => ?_) (fun h2 => ?_)))|refine Z.fa rfl rfl rfl ?_|refine XL.nn ?_)<;>(refine X.cond rfl ?_ ?_;rotate_left;(focus (intro hc;first|exact no_ hc rfl|(refine X.skip ?_)));rotate_right;(focus (intro hc;first|exact no_ hc rfl|(refine X.tx (by kernel_rfl) ?_<;>repeat' first|refine Z.p rfl ?_|(refine XL.at 3 ?_;(refine Z.ix i rfl rfl rfl rfl hil (hl.sm (by omega)) ?_))|(refine XL.at 6 ?_;(refine Z.la rfl rfl (fun w hw => (Rd.dA (hl.conf0 hw) hx).2.1) ?_))|refine Z.fa rfl rfl rfl ?_|refine Z.g rfl (by omega) ?_|refine Z.w rfl ?_|refine XL.nil ?_)))))<;>(first|refine N.block ?_|refine Ex.here ?_|refine Ex.out rfl ?_))<;>(first|refine Ex.then ?_|refine N.next ?_<;>(refine X.tx (by kernel_rfl) ?_<;>repeat' first|(refine XL.at 0 ?_;((first | rw [show liveN (l.take i) q + x.n = liveN (l.take (i + 1)) q from by rw [liveN_take hx, if_pos h2]] | rw [show (Value.int IntKind.i64 (liveN (l.take i) q)) = .int .i64 (liveN (l.take (i + 1)) q) from by rw [liveN_take hx, if_neg h2, Int.add_zero]]); refine Z.p rfl ?_))|refine Z.p rfl ?_|refine Z.g rfl (by omega) ?_|refine Z.w rfl ?_|refine XL.nil ?_))))) <;> (first | refine Ex.then ?_ | ((refine N.again ((i + 1)) ?_ ?_ ?_ ?_; (focus (exact hil)); (focus (first | omega | (dsimp only; omega))); (focus (repeat (first | exact Sub.nil | refine Sub.cons rfl ?_))); exact (fun w h => h.takes)))))<;>(first|refine N.block ?_|refine Ex.here ?_|refine Ex.out rfl ?_))<;>(first|refine Ex.then ?_|refine N.next ?_<;>((refine X.st (by kernel_rfl) ?_<;>repeat' first|(refine XL.at 0 ?_;(rw [show l.take i = l from List.take_of_length_le (by omega)]; refine Z.p rfl ?_))|refine Z.p rfl ?_|refine XL.nn ?_)<;>(apply X.r1 Tryz.results46 (RV.tmp rfl);(focus (exact ⟨rfl, rfl⟩));exact fun _=>Conf.takes))))
/-- Extents that may be, rise, and are as few as can be: told one by one. -/
def mapN (c : Ck) (n : Nat) : Prop := ∀ k x, k < n → c.m[k]? = some x → mayE x ∧ x.a + x.n ≤ c.sz ∧ inK c.r x.q ∧ ∀ y, 0 < k → c.m[k - 1]? = some y → y.a + y.n ≤ x.a ∧ ¬ Fol y x
theorem nf_of : ∀ {l : List Ext}, (∀ k x y, l[k]? = some x → l[k + 1]? = some y → ¬ Fol x y) → NF l
  | [], _ => trivial
  | [_], _ => trivial
  | x :: y :: l, h => ⟨h 0 x y rfl rfl, nf_of (l := y :: l) (fun k a b ha hb => h (k + 1) a b (by simpa using ha) (by simpa using hb))⟩
theorem nf_idx : ∀ {l : List Ext} {k : Nat} {x y : Ext}, NF l → l[k]? = some x → l[k + 1]? = some y → ¬ Fol x y
  | [], _, _, _, _, h, _ => by simp at h
  | [_], _, _, _, _, _, h => by simp at h
  | a :: b :: l, 0, x, y, hn, hx, hy => by
    cases hx; cases hy; exact hn.1
  | a :: b :: l, k + 1, x, y, hn, hx, hy => nf_idx (l := b :: l) (k := k) hn.2 (by simpa using hx) (by simpa using hy)
theorem mapN_iff {c : Ck} : mapN c c.m.length ↔ mappedP c ∧ hasK c := by
  constructor
  · intro h
    refine ⟨⟨fun k x hk hx => ⟨(h k x hk hx).1, fun y h0 hy => ((h k x hk hx).2.2.2 y h0 hy).1⟩, nf_of (fun k x y hx hy => ((h (k + 1) y (lt_of_get hy) hy).2.2.2 x (Nat.succ_pos k) hx).2), fun x hx => ?_⟩, fun x hx => ?_⟩
    · obtain ⟨k, hk⟩ := List.mem_iff_getElem?.1 hx
      exact (h k x (lt_of_get hk) hk).2.1
    · obtain ⟨k, hk⟩ := List.mem_iff_getElem?.1 hx
      exact (h k x (lt_of_get hk) hk).2.2.1
  · rintro ⟨⟨h1, h2, h3⟩, h4⟩ k x hk hx
    refine ⟨(h1 k x hk hx).1, h3 x (List.mem_of_getElem? hx), h4 x (List.mem_of_getElem? hx), fun y h0 hy => ⟨(h1 k x hk hx).2 y h0 hy, ?_⟩⟩
    obtain ⟨j, rfl⟩ : ∃ j, k = j + 1 := ⟨k - 1, by omega⟩
    exact nf_idx h2 hy hx
theorem mapN.step {c : Ck} {n : Nat} {x : Ext} (h : mapN c n) (hx : c.m[n]? = some x) (hm : mayE x) (h1 : x.a + x.n ≤ c.sz) (h2 : inK c.r x.q) (h3 : ∀ y, 0 < n → c.m[n - 1]? = some y → y.a + y.n ≤ x.a ∧ ¬ Fol y x) : mapN c (n + 1) := fun k y hk hy => by
  rcases Nat.lt_or_ge k n with g | g
  · exact h k y g hy
  · obtain rfl : k = n := by omega
    rw [hx] at hy; cases hy
    exact ⟨hm, h1, h2, h3⟩
theorem rMapped_spec (w : World) (c : Ck) (a b : Option Addr) (n d : Nat) (hl : Rd w 4 a c.m.length n (encE c.m)) (hrw : Rd w 3 b c.r.length d (encK c.r)) : Spec Tryz.prog 59 #[.agg #[.int .u64 ((c.k : Nat) : Int), .int .i64 c.ep, .int .i64 c.sq, .int .i64 c.up, .int .i64 c.sz, .slice a c.m.length n, .slice b c.r.length d, .string ⟨List.toArray c.nt⟩]] w (fun _ => False) (fun v A => ∃ f : Bool, v = .bool f ∧ (f = true ↔ mappedP c ∧ hasK c) ∧ A = []) := by
  have hbd := hl.bd'
  have hbd2 := hrw.bd'
  refine Spec.enter (args := [.agg #[.int .u64 ((c.k : Nat) : Int), .int .i64 c.ep, .int .i64 c.sq, .int .i64 c.up, .int .i64 c.sz, .slice a c.m.length n, .slice b c.r.length d, .string ⟨List.toArray c.nt⟩]]) (A := []) Tryz.func59 rfl Tryz.ntmps59 rfl (fun _ h => h) ?_
  ((refine X.st (by kernel_rfl) ?_<;>repeat' first|refine Z.p rfl ?_|(refine XL.at 0 ?_;(refine XL.boxN rfl rfl rfl rfl (by intro g; infer_instance) (fun g1 => ?_)))|refine XL.nn ?_)<;>refine X.seq ?_<;>((refine X.st (by kernel_rfl) ?_<;>repeat' first|refine Z.p rfl ?_|refine XL.nn ?_)<;>refine X.block ?_<;>((refine X.loop (ι := Nat) (fun i => [(1, .pointer (some ⟨g1, 0, none⟩)), (3, .int .i64 ((i : Nat) : Int))]) (fun i => [cells g1 [.int .u64 ((c.k : Nat) : Int), .int .i64 c.ep, .int .i64 c.sq, .int .i64 c.up, .int .i64 c.sz, .slice a c.m.length n, .slice b c.r.length d, .string ⟨List.toArray c.nt⟩] 36]) (fun i => i ≤ c.m.length ∧ mapN c i) (fun i => c.m.length - i) (0) ?_ ?_ ?_ ?_; (focus (exact ⟨Nat.zero_le _, fun _ _ h => by omega⟩)); (focus (repeat (first | exact Sub.nil | refine Sub.cons rfl ?_))); (focus (exact (fun w h => h.takes))); rintro i ⟨hi, hN⟩; (dsimp only at *)) <;> (refine X.seq ?_<;>((refine X.st (by kernel_rfl) ?_<;>repeat' first|refine Z.p rfl ?_|(refine XL.at 4 ?_;(refine Z.cs rfl (fun h1 => ?_) (fun h1 => ?_)))|refine Z.fa rfl rfl rfl ?_|refine Z.l1 rfl rfl rfl ?_|refine Z.lN rfl rfl rfl ?_|refine Z.lP rfl rfl rfl ?_|refine Z.ln rfl rfl ?_|refine Z.lnL rfl rfl ?_|refine Z.lnS rfl rfl ?_|refine XL.nn ?_)<;>(refine X.cond rfl ?_ ?_;rotate_left;(focus (intro hc;first|exact no_ hc rfl|(refine X.exit ?_)));rotate_right;(focus (intro hc;first|exact no_ hc rfl|(refine X.skip ?_)))))<;>(first|refine Ex.then ?_|refine N.next ?_<;>(refine X.seq ?_<;>(refine X.block ?_<;>((refine X.st (by kernel_rfl) ?_<;>repeat' first|refine Z.p rfl ?_|(refine XL.at 3 ?_;(have hil : i < c.m.length := (by omega); (obtain ⟨x, hx⟩ := get_lt hil); refine Z.ix i rfl rfl rfl rfl hil (hl.sm (by omega)) ?_))|(refine XL.at 4 ?_;(refine Z.lb rfl rfl rfl (fun w hw j u hu => Rd.ext (hl.conf0 hw) hx j u hu) ?_))|(refine XL.at 5 ?_;(refine XL.alloc rfl rfl rfl (by intro g; infer_instance) (fun g4 => ?_)))|refine Z.fa rfl rfl rfl ?_|refine Z.l1 rfl rfl rfl ?_|refine Z.lN rfl rfl rfl ?_|refine Z.lP rfl rfl rfl ?_|refine XL.store1 rfl rfl rfl rfl rfl ?_|refine XL.storeN rfl rfl rfl rfl rfl rfl ?_|refine XL.storeP rfl rfl rfl rfl rfl rfl ?_|refine XL.nn ?_)<;>refine X.seq ?_<;>((refine X.st (by kernel_rfl) ?_<;>repeat' first|refine Z.p rfl ?_|(refine XL.at 1 ?_;((refine XL.call rfl rfl rfl rfl (fun w hw => refMayE_spec x w) ?_; rintro v B' ⟨rfl, rfl⟩; refine XL.both ?_); (by_cases hm : mayE x <;> first | rw [decide_eq_true hm] | rw [decide_eq_false hm])))|(refine XL.at 10 ?_;(have hms := hm.1; unfold mayS at hms; dsimp only at hms; refine Z.g rfl (by omega) ?_))|(refine XL.at 13 ?_;(refine Z.cs rfl (fun h2 => ?_) (fun h2 => ?_)))|refine Z.l1 rfl rfl rfl ?_|refine Z.lN rfl rfl rfl ?_|refine Z.lP rfl rfl rfl ?_|refine Z.fa rfl rfl rfl ?_|refine Z.pk rfl rfl rfl rfl ?_|refine XL.nn ?_)<;>(refine X.cond rfl ?_ ?_;rotate_left;(focus (intro hc;first|exact no_ hc rfl|(refine X.skip ?_)));rotate_right;(focus (intro hc;first|exact no_ hc rfl|((refine X.st (by kernel_rfl) ?_<;>repeat' first|refine Z.p rfl ?_|refine XL.nn ?_)<;>(apply X.r1 Tryz.results59 (RV.tmp rfl);(focus (first | exact ⟨true, rfl, iff_of_true rfl (mapN_iff.1 (by have e : i = c.m.length := (by omega); rw [e] at hN; exact hN)), rfl⟩ | exact ⟨false, rfl, iff_of_false Bool.false_ne_true (fun h => by obtain ⟨q1, q2, q3, q4⟩ := mapN_iff.2 h i x hil hx; first | exact hm q1 | (exfalso; omega) | exact Bool.false_ne_true (hB.2 q3) | (obtain ⟨q5, q6⟩ := q4 y (by omega) hy; first | (exfalso; omega) | exact q6 ⟨by omega, h6.1.symm, h6.2.symm⟩)), rfl⟩));exact fun _=>Conf.takes))))))<;>(first|refine Ex.then ?_|refine N.next ?_<;>(refine X.seq ?_<;>((refine X.st (by kernel_rfl) ?_<;>repeat' first|refine Z.p rfl ?_|(refine XL.at 1 ?_;(refine Z.cs rfl (fun h3 => ?_) (fun h3 => ?_)))|refine XL.nn ?_)<;>(refine X.cond rfl ?_ ?_;rotate_left;(focus (intro hc;first|exact no_ hc rfl|(refine X.skip ?_)));rotate_right;(focus (intro hc;first|exact no_ hc rfl|((refine X.st (by kernel_rfl) ?_<;>repeat' first|refine Z.p rfl ?_|(refine XL.at 4 ?_;(have hpl : i - 1 < c.m.length := (by omega); (obtain ⟨y, hy⟩ := get_lt hpl); have hyn := (hN (i - 1) y (by omega) hy).1; have hys := hyn.1; have hyp := hyn.2; unfold mayS at hys; unfold plS at hyp; dsimp only at hys; refine Z.ix (i - 1) rfl rfl rfl (by omega) hpl (hl.sm (by omega)) ?_))|(refine XL.at 5 ?_;(refine Z.lb rfl rfl rfl (fun w hw j u hu => Rd.ext (hl.conf0 hw) hy j u hu) ?_))|(refine XL.at 6 ?_;(refine XL.alloc rfl rfl rfl (by intro g; infer_instance) (fun g5 => ?_)))|refine Z.fa rfl rfl rfl ?_|refine Z.l1 rfl rfl rfl ?_|refine Z.lN rfl rfl rfl ?_|refine Z.lP rfl rfl rfl ?_|refine Z.g rfl (by omega) ?_|refine Z.w rfl ?_|refine XL.store1 rfl rfl rfl rfl rfl ?_|refine XL.storeN rfl rfl rfl rfl rfl rfl ?_|refine XL.storeP rfl rfl rfl rfl rfl rfl ?_|refine XL.nn ?_)<;>(refine X.st (by kernel_rfl) ?_<;>repeat' first|refine Z.p rfl ?_|refine Z.fa rfl rfl rfl ?_|refine Z.l1 rfl rfl rfl ?_|refine Z.lN rfl rfl rfl ?_|refine Z.lP rfl rfl rfl ?_|refine Z.g rfl (by omega) ?_|refine Z.w rfl ?_|refine XL.nn ?_)<;>(refine X.st (by kernel_rfl) ?_<;>repeat' first|refine Z.p rfl ?_|(refine XL.at 4 ?_;(refine Z.cs rfl (fun h4 => ?_) (fun h4 => ?_)))|(refine XL.at 10 ?_;(refine Z.cs rfl (fun h5 => ?_) (fun h5 => ?_)))|(refine XL.at 25 ?_;(refine Z.eq2 rfl rfl rfl (fun h6 => ?_) (fun h6 => ?_)))|refine Z.fa rfl rfl rfl ?_|refine Z.l1 rfl rfl rfl ?_|refine Z.lN rfl rfl rfl ?_|refine Z.lP rfl rfl rfl ?_|refine Z.g rfl (by omega) ?_|refine Z.w rfl ?_|refine Z.bd rfl rfl ?_|refine Z.pk rfl rfl rfl rfl ?_|refine XL.nn ?_)<;>(refine X.cond rfl ?_ ?_;rotate_left;(focus (intro hc;first|exact no_ hc rfl|(refine X.skip ?_)));rotate_right;(focus (intro hc;first|exact no_ hc rfl|((refine X.st (by kernel_rfl) ?_<;>repeat' first|refine Z.p rfl ?_|refine XL.nn ?_)<;>(apply X.r1 Tryz.results59 (RV.tmp rfl);(focus (first | exact ⟨true, rfl, iff_of_true rfl (mapN_iff.1 (by have e : i = c.m.length := (by omega); rw [e] at hN; exact hN)), rfl⟩ | exact ⟨false, rfl, iff_of_false Bool.false_ne_true (fun h => by obtain ⟨q1, q2, q3, q4⟩ := mapN_iff.2 h i x hil hx; first | exact hm q1 | (exfalso; omega) | exact Bool.false_ne_true (hB.2 q3) | (obtain ⟨q5, q6⟩ := q4 y (by omega) hy; first | (exfalso; omega) | exact q6 ⟨by omega, h6.1.symm, h6.2.symm⟩)), rfl⟩));exact fun _=>Conf.takes))))))))))<;>(first|refine Ex.then ?_|refine N.next ?_<;>((refine X.st (by kernel_rfl) ?_<;>repeat' first|(refine XL.at 0 ?_;(have hxy : ∀ y, 0 < i → c.m[i - 1]? = some y → y.a + y.n ≤ x.a ∧ ¬ Fol y x := (fun y' h0 hy' => by first | omega | (rw [hy] at hy'; cases hy'; exact ⟨by omega, fun g => by unfold Fol at g; first | omega | exact h6 ⟨g.2.1.symm, g.2.2.symm⟩⟩)); refine Z.p rfl ?_))|refine XL.nn ?_)<;>refine X.seq ?_<;>((refine X.st (by kernel_rfl) ?_<;>repeat' first|refine Z.p rfl ?_|refine XL.nn ?_)<;>refine X.block ?_<;>((refine X.loop (ι := Nat × Bool) (fun y => [(1, .pointer (some ⟨g1, 0, none⟩)), (3, .int .i64 ((i : Nat) : Int)), (4, .pointer (some ⟨g4, 0, none⟩)), (7, .bool y.2), (8, .int .i64 ((y.1 : Nat) : Int))]) (fun y => [cells g4 [.int .i64 x.a, .int .i64 x.n, .int .i64 x.q, .int .i64 x.p] 63, cells g1 [.int .u64 ((c.k : Nat) : Int), .int .i64 c.ep, .int .i64 c.sq, .int .i64 c.up, .int .i64 c.sz, .slice a c.m.length n, .slice b c.r.length d, .string ⟨List.toArray c.nt⟩] 36]) (fun y => y.1 ≤ c.r.length ∧ (y.2 = true ↔ inK (c.r.take y.1) x.q)) (fun y => c.r.length - y.1) ((0, false)) ?_ ?_ ?_ ?_; (focus (exact ⟨Nat.zero_le _, iff_of_false Bool.false_ne_true (fun ⟨z, hz, _⟩ => by simp at hz)⟩)); (focus (repeat (first | exact Sub.nil | refine Sub.cons rfl ?_))); (focus (exact (fun w h => h.takes))); rintro ⟨k, hb⟩ ⟨hk, hB⟩; (dsimp only at *)) <;> (refine X.seq ?_<;>((refine X.st (by kernel_rfl) ?_<;>repeat' first|refine Z.p rfl ?_|(refine XL.at 4 ?_;(refine Z.cs rfl (fun h7 => ?_) (fun h7 => ?_)))|refine Z.fa rfl rfl rfl ?_|refine Z.l1 rfl rfl rfl ?_|refine Z.lN rfl rfl rfl ?_|refine Z.lP rfl rfl rfl ?_|refine Z.ln rfl rfl ?_|refine Z.lnL rfl rfl ?_|refine Z.lnS rfl rfl ?_|refine XL.nn ?_)<;>(refine X.cond rfl ?_ ?_;rotate_left;(focus (intro hc;first|exact no_ hc rfl|(refine X.exit ?_)));rotate_right;(focus (intro hc;first|exact no_ hc rfl|(refine X.skip ?_)))))<;>(first|refine Ex.then ?_|refine N.next ?_<;>(refine X.seq ?_<;>(refine X.block ?_<;>(refine X.draw (.a 0 (.a 1 (.a 2 (.b 3 (.a 4 (.a 5 (.a 6 (.b 7 (.a 8 (.a 9 (.b 10 (.a 11 (.a 12 (.a 13 .n)))))))))))))) mixed (by kernel_rfl) ?_<;>repeat' first|(refine XL.at 0 ?_;(have hkl : k < c.r.length := (by omega); (obtain ⟨z, hz⟩ := get_lt hkl); (cases hb) <;> refine Z.p rfl ?_))|refine Z.p rfl ?_|(refine XL.at 5 ?_;(refine Z.ix k rfl rfl rfl rfl hkl (hrw.sm (by omega)) ?_))|(refine XL.at 7 ?_;(refine Z.la rfl rfl (fun w hw => (Rd.kA (hrw.conf0 hw) hz).1) ?_))|(refine XL.at 11 ?_;(refine Z.cs rfl (fun h8 => ?_) (fun h8 => ?_)))|refine Z.fa rfl rfl rfl ?_|refine Z.l1 rfl rfl rfl ?_|refine Z.lN rfl rfl rfl ?_|refine Z.lP rfl rfl rfl ?_|refine Z.pk rfl rfl rfl rfl ?_|refine XL.nil ?_)<;>(first|refine N.block ?_|refine Ex.here ?_|refine Ex.out rfl ?_))<;>(first|refine Ex.then ?_|refine N.next ?_<;>(refine X.tx (by kernel_rfl) ?_<;>repeat' first|refine Z.p rfl ?_|refine Z.g rfl (by omega) ?_|refine Z.w rfl ?_|refine XL.nil ?_))))) <;> (first | refine Ex.then ?_ | (first | (refine N.again ((k + 1, true)) ?_ ?_ ?_ ?_; (focus (exact ⟨hkl, iff_of_true rfl (by dsimp only; (obtain ⟨z', hz', hq⟩ | hq : inK (c.r.take k) x.q ∨ z.1 = x.q := (by first | exact .inl (hB.1 rfl) | exact .inr h8)); exact ⟨z', by rw [take_snocE hz]; exact List.mem_append_left _ hz', hq⟩; exact ⟨z, by rw [take_snocE hz]; simp, hq⟩)⟩)); (focus (first | omega | (dsimp only; omega))); (focus (repeat (first | exact Sub.nil | refine Sub.cons rfl ?_))); exact (fun w h => h.takes)) | (refine N.again ((k + 1, false)) ?_ ?_ ?_ ?_; (focus (exact ⟨hkl, iff_of_false Bool.false_ne_true (fun ⟨z', hz', hq⟩ => by dsimp only at hz'; rw [take_snocE hz] at hz'; rcases List.mem_append.1 hz' with g | g; exact Bool.false_ne_true (hB.2 ⟨z', g, hq⟩); (obtain rfl : z' = z := (by simpa using g)); exact h8 hq)⟩)); (focus (first | omega | (dsimp only; omega))); (focus (repeat (first | exact Sub.nil | refine Sub.cons rfl ?_))); exact (fun w h => h.takes)))))<;>(first|refine N.block ?_|refine Ex.here ?_|refine Ex.out rfl ?_))<;>(first|refine Ex.then ?_|refine N.next ?_<;>((refine X.st (by kernel_rfl) ?_<;>repeat' first|(refine XL.at 0 ?_;(have hke : k = c.r.length := (by omega); rw [hke, List.take_length] at hB; (cases hb) <;> refine Z.p rfl ?_))|refine Z.p rfl ?_|refine XL.nn ?_)<;>(refine X.cond rfl ?_ ?_;rotate_left;(focus (intro hc;first|exact no_ hc rfl|(refine X.skip ?_)));rotate_right;(focus (intro hc;first|exact no_ hc rfl|((refine X.st (by kernel_rfl) ?_<;>repeat' first|refine Z.p rfl ?_|refine XL.nn ?_)<;>(apply X.r1 Tryz.results59 (RV.tmp rfl);(focus (first | exact ⟨true, rfl, iff_of_true rfl (mapN_iff.1 (by have e : i = c.m.length := (by omega); rw [e] at hN; exact hN)), rfl⟩ | exact ⟨false, rfl, iff_of_false Bool.false_ne_true (fun h => by obtain ⟨q1, q2, q3, q4⟩ := mapN_iff.2 h i x hil hx; first | exact hm q1 | (exfalso; omega) | exact Bool.false_ne_true (hB.2 q3) | (obtain ⟨q5, q6⟩ := q4 y (by omega) hy; first | (exfalso; omega) | exact q6 ⟨by omega, h6.1.symm, h6.2.symm⟩)), rfl⟩));exact fun _=>Conf.takes))))))))))))<;>(first|refine N.block ?_|refine Ex.here ?_|refine Ex.out rfl ?_))<;>(first|refine Ex.then ?_|refine N.next ?_<;>(refine X.tx (by kernel_rfl) ?_<;>repeat' first|refine Z.p rfl ?_|refine Z.g rfl (by omega) ?_|refine Z.w rfl ?_|refine XL.nil ?_))))) <;> (first | refine Ex.then ?_ | ((refine N.again ((i + 1)) ?_ ?_ ?_ ?_; (focus (exact ⟨hil, hN.step hx hm (by omega) (hB.1 rfl) hxy⟩)); (focus (first | omega | (dsimp only; omega))); (focus (repeat (first | exact Sub.nil | refine Sub.cons rfl ?_))); exact (fun w h => h.takes)))))<;>(first|refine N.block ?_|refine Ex.here ?_|refine Ex.out rfl ?_))<;>(first|refine Ex.then ?_|refine N.next ?_<;>((refine X.st (by kernel_rfl) ?_<;>repeat' first|refine Z.p rfl ?_|refine XL.nn ?_)<;>(apply X.r1 Tryz.results59 (RV.tmp rfl);(focus (first | exact ⟨true, rfl, iff_of_true rfl (mapN_iff.1 (by have e : i = c.m.length := (by omega); rw [e] at hN; exact hN)), rfl⟩ | exact ⟨false, rfl, iff_of_false Bool.false_ne_true (fun h => by obtain ⟨q1, q2, q3, q4⟩ := mapN_iff.2 h i x hil hx; first | exact hm q1 | (exfalso; omega) | exact Bool.false_ne_true (hB.2 q3) | (obtain ⟨q5, q6⟩ := q4 y (by omega) hy; first | (exfalso; omega) | exact q6 ⟨by omega, h6.1.symm, h6.2.symm⟩)), rfl⟩));exact fun _=>Conf.takes))))
end Go.Lx
