/- Texts Qe Fd Ff, merged: a claim has at most 60 files. -/
import Derived.Test.YtakoppmiegjjlaaGreatDoorM21
import Derived.Test.YtakoppmiegjjlaaGreatDoorM4
import Derived.Test.YtakoppmiegjjlaaGreatDoorM27
/- Plain laws for the statements on maps: extents that rise and may be; the chapter's example. -/
namespace Go.Lx
set_option linter.unusedVariables false
set_option linter.unusedSimpArgs false

def ExtOK (l : List Ext) (n : Nat) : Prop := ∀ k x, k < n → l[k]? = some x → mayE x ∧ ∀ y, 0 < k → l[k - 1]? = some y → y.a + y.n ≤ x.a
theorem ExtOK.step {l : List Ext} {k : Nat} {x : Ext} (h : ExtOK l k) (hx : l[k]? = some x) (hm : mayE x) (hy : ∀ y, 0 < k → l[k - 1]? = some y → y.a + y.n ≤ x.a) : ExtOK l (k + 1) := by
  intro j z hj hz
  rcases Nat.lt_or_ge j k with h1 | h1
  · exact h j z h1 hz
  · obtain rfl : j = k := by omega
    rw [hx] at hz; cases hz
    exact ⟨hm, hy⟩
theorem ExtOK.le {l : List Ext} {n m : Nat} (h : ExtOK l n) (hm : m ≤ n) : ExtOK l m := fun k x hk => h k x (by omega)
theorem ExtOK.tail {x : Ext} {l : List Ext} (h : ExtOK (x :: l) (l.length + 1)) : ExtOK l l.length := fun k y hk hy => by
  have h1 := h (k + 1) y (by omega) (by simpa using hy)
  refine ⟨h1.1, fun z hz0 hz => h1.2 z (by omega) ?_⟩
  rw [show k + 1 - 1 = (k - 1) + 1 by omega]
  simpa using hz
theorem ExtOK.rise : ∀ {l : List Ext} {lo : Int}, ExtOK l l.length → (∀ x, l[0]? = some x → lo ≤ x.a) → Rise lo l
  | [], _, _, _ => trivial
  | x :: l, lo, h, h0 => by
    have hx := h 0 x (by simp) rfl
    refine ⟨h0 x rfl, hx.1.inE, ExtOK.rise (ExtOK.tail h) (fun y hy => ?_)⟩
    exact (h 1 y (by have := lt_of_get hy; simp; omega) (by simpa using hy)).2 x (by omega) rfl
theorem ExtOK.rise0 {l : List Ext} (h : ExtOK l l.length) : Rise 0 l := h.rise (fun x hx => by
  have := (h 0 x (lt_of_get hx) hx).1
  unfold mayE mayS at this
  exact this.1.1)
theorem ExtOK.may {l : List Ext} (h : ExtOK l l.length) : ∀ x ∈ l, mayE x := fun x hx => by
  obtain ⟨k, hk⟩ := List.mem_iff_getElem?.1 hx
  exact (h k x (lt_of_get hk) hk).1
/-! ### the chapter's example -/
def eA : Ext := ⟨0, 4, 5, 0⟩
def eB : Ext := ⟨1, 2, 7, 9⟩
end Go.Lx

/- The statements on maps: their helpers, the chapter's example, and the first statement. -/
namespace Go.Lx
open Go.Proofs
set_option linter.unusedVariables false
set_option linter.unusedSimpArgs false
set_option maxRecDepth 20000
set_option maxHeartbeats 4000000




theorem FewE_spec (w : World) (a : Option Addr) (c : Nat) (l : List Ext) (hl : Rd w 4 a l.length c (encE l)) (hbd : l.length ≤ 1000000) :
    Spec Tryz.prog 161 #[.slice a l.length c] w (fun _ => False) (fun v A => ∃ a' c' o, v = .slice a' (List.length o) c' ∧ ((ExtOK l l.length ∧ JnI 0 l l.length o) ∨ (¬ ExtOK l l.length ∧ o = [])) ∧ A = [own 105 4 (.slice a' (List.length o) c') (List.length o) (encE o)]) := by
  refine Spec.enter (args := [.slice a l.length c]) (A := []) Tryz.func161 rfl Tryz.ntmps161 rfl (fun _ h => h) ?_
  refine X.mem (B := [own 105 4 (.slice none (List.length (([] : List Ext))) 0) (List.length (([] : List Ext))) (encE (([] : List Ext)))]) (fun w h => h.nilOwn 105 4) ?_
  ((refine X.st (by kernel_rfl) ?_<;>repeat' first|refine Z.p rfl ?_|refine XL.nn ?_)<;>refine X.seq ?_<;>((refine X.st (by kernel_rfl) ?_<;>repeat' first|refine Z.p rfl ?_|refine Z.ln rfl rfl ?_|refine Z.lnL rfl rfl ?_|refine Z.lnS rfl rfl ?_|refine XL.nn ?_)<;>refine X.block ?_<;>((refine X.loop (ι := Nat) (fun i => [(0, .slice a l.length c), (5, .slice a l.length c), (6, .int .i64 l.length), (7, .int .i64 i)]) (fun _ => [own 105 4 (.slice none (List.length (([] : List Ext))) 0) (List.length (([] : List Ext))) (encE (([] : List Ext)))]) (fun i => i ≤ l.length ∧ ExtOK l i) (fun i => l.length - i) (0) ?_ ?_ ?_ ?_; (focus (exact ⟨Nat.zero_le _, fun k x hk => by omega⟩)); (focus (repeat (first | exact Sub.nil | refine Sub.cons rfl ?_))); (focus (exact (fun w h => h.takes))); rintro i ⟨hi, hok⟩) <;> ((refine X.st (by kernel_rfl) ?_<;>repeat' first|(refine XL.at 0 ?_;(first | refine XL.splitF rfl rfl rfl rfl (D.int rfl rfl rfl) (fun h0 => ?_) (fun h0 => ?_)))|refine XL.nn ?_)<;>refine X.seq ?_<;>((refine X.cond rfl ?_ ?_;rotate_left;(focus (intro hc;first|exact no_ hc rfl|(refine X.exit ?_)));rotate_right;(focus (intro hc;first|exact no_ hc rfl|(refine X.skip ?_)))))<;>(first|refine Ex.then ?_|refine N.next ?_<;>(refine X.seq ?_<;>(refine X.block ?_<;>((refine X.st (by kernel_rfl) ?_<;>repeat' first|refine Z.p rfl ?_|(refine XL.at 1 ?_;(have hil : i < l.length := (by omega); obtain ⟨x, hx⟩ := get_lt hil; (apply XL.detF rfl rfl rfl rfl; exact D.indexAddr i rfl rfl rfl hil (hl.sm (by omega)))))|(refine XL.at 2 ?_;((apply XL.detF rfl rfl rfl rfl; exact D.loadN rfl rfl (fun w hw j u hu => Rd.extE (hl.conf0 hw) hx j u hu))))|refine XL.alloc rfl rfl rfl (by intro g; infer_instance) (fun g => ?_)|refine XL.store1 rfl rfl rfl rfl rfl ?_|refine XL.storeN rfl rfl rfl rfl rfl rfl ?_|refine XL.storeP rfl rfl rfl rfl rfl rfl ?_|refine XL.nn ?_)<;>(refine X.sd (.b 0 (.c 1 (.a 2 (.a 3 (.a 4 (.a 5 (.a 6 (.a 7 (.a 8 (.a 9 (.a 10 (.a 11 (.b 12 (.a 14 (.a 15 (.b 16 (.c 13 (.a 17 (.a 18 (.a 19 .n)))))))))))))))))))) mixed (by kernel_rfl) ?_<;>repeat' first|refine XL.skipC rfl rfl rfl rfl ?_|refine Z.p rfl ?_|(refine XL.at 1 ?_;((refine XL.call rfl rfl rfl rfl (fun w hw => mayE_spec x w) ?_; rintro v B' ⟨rfl, rfl⟩; refine XL.both ?_); (by_cases hm : mayE x <;> first | rw [if_pos hm] | rw [if_neg hm])))|(refine XL.at 5 ?_;(first | refine XL.split0 rfl rfl rfl rfl (D.int rfl rfl rfl) (fun h1 => ?_) (fun h1 => ?_)))|(refine XL.at 10 ?_;(obtain ⟨y, hy⟩ := get_lt (l := l) (k := i - 1) (by omega); have hym := (hok (i - 1) y (by omega) hy).1.inE; unfold inE at hym; (apply XL.det0 rfl rfl rfl rfl; exact D.indexAddr (i - 1) rfl rfl (by omega) (by omega) (hl.sm (by omega)))))|(refine XL.at 12 ?_;((apply XL.det1 rfl rfl rfl rfl; exact D.loadN (cs := [.int .i64 y.a, .int .i64 y.n]) rfl rfl (fun w hw j u hu => by have := Rd.extE (hl.conf0 hw) hy j u (by rcases j with _ | _ | j <;> simp at hu ⊢ <;> exact hu); exact this))))|(refine XL.at 13 ?_;((refine XL.call rfl rfl rfl rfl (fun w hw => End_spec _ _ w) ?_; rintro v B' ⟨rfl, rfl⟩; refine XL.both ?_); rw [D.wrap64_fit (by omega)]))|(refine XL.at 17 ?_;(first | refine XL.split0 rfl rfl rfl rfl (D.int rfl rfl rfl) (fun h2 => ?_) (fun h2 => ?_)))|refine Z.l1 rfl rfl rfl ?_|refine Z.lN rfl rfl rfl ?_|refine Z.lP rfl rfl rfl ?_|refine Z.ct rfl (by omega) ?_|refine Z.cf rfl (by omega) ?_|refine Z.cs rfl (fun _=>?_) (fun _=>?_)|refine Z.g rfl (by omega) ?_|refine Z.w rfl ?_|refine Z.fa rfl rfl rfl ?_|refine Z.pk rfl rfl rfl rfl ?_|refine XL.nn ?_)<;>(refine X.cond rfl ?_ ?_;rotate_left;(focus (intro hc;first|exact no_ hc rfl|(refine X.skip ?_)));rotate_right;(focus (intro hc;first|exact no_ hc rfl|((refine X.st (by kernel_rfl) ?_<;>repeat' first|refine Z.p rfl ?_|refine XL.nn ?_)<;>(apply X.r1 Tryz.results161 (RV.tmp rfl);(focus (first | (exact ⟨a9, c9, o9, rfl, .inl ⟨hok, hJ⟩, rfl⟩) | (exact ⟨none, 0, [], rfl, .inr ⟨fun h => by first | exact hm (h i x hil hx).1 | (have := (h i x hil hx).2 y (by omega) hy; omega), rfl⟩, rfl⟩)));exact fun _=>Conf.takes))))))<;>(first|refine N.block ?_|refine Ex.here ?_|refine Ex.out rfl ?_))<;>(first|refine Ex.then ?_|refine N.next ?_<;>(refine X.tx (by kernel_rfl) ?_<;>repeat' first|refine Z.p rfl ?_|refine Z.g rfl (by omega) ?_|refine Z.w rfl ?_|refine XL.nil ?_))))) <;> (first | refine Ex.then ?_ | ((refine N.again ((i + 1)) ?_ ?_ ?_ ?_; (focus (exact ⟨by omega, hok.step hx hm (by intro y' h3 h'; first | omega | (rw [hy] at h'; cases h'; omega))⟩)); (focus (first | omega | (dsimp only; omega))); (focus (repeat (first | exact Sub.nil | refine Sub.cons rfl ?_))); exact (fun w h => h.takes)))))<;>(first|refine N.block ?_|refine Ex.here ?_|refine Ex.out rfl ?_))<;>(first|refine Ex.then ?_|refine N.next ?_<;>((refine X.st (by kernel_rfl) ?_<;>repeat' first|refine Z.p rfl ?_|(refine XL.at 1 ?_;(obtain rfl : i = l.length := (by omega); (refine XL.call rfl rfl rfl rfl (fun w hw => joinedE_spec w a c l 0 (hl.conf0 hw) hok.rise0 hbd) ?_; rintro v B' ⟨a9, c9, o9, rfl, hJ, rfl⟩; refine XL.both ?_)))|refine XL.nn ?_)<;>(apply X.r1 Tryz.results161 (RV.tmp rfl);(focus (first | (exact ⟨a9, c9, o9, rfl, .inl ⟨hok, hJ⟩, rfl⟩) | (exact ⟨none, 0, [], rfl, .inr ⟨fun h => by first | exact hm (h i x hil hx).1 | (have := (h i x hil hx).2 y (by omega) hy; omega), rfl⟩, rfl⟩)));exact fun _=>Conf.takes))))
end Go.Lx

/- The statements on maps: calls, done with both. -/
namespace Go.Lx
open Go.Proofs
set_option linter.unusedVariables false
set_option linter.unusedSimpArgs false
set_option maxRecDepth 20000
set_option maxHeartbeats 8000000

/-- A call. -/
structure OpL where
  k : Int
  a : Option Addr
  c : Nat
  l : List Ext
  q : Int
  p : Int
def encO1 (o : OpL) : List Value := [.int .i64 o.k, .slice o.a o.l.length o.c, .int .i64 o.q, .int .i64 o.p]
def encO (l : List OpL) : List Value := l.flatMap encO1
def nearE (x : Ext) : Prop := ¬ (mayS (x.a, x.n) ∧ x.a + x.n > 300)
instance (x : Ext) : Decidable (nearE x) := by unfold nearE; infer_instance
theorem Rd.op {w : World} {a : Option Addr} {n c m : Nat} {xs : List OpL} {x : OpL} (h : Rd w 4 a n c (encO xs)) (hx : xs[m]? = some x) : ∀ j u, [Value.int .i64 x.k, .slice x.a x.l.length x.c, .int .i64 x.q, .int .i64 x.p][j]? = some u → w.cell? ((el a (m * 4)).add j) = some u := Rd.elem (f := encO1) h (fun _ => rfl) hx
end Go.Lx
