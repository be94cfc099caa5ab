import Derived.Test.YtakoppmiegjjlaaGreatDoorM4
import Derived.Test.YtakoppmiegjjlaaGreatDoorM10
import Derived.Test.YtakoppmiegjjlaaGreatDoorM2
import Derived.Test.YtakoppmiegjjlaaGreatDoorM5
set_option linter.unusedVariables false
set_option linter.unusedSimpArgs false
set_option maxRecDepth 20000
set_option maxHeartbeats 4000000
namespace Go.Lx
open Go.Proofs
structure Ft where
  a : Option Addr
  l : List Int
  c : Nat
def Ft.tl (f : Ft) : Ft := match f.l with
  | [] => f
  | _ :: r => ⟨subA f.a 1 1 f.c, r, f.c - 1⟩
def fateL : List Int → Int
  | [] => 0
  | x :: _ => x % 4
theorem fate_eq (x : Int) : Int.tmod (Int.tmod x 4 + 4) 4 = x % 4 := by
  rcases Int.le_total 0 x with h | h
  · rw [Int.tmod_eq_emod_of_nonneg h, Int.tmod_eq_emod_of_nonneg (by omega)]; omega
  · obtain ⟨y, rfl⟩ : ∃ y, x = -y := ⟨-x, by omega⟩
    rw [Int.neg_tmod, Int.tmod_eq_emod_of_nonneg (a := y) (by omega), Int.tmod_eq_emod_of_nonneg (by omega)]; omega
theorem fate_lo (x : Int) : -4 < Int.tmod x 4 ∧ Int.tmod x 4 < 4 := by
  rcases Int.le_total 0 x with h | h
  · rw [Int.tmod_eq_emod_of_nonneg h]; omega
  · obtain ⟨y, rfl⟩ : ∃ y, x = -y := ⟨-x, by omega⟩
    rw [Int.neg_tmod, Int.tmod_eq_emod_of_nonneg (a := y) (by omega)]; omega
def Ft.rd (f : Ft) (w : World) (H : Nat → Prop) : Prop := RdX w H 1 f.a f.l.length f.c (encN f.l)
theorem Ft.rd_tl {f : Ft} {w : World} {H : Nat → Prop} (h : f.rd w H) : f.tl.rd w H := by
  obtain ⟨a, l, c⟩ := f
  cases l with
  | nil => exact h
  | cons x r =>
    have h1 : RdX w H 1 a (r.length + 1) c (encN (x :: r)) := h
    have hc := h1.rd.le
    have hs := h1.rd.sub (l := 1) (h := r.length + 1) (m := c) (by omega) hc (Nat.le_refl _) (Nat.le_refl _)
    have e : ((encN (x :: r)).drop (1 * 1)).take ((r.length + 1 - 1) * 1) = encN r := by
      show ((Value.int .i64 x :: encN r).drop 1).take ((r.length + 1 - 1) * 1) = encN r
      rw [List.drop_succ_cons, List.drop_zero, List.take_of_length_le]
      have := flat_len encN1 1 (fun _ => rfl) r
      show (encN r).length ≤ _
      unfold encN; omega
    rw [e] at hs
    refine ⟨hs, fun j v hj hb => ?_⟩
    obtain ⟨b, rfl⟩ : ∃ b, a = some b := by
      have := h1.rd.sm (by omega)
      cases a with
      | none => simp at this
      | some b => exact ⟨b, rfl⟩
    have e2 : (el (subA (some b) 1 1 c) j).block = (el (some b) 0).block := by
      unfold subA
      split <;> simp [el, Addr.add] <;> split <;> rfl
    refine h1.out 0 (.int .i64 x) rfl ?_
    rw [← e2]
    exact hb
theorem bkNext_spec (w : World) (H : Nat → Prop) (g gm : Nat) (q u : Int) (f : Ft) (hown : Sep [cells g [.map (some gm), .int .i64 q, .int .i64 u, .slice f.a f.l.length f.c, .slice none 0 0] 110] w H) (hf : f.rd w H) : Spec Tryz.prog 186 #[.pointer (some ⟨g, 0, none⟩)] w H (fun v A => v = .int .i64 (fateL f.l) ∧ A = [cells g [.map (some gm), .int .i64 q, .int .i64 u, .slice f.tl.a f.tl.l.length f.tl.c, .slice none 0 0] 110]) := by
  obtain ⟨a, l, c⟩ := f
  refine Spec.enter (args := [.pointer (some ⟨g, 0, none⟩)]) (A := [cells g [.map (some gm), .int .i64 q, .int .i64 u, .slice ((⟨a, l, c⟩ : Ft)).a ((⟨a, l, c⟩ : Ft)).l.length ((⟨a, l, c⟩ : Ft)).c, .slice none 0 0] 110]) Tryz.func186 rfl Tryz.ntmps186 rfl hown ?_
  ((refine Qg (by kernel_rfl) ?_<;>repeat' first|refine Z.p rfl ?_|refine Qf ?_)<;>refine X.seq ?_<;>((refine Qg (by kernel_rfl) ?_<;>repeat' first|refine Z.p rfl ?_|(refine XL.at 5 ?_;(rcases l with _ | ⟨x, r⟩ <;> first| (have hr : 0 < r.length + 1 := Nat.succ_pos _; refine Z.cf rfl (show ¬ (((r.length + 1 : Nat) : Int) = 0) by omega) ?_) | refine Z.ct rfl (show ((0 : Nat) : Int) = 0 from rfl) ?_))|refine Z.fa rfl rfl rfl ?_|refine Z.l1 rfl rfl rfl ?_|refine Z.ln rfl rfl ?_|refine Qf ?_)<;>(refine Qj rfl ?_ ?_;rotate_left;(focus (intro hc;first|exact no_ hc rfl|(refine X.skip ?_)));rotate_right;(focus (intro hc;first|exact no_ hc rfl|((refine Qg (by kernel_rfl) ?_<;>repeat' first|refine Z.p rfl ?_|refine Qf ?_)<;>(apply X.r1 Tryz.results186 (Qi rfl);(focus (first| exact ⟨rfl, (rfl : [cells g [.map (some gm), .int .i64 q, .int .i64 u, .slice ((⟨a, [], c⟩ : Ft)).a ((⟨a, [], c⟩ : Ft)).l.length ((⟨a, [], c⟩ : Ft)).c, .slice none 0 0] 110] = _)⟩ ));exact fun _=>Conf.takes))))))<;>(first|refine N.next ?_<;>((refine Qg (by kernel_rfl) ?_<;>repeat' first|refine Z.p rfl ?_|(refine XL.at 4 ?_;(refine Z.ix 0 rfl rfl rfl rfl (show 0 < r.length + 1 by omega) (hf.rd.sm (show 0 < r.length + 1 by omega)) ?_))|(refine XL.at 5 ?_;(refine Z.la rfl rfl (fun w hw => Rd.intAt (hf.now hw) (show (x :: r)[0]? = some x from rfl)) ?_))|refine Z.fa rfl rfl rfl ?_|refine Z.l1 rfl rfl rfl ?_|refine Qf ?_)<;>(refine Qg (by kernel_rfl) ?_<;>repeat' first|refine Z.p rfl ?_|(refine XL.at 5 ?_;(refine XL.dt rfl (fun _ _ _ _ => D.sliceL (l := 1) rfl rfl (show 1 ≤ r.length + 1 by omega)) ?_))|refine Z.fa rfl rfl rfl ?_|refine Z.l1 rfl rfl rfl ?_|refine Qr rfl rfl rfl rfl rfl ?_|refine Qf ?_)<;>(refine Qg (by kernel_rfl) ?_<;>repeat' first|refine Z.p rfl ?_|(refine XL.at 1 ?_;(refine Z.rem rfl rfl rfl (by decide) ?_))|(refine XL.at 2 ?_;(have hlo := fate_lo x; refine Z.g rfl (by omega) ?_))|(refine XL.at 3 ?_;(refine Z.rem rfl rfl rfl (by decide) ?_; rw [fate_eq]))|refine Qf ?_)<;>(apply X.r1 Tryz.results186 (Qi rfl);(focus (first| exact ⟨rfl, (rfl : [cells g [.map (some gm), .int .i64 q, .int .i64 u, .slice (subA a 1 1 c) (r.length + 1 - 1) (c - 1), .slice none 0 0] 110] = _)⟩));exact fun _=>Conf.takes))))
theorem bkFails_spec (w : World) (H : Nat → Prop) (g gm : Nat) (q u : Int) (f : Ft) (hown : Sep [cells g [.map (some gm), .int .i64 q, .int .i64 u, .slice f.a f.l.length f.c, .slice none 0 0] 110] w H) (hf : f.rd w H) : Spec Tryz.prog 163 #[.pointer (some ⟨g, 0, none⟩)] w H (fun v A => v = .bool (decide (fateL f.l ≠ 0)) ∧ A = [cells g [.map (some gm), .int .i64 q, .int .i64 u, .slice f.tl.a f.tl.l.length f.tl.c, .slice none 0 0] 110]) := by
  refine Spec.enter (args := [.pointer (some ⟨g, 0, none⟩)]) (A := [cells g [.map (some gm), .int .i64 q, .int .i64 u, .slice f.a f.l.length f.c, .slice none 0 0] 110]) Tryz.func163 rfl Tryz.ntmps163 rfl hown ?_
  ((refine Qg (by kernel_rfl) ?_<;>repeat' first|refine Z.p rfl ?_|refine Qf ?_)<;>(refine Qg (by kernel_rfl) ?_<;>repeat' first|refine Z.p rfl ?_|(refine XL.at 1 ?_;((refine Qm [cells g [.map (some gm), .int .i64 q, .int .i64 u, .slice f.a f.l.length f.c, .slice none 0 0] 110] rfl rfl rfl rfl (fun w F hF hm hw => bkNext_spec w F g gm q u f hF (hf.call hw hm)) ?_; rintro v B' ⟨rfl, rfl⟩; refine Qh ?_)))|(refine XL.at 2 ?_;(refine Z.cs rfl (fun h1 => ?_) (fun h1 => ?_)))|refine Qf ?_)<;>(apply X.r1 Tryz.results163 (Qi rfl);(focus (first| exact ⟨by rw [decide_eq_true h1], rfl⟩ | exact ⟨by rw [decide_eq_false h1], rfl⟩));exact fun _=>Conf.takes))
theorem may_spec19 (w : World) (g : Nat) (s : Bs) (r : Bool) (hs : s = [] ∨ (1 ≤ s.length ∧ s.length ≤ 64 ∧ ∀ b ∈ s, b ∈ letB)) : Spec Tryz.prog 106 #[.pointer (some ⟨g, 0, none⟩), .string ⟨List.toArray s⟩, .bool r] w (fun _ => False) (fun v A => v = .int .i64 (if s ≠ [] ∧ r = true then 0 else 1) ∧ A = []) := by
  refine Spec.enter (args := [.pointer (some ⟨g, 0, none⟩), .string ⟨List.toArray s⟩, .bool r]) (A := []) Tryz.func106 rfl Tryz.ntmps106 rfl (fun _ h => h) ?_
  ((refine Qg (by kernel_rfl) ?_<;>repeat' first|refine Z.p rfl ?_|refine Qf ?_)<;>refine X.seq ?_<;>(refine X.block ?_<;>((refine Qg (by kernel_rfl) ?_<;>repeat' first|refine Z.p rfl ?_|(refine XL.at 1 ?_;(refine Z.eqP rfl rfl rfl ?_))|refine Qf ?_)<;>(refine Qj rfl ?_ ?_;rotate_left;(focus (intro hc;first|((refine Qg (by kernel_rfl) ?_<;>repeat' first|refine Z.p rfl ?_|(refine XL.at 1 ?_;((refine XL.call rfl rfl rfl rfl (fun w hw => named_spec w s hs) ?_; rintro v B' ⟨rfl, rfl⟩; refine Qh ?_); (by_cases h0 : s ≠ [] <;> first| rw [decide_eq_true h0] | rw [decide_eq_false h0]) <;> (cases r)))|refine Qf ?_)<;>(refine Qj rfl ?_ ?_;rotate_left;(focus (intro hc;first|exact no_ hc rfl|(refine X.skip ?_)));rotate_right;(focus (intro hc;first|exact no_ hc rfl|((refine Qg (by kernel_rfl) ?_<;>repeat' first|refine Z.p rfl ?_|refine Qf ?_)<;>(apply X.r1 Tryz.results106 (Qi rfl);(focus (refine ⟨?_, rfl⟩; first| (rw [if_neg (fun h => bF h.2)]; done) | (rw [if_neg (fun h => h0 h.1)]; done)));exact fun _=>Conf.takes))))))));rotate_right;(focus (intro hc;first|exact no_ hc rfl))))<;>(first|refine N.block ?_))<;>(first|refine N.next ?_<;>((refine Qg (by kernel_rfl) ?_<;>repeat' first|refine Z.p rfl ?_|refine Qf ?_)<;>(apply X.r1 Tryz.results106 (Qi rfl);(focus (refine ⟨?_, rfl⟩; first| (rw [if_pos ⟨h0, rfl⟩]; done) ));exact fun _=>Conf.takes))))
def getS (o : Option Bs) (fate : Int) (at_ n : Nat) : Bs × Int := if fate ≠ 0 then ([], 34) else match o with
  | none => ([], 15)
  | some d => if at_ > d.length then ([], 31) else ((d.drop at_).take n, 0)
def findS (o : Option Bs) (fate : Int) : Bs × Int := if fate ≠ 0 then ([], 34) else match o with
  | none => ([], 15)
  | some d => (d, 0)
instance mpTSS : MpT Tryz.prog 107 9 9 := ⟨Tryz.underlying107⟩
instance zrStr : Zr Tryz.prog 9 (.string ByteArray.empty) := Zr.mk' (by kernel_rfl)
theorem bkFind_spec (w : World) (H : Nat → Prop) (g gm : Nat) (q u : Int) (f : Ft) (es : List (Bs × Bs)) (s : Bs) (hown : Sep [cells g [.map (some gm), .int .i64 q, .int .i64 u, .slice f.a f.l.length f.c, .slice none 0 0] 110, mapT tk gm es] w H) (hf : f.rd w H) : Spec Tryz.prog 183 #[.pointer (some ⟨g, 0, none⟩), .string ⟨List.toArray s⟩] w H (fun v A => ∃ r e, v = .tuple #[.string ⟨List.toArray r⟩, .int .i64 e] ∧ findS (getT es s) (fateL f.l) = (r, e) ∧ A = [cells g [.map (some gm), .int .i64 q, .int .i64 u, .slice f.tl.a f.tl.l.length f.tl.c, .slice none 0 0] 110, mapT tk gm es]) := by
  refine Spec.enter (args := [.pointer (some ⟨g, 0, none⟩), .string ⟨List.toArray s⟩]) (A := [cells g [.map (some gm), .int .i64 q, .int .i64 u, .slice f.a f.l.length f.c, .slice none 0 0] 110, mapT tk gm es]) Tryz.func183 rfl Tryz.ntmps183 rfl hown ?_
  ((refine Qg (by kernel_rfl) ?_<;>repeat' first|refine Z.p rfl ?_|refine Qf ?_)<;>refine X.seq ?_<;>((refine Qg (by kernel_rfl) ?_<;>repeat' first|refine Z.p rfl ?_|(refine XL.at 1 ?_;((refine Qm [cells g [.map (some gm), .int .i64 q, .int .i64 u, .slice f.a f.l.length f.c, .slice none 0 0] 110] rfl rfl rfl rfl (fun w F hF hm hw => bkFails_spec w F g gm q u f hF (hf.call hw hm)) ?_; rintro v B' ⟨rfl, rfl⟩; refine Qh ?_); (by_cases h0 : fateL f.l ≠ 0 <;> first| rw [decide_eq_true h0] | rw [decide_eq_false h0])))|refine Qf ?_)<;>(refine Qj rfl ?_ ?_;rotate_left;(focus (intro hc;first|exact no_ hc rfl|(refine X.skip ?_)));rotate_right;(focus (intro hc;first|exact no_ hc rfl|((refine Qg (by kernel_rfl) ?_<;>repeat' first|refine Z.p rfl ?_|refine Qf ?_)<;>(apply X.r2 Tryz.results183 (Qi rfl) (Qi rfl);(focus (first| exact ⟨[], 34, rfl, (by unfold findS; rw [if_pos h0]), rfl⟩ ));exact fun _=>Conf.takes))))))<;>(first|refine N.next ?_<;>((refine Qg (by kernel_rfl) ?_<;>repeat' first|refine Z.p rfl ?_|(refine XL.at 5 ?_;(refine Z.lkOkT rfl rfl rfl ?_; (obtain ⟨o, ho⟩ : ∃ o, getT es s = o := ⟨_, rfl⟩); unfold lkW; rw [ho]; cases o))|refine Z.fa rfl rfl rfl ?_|refine Z.l1 rfl rfl rfl ?_|refine Qf ?_)<;>refine X.seq ?_<;>((refine Qg (by kernel_rfl) ?_<;>repeat' first|refine Z.p rfl ?_|refine Qf ?_)<;>(refine Qj rfl ?_ ?_;rotate_left;(focus (intro hc;first|exact no_ hc rfl|(refine X.skip ?_)));rotate_right;(focus (intro hc;first|exact no_ hc rfl|((refine Qg (by kernel_rfl) ?_<;>repeat' first|refine Z.p rfl ?_|refine Qf ?_)<;>(apply X.r2 Tryz.results183 (Qi rfl) (Qi rfl);(focus (first| exact ⟨[], 15, rfl, (by unfold findS; rw [if_neg h0]), rfl⟩ ));exact fun _=>Conf.takes))))))<;>(first|refine N.next ?_<;>((refine Qg (by kernel_rfl) ?_<;>repeat' first|refine Z.p rfl ?_|refine Qf ?_)<;>(apply X.r2 Tryz.results183 (Qi rfl) (Qi rfl);(focus (first| exact ⟨_, 0, rfl, (by unfold findS; rw [if_neg h0]), rfl⟩));exact fun _=>Conf.takes))))))
theorem take_min (d : Bs) (a n : Nat) : (d.drop a).take (min n (d.length - a)) = (d.drop a).take n := by
  rw [← List.length_drop, List.take_eq_take_iff]; simp
theorem getS_io {o : Option Bs} {f : Int} {a n : Nat} (h : f ≠ 0) : getS o f a n = ([], 34) := if_pos h
theorem getS_none {f : Int} {a n : Nat} (h : ¬ f ≠ 0) : getS none f a n = ([], 15) := if_neg h
theorem getS_far {d : Bs} {f : Int} {a n : Nat} (h : ¬ f ≠ 0) (h2 : a > d.length) : getS (some d) f a n = ([], 31) := (if_neg h).trans (if_pos h2)
theorem getS_some {d : Bs} {f : Int} {a n : Nat} (h : ¬ f ≠ 0) (h2 : a ≤ d.length) : getS (some d) f a n = ((d.drop a).take (a + min n (d.length - a) - a), 0) := by
  unfold getS
  rw [if_neg h]
  dsimp only
  rw [if_neg (by omega), show a + min n (d.length - a) - a = min n (d.length - a) from by omega, take_min]
theorem Get_spec (w : World) (H : Nat → Prop) (g gm : Nat) (q u : Int) (f : Ft) (es : List (Bs × Bs)) (s : Bs) (at_ n : Nat) (hat : at_ ≤ 1000000000) (hn : n ≤ 1000000000) (hs : 1 ≤ s.length ∧ s.length ≤ 64 ∧ ∀ b ∈ s, b ∈ letB) (hd : ∀ k d, getT es k = some d → d.length ≤ 1000000) (hown : Sep [cells g [.map (some gm), .int .i64 q, .int .i64 u, .slice f.a f.l.length f.c, .slice none 0 0] 110, mapT tk gm es] w H) (hf : f.rd w H) : Spec Tryz.prog 103 #[.pointer (some ⟨g, 0, none⟩), .string ⟨List.toArray s⟩, .int .i64 ((at_ : Nat) : Int), .int .i64 ((n : Nat) : Int)] w H (fun v A => ∃ r e, v = .tuple #[.string ⟨List.toArray r⟩, .int .i64 e] ∧ getS (getT es s) (fateL f.l) at_ n = (r, e) ∧ A = [cells g [.map (some gm), .int .i64 q, .int .i64 u, .slice f.tl.a f.tl.l.length f.tl.c, .slice none 0 0] 110, mapT tk gm es]) := by
  have hne : s ≠ [] := by rintro rfl; simp at hs
  refine Spec.enter (args := [.pointer (some ⟨g, 0, none⟩), .string ⟨List.toArray s⟩, .int .i64 ((at_ : Nat) : Int), .int .i64 ((n : Nat) : Int)]) (A := [cells g [.map (some gm), .int .i64 q, .int .i64 u, .slice f.a f.l.length f.c, .slice none 0 0] 110, mapT tk gm es]) Tryz.func103 rfl Tryz.ntmps103 rfl hown ?_
  ((refine Qg (by kernel_rfl) ?_<;>repeat' first|refine Z.p rfl ?_|refine Qf ?_)<;>refine X.seq ?_<;>((refine Qg (by kernel_rfl) ?_<;>repeat' first|refine Z.p rfl ?_|(refine XL.at 3 ?_;(refine Z.ct rfl (by omega) ?_))|(refine XL.at 6 ?_;(refine Z.ct rfl (by omega) ?_))|(refine XL.at 8 ?_;((refine XL.call rfl rfl rfl rfl (fun w hw => may_spec19 w g s true (.inr hs)) ?_; rintro v B' ⟨rfl, rfl⟩; refine Qh ?_); rw [if_pos ⟨hne, rfl⟩]))|refine Qf ?_)<;>(refine Qg (by kernel_rfl) ?_<;>repeat' first|refine Z.p rfl ?_|(refine XL.at 1 ?_;(refine Z.cf rfl (by decide) ?_))|refine Qf ?_)<;>(refine Qj rfl ?_ ?_;rotate_left;(focus (intro hc;first|(refine X.skip ?_)));rotate_right;(focus (intro hc;first|exact no_ hc rfl))))<;>(first|refine N.next ?_<;>((refine Qg (by kernel_rfl) ?_<;>repeat' first|refine Z.p rfl ?_|(refine XL.at 2 ?_;((refine Qm [cells g [.map (some gm), .int .i64 q, .int .i64 u, .slice f.a f.l.length f.c, .slice none 0 0] 110, mapT tk gm es] rfl rfl rfl rfl (fun w F hF hm hw => bkFind_spec w F g gm q u f es s hF (hf.call hw hm)) ?_; rintro v B' ⟨r, e, rfl, hfs, rfl⟩; refine Qh ?_); (obtain ⟨o, ho⟩ : ∃ o, getT es s = o := ⟨_, rfl⟩); rw [ho] at hfs ⊢; unfold findS at hfs; (by_cases h0 : fateL f.l ≠ 0 <;> first| (rw [if_pos h0] at hfs; cases hfs) | (rw [if_neg h0] at hfs; rcases o with _ | d <;> cases hfs <;> first| (have hdl := hd s _ ho) | skip))))|refine Qf ?_)<;>refine X.seq ?_<;>(refine X.block ?_<;>((refine Qg (by kernel_rfl) ?_<;>repeat' first|refine Z.p rfl ?_|(refine XL.at 1 ?_;(first| refine Z.cf rfl (show ¬ ((0 : Int) ≠ 0) by decide) ?_ | refine Z.ct rfl (by decide) ?_))|refine Qf ?_)<;>(refine Qj rfl ?_ ?_;rotate_left;(focus (intro hc;first|exact no_ hc rfl|((refine Qg (by kernel_rfl) ?_<;>repeat' first|refine Z.p rfl ?_|(refine XL.at 2 ?_;(refine Z.lnL rfl rfl ?_))|(refine XL.at 3 ?_;(refine Z.cs rfl (fun h1 => ?_) (fun h1 => ?_)))|refine Qf ?_)<;>(refine Qj rfl ?_ ?_;rotate_left;(focus (intro hc;first|exact no_ hc rfl|(refine X.skip ?_)));rotate_right;(focus (intro hc;first|exact no_ hc rfl|((refine Qg (by kernel_rfl) ?_<;>repeat' first|refine Z.p rfl ?_|refine Qf ?_)<;>(apply X.r2 Tryz.results103 (Qi rfl) (Qi rfl);(focus (first| exact ⟨[], 31, rfl, getS_far h0 (by omega), rfl⟩ ));exact fun _=>Conf.takes))))))));rotate_right;(focus (intro hc;first|exact no_ hc rfl|((refine Qg (by kernel_rfl) ?_<;>repeat' first|refine Z.p rfl ?_|refine Qf ?_)<;>(apply X.r2 Tryz.results103 (Qi rfl) (Qi rfl);(focus (first| exact ⟨[], 34, rfl, getS_io h0, rfl⟩ | exact ⟨[], 15, rfl, getS_none h0, rfl⟩ ));exact fun _=>Conf.takes))))))<;>(first|refine N.block ?_))<;>(first|refine N.next ?_<;>((refine Qg (by kernel_rfl) ?_<;>repeat' first|refine Z.p rfl ?_|(refine XL.at 5 ?_;(refine Z.lnL rfl rfl ?_))|(refine XL.at 7 ?_;(refine Z.g rfl (by omega) ?_))|(refine XL.at 8 ?_;(refine Z.mn rfl rfl rfl ?_))|(refine XL.at 9 ?_;(have hle : at_ ≤ r.length := (by omega); rw [show min ((n : Nat) : Int) (((r.length : Nat) : Int) - ((at_ : Nat) : Int)) = ((min n (r.length - at_) : Nat) : Int) from (by omega)]; refine Z.g rfl (by omega) ?_))|(refine XL.at 10 ?_;(refine XL.dt rfl (fun _ _ _ _ => D.cutLH (l := r) (a := at_) (h := at_ + min n (r.length - at_)) rfl rfl rfl (by omega) (by omega) (by omega)) ?_))|refine Qf ?_)<;>(apply X.r2 Tryz.results103 (Qi rfl) (Qi rfl);(focus (first| exact ⟨_, 0, rfl, getS_some h0 (by omega), rfl⟩));exact fun _=>Conf.takes))))))
end Go.Lx
namespace Go.Lx
def bl (x : Nat) : Nat := if h : x = 0 then 0 else bl (x / 2) + 1
termination_by x
decreasing_by omega
theorem bl_zero : bl 0 = 0 := by unfold bl; rfl
theorem bl_pos {x : Nat} (h : x ≠ 0) : bl x = bl (x / 2) + 1 := by rw [bl, dif_neg h]
theorem bl_le : ∀ (k x : Nat), bl x ≤ k ↔ x < 2 ^ k
  | 0, x => by
    by_cases h : x = 0
    · subst h; simp [bl_zero]
    · rw [bl_pos h]; simp; exact h
  | k + 1, x => by
    by_cases h : x = 0
    · subst h; rw [bl_zero]; simp [Nat.pow_pos]
    · rw [bl_pos h, Nat.pow_succ]
      have := bl_le k (x / 2)
      omega
theorem bl_shift : ∀ (k x : Nat), 2 ^ k ≤ x → bl x = bl (x / 2 ^ k) + k
  | 0, x, _ => by simp
  | k + 1, x, h => by
    have hp : 0 < 2 ^ k := Nat.pow_pos (by decide)
    rw [Nat.pow_succ] at h
    rw [bl_pos (by omega), bl_shift k (x / 2) (by omega), Nat.div_div_eq_div_mul, Nat.pow_succ, Nat.mul_comm 2]
    omega
def vsz (x : Nat) : Nat := min (max ((bl x + 6) / 7) 1) 9
theorem vsz_le {x n : Nat} (h1 : 1 ≤ n) (h9 : n < 9) : vsz x ≤ n ↔ x < 128 ^ n := by
  have e : (128 : Nat) ^ n = 2 ^ (7 * n) := by rw [Nat.pow_mul]
  rw [e, ← bl_le]
  unfold vsz
  omega
theorem vsz_bd (x : Nat) : 1 ≤ vsz x ∧ vsz x ≤ 9 := by unfold vsz; omega
theorem vsz_eq {x n : Nat} (h : 1 ≤ n ∧ n ≤ 9) (hlo : n = 1 ∨ 128 ^ (n - 1) ≤ x) (hhi : n = 9 ∨ x < 128 ^ n) : vsz x = n := by
  have hb := vsz_bd x
  have h1 : vsz x ≤ n := by
    rcases hhi with rfl | hhi
    · omega
    · by_cases h9 : n < 9
      · exact (vsz_le h.1 h9).2 hhi
      · omega
  rcases hlo with rfl | hlo
  · omega
  · by_cases hn : n = 1
    · omega
    · have := vsz_le (x := x) (n := n - 1) (by omega) (by omega)
      have h2 : ¬ vsz x ≤ n - 1 := fun h => by have := this.1 h; omega
      omega
def hd (n : Nat) : Nat := 255 - 255 / 2 ^ (n - 1)
def fixB (x : Nat) : Nat → Bs
  | 0 => []
  | n + 1 => UInt8.ofNat (x / 256 ^ n) :: fixB x n
theorem fixB_len (x : Nat) : ∀ n, (fixB x n).length = n
  | 0 => rfl
  | n + 1 => by simp [fixB, fixB_len x n]
def varB (x : Nat) : Bs := UInt8.ofNat (hd (vsz x) + x / 256 ^ (vsz x - 1)) :: fixB x (vsz x - 1)
theorem varB_len (x : Nat) : (varB x).length = vsz x := by
  have := vsz_bd x
  simp [varB, fixB_len]; omega
def numS (x0 : Nat) (l : Bs) : Nat := l.foldl (fun x b => 256 * x + b.toNat) x0
def num (l : Bs) : Nat := numS 0 l
theorem numS_eq : ∀ (l : Bs) (x0 : Nat), numS x0 l = x0 * 256 ^ l.length + num l
  | [], x0 => by simp [numS, num]
  | b :: l, x0 => by
    have h1 := numS_eq l (256 * x0 + b.toNat)
    have h2 := numS_eq l (256 * 0 + b.toNat)
    unfold num
    show numS (256 * x0 + b.toNat) l = _ + numS (256 * 0 + b.toNat) l
    rw [h1, h2]
    simp only [List.length_cons, Nat.pow_succ]
    rw [Nat.mul_zero, Nat.zero_add, Nat.add_mul, Nat.mul_comm 256 x0, Nat.mul_assoc, Nat.mul_comm 256 (256 ^ l.length), Nat.add_assoc]
theorem num_lt : ∀ l : Bs, num l < 256 ^ l.length
  | [] => by simp [num, numS]
  | b :: l => by
    have h := num_lt l
    have hb := b.toNat_lt
    show numS (256 * 0 + b.toNat) l < _
    rw [numS_eq]
    simp only [List.length_cons, Nat.pow_succ, Nat.mul_zero, Nat.zero_add]
    have h3 : b.toNat * 256 ^ l.length ≤ 255 * 256 ^ l.length := Nat.mul_le_mul_right _ (by omega)
    omega
theorem num_cons (b : UInt8) (l : Bs) : num (b :: l) = b.toNat * 256 ^ l.length + num l := by
  show numS (256 * 0 + b.toNat) l = _
  rw [numS_eq]; simp
theorem num_snoc (l : Bs) (b : UInt8) : num (l ++ [b]) = 256 * num l + b.toNat := by simp [num, numS]
theorem numS_snoc (x : Nat) (l : Bs) (b : UInt8) : numS x (l ++ [b]) = 256 * numS x l + b.toNat := by simp [numS]
theorem num_fixB (x : Nat) : ∀ n, num (fixB x n) = x % 256 ^ n
  | 0 => by simp [fixB, num, numS, Nat.mod_one]
  | n + 1 => by
    rw [fixB, num_cons, num_fixB x n, fixB_len]
    have e : (UInt8.ofNat (x / 256 ^ n)).toNat = x / 256 ^ n % 256 := by simp
    rw [e, Nat.pow_succ, Nat.mod_mul, Nat.mul_comm, Nat.add_comm]
theorem fixB_num : ∀ (l : Bs), fixB (num l) l.length = l
  | [] => rfl
  | b :: l => by
    have hp : 0 < 256 ^ l.length := Nat.pow_pos (by decide)
    have hl := num_lt l
    rw [num_cons]
    simp only [List.length_cons, fixB]
    congr 1
    · rw [Nat.add_comm, Nat.add_mul_div_right _ _ hp, Nat.div_eq_of_lt hl, Nat.zero_add]; simp
    · have key : ∀ (n : Nat) (y z : Nat), y % 256 ^ n = z % 256 ^ n → fixB y n = fixB z n := by
        intro n
        induction n with
        | zero => intros; rfl
        | succ n ih =>
          intro y z h
          simp only [fixB]
          have h1 : y % 256 ^ n = z % 256 ^ n := by
            have := congrArg (· % 256 ^ n) h
            simpa [Nat.pow_succ, Nat.mod_mul_right_mod] using this
          rw [ih y z h1]
          congr 1
          have h2 : y / 256 ^ n % 256 = z / 256 ^ n % 256 := by
            have e : ∀ a, a % 256 ^ (n + 1) / 256 ^ n = a / 256 ^ n % 256 := fun a => by rw [Nat.pow_succ, Nat.mod_mul_right_div_self]
            rw [← e, ← e, h]
          apply UInt8.toNat_inj.1
          simpa using h2
      rw [key l.length _ (num l) (by rw [Nat.add_comm, Nat.add_mul_mod_self_right])]
      exact fixB_num l
def wid (b : UInt8) : Nat := 9 - bl (255 - b.toNat)
theorem wid_bd (b : UInt8) : 1 ≤ wid b ∧ wid b ≤ 9 := by
  have : bl (255 - b.toNat) ≤ 8 := (bl_le 8 _).2 (by have := b.toNat_lt; omega)
  unfold wid; omega
theorem wid_range {b : UInt8} {n : Nat} (h : wid b = n) : hd n ≤ b.toNat ∧ b.toNat < hd n + 2 ^ (8 - n) + (if n = 9 then 1 else 0) ∧ (n = 9 → b.toNat = 255) := by
  have hb := b.toNat_lt
  have h9 := wid_bd b
  have h1 := bl_le (9 - n) (255 - b.toNat)
  have h2 := bl_le (8 - n) (255 - b.toNat)
  unfold wid at h
  have hx : bl (255 - b.toNat) ≤ 8 := (bl_le 8 _).2 (by omega)
  have h3 : 255 - b.toNat < 2 ^ (9 - n) := h1.1 (by omega)
  have h4 : n = 9 ∨ ¬ 255 - b.toNat < 2 ^ (8 - n) := by
    by_cases e : n = 9
    · exact .inl e
    · exact .inr fun h' => by have := h2.2 h'; omega
  have hn : n = 1 ∨ n = 2 ∨ n = 3 ∨ n = 4 ∨ n = 5 ∨ n = 6 ∨ n = 7 ∨ n = 8 ∨ n = 9 := by unfold wid at h9; omega
  rcases hn with rfl | rfl | rfl | rfl | rfl | rfl | rfl | rfl | rfl <;> simp [hd] at * <;> omega
theorem wid_of {b : UInt8} {n : Nat} (hn : 1 ≤ n ∧ n ≤ 8) (h1 : hd n ≤ b.toNat) (h2 : b.toNat < hd n + 2 ^ (8 - n)) : wid b = n := by
  have hb := b.toNat_lt
  have k1 := bl_le (9 - n) (255 - b.toNat)
  have k2 := bl_le (8 - n) (255 - b.toNat)
  unfold wid
  have e : n = 1 ∨ n = 2 ∨ n = 3 ∨ n = 4 ∨ n = 5 ∨ n = 6 ∨ n = 7 ∨ n = 8 := by omega
  rcases e with rfl | rfl | rfl | rfl | rfl | rfl | rfl | rfl <;> simp [hd] at * <;> omega
theorem wid_255 {b : UInt8} (h : b.toNat = 255) : wid b = 9 := by unfold wid; rw [h]; rw [bl_zero]
def fewF : Bs → Option (Nat × Nat)
  | [] => none
  | b :: r => if r.length + 1 < wid b then none else if vsz (numS (b.toNat - hd (wid b)) (r.take (wid b - 1))) = wid b then some (numS (b.toNat - hd (wid b)) (r.take (wid b - 1)), wid b) else none
theorem hd_le (n : Nat) (h : 1 ≤ n ∧ n ≤ 9) : hd n + 2 ^ (8 - n) ≤ 256 := by
  have e : n = 1 ∨ n = 2 ∨ n = 3 ∨ n = 4 ∨ n = 5 ∨ n = 6 ∨ n = 7 ∨ n = 8 ∨ n = 9 := by omega
  rcases e with rfl | rfl | rfl | rfl | rfl | rfl | rfl | rfl | rfl <;> decide
theorem top_lt {x n : Nat} (hn : 1 ≤ n ∧ n ≤ 8) (h : x < 128 ^ n) : x / 256 ^ (n - 1) < 2 ^ (8 - n) := by
  rw [Nat.div_lt_iff_lt_mul (Nat.pow_pos (by decide))]
  have e : (2 : Nat) ^ (8 - n) * 256 ^ (n - 1) = 128 ^ n := by
    have e2 : n = 1 ∨ n = 2 ∨ n = 3 ∨ n = 4 ∨ n = 5 ∨ n = 6 ∨ n = 7 ∨ n = 8 := by omega
    rcases e2 with rfl | rfl | rfl | rfl | rfl | rfl | rfl | rfl <;> decide
  rw [e]; exact h
theorem varB_top {x : Nat} (hx : x < 18446744073709551616) : (vsz x = 9 ∧ x / 256 ^ (vsz x - 1) = 0) ∨ (vsz x ≤ 8 ∧ x / 256 ^ (vsz x - 1) < 2 ^ (8 - vsz x)) := by
  have hb := vsz_bd x
  by_cases h : vsz x = 9
  · refine .inl ⟨h, ?_⟩
    rw [h]
    exact Nat.div_eq_of_lt hx
  · refine .inr ⟨by omega, top_lt ⟨hb.1, by omega⟩ ((vsz_le hb.1 (by omega)).1 (Nat.le_refl _))⟩
theorem varB_first {x : Nat} (hx : x < 18446744073709551616) : (UInt8.ofNat (hd (vsz x) + x / 256 ^ (vsz x - 1))).toNat = hd (vsz x) + x / 256 ^ (vsz x - 1) ∧ wid (UInt8.ofNat (hd (vsz x) + x / 256 ^ (vsz x - 1))) = vsz x := by
  have hb := vsz_bd x
  have hh := hd_le (vsz x) hb
  rcases varB_top hx with ⟨h9, h0⟩ | ⟨h8, ht⟩
  · rw [h0, h9]
    exact ⟨by decide, wid_255 (by decide)⟩
  · have e : (UInt8.ofNat (hd (vsz x) + x / 256 ^ (vsz x - 1))).toNat = hd (vsz x) + x / 256 ^ (vsz x - 1) := by
      generalize x / 256 ^ (vsz x - 1) = q at *
      simp; omega
    exact ⟨e, wid_of ⟨hb.1, h8⟩ (by rw [e]; exact Nat.le_add_right _ _) (by rw [e]; exact Nat.add_lt_add_left ht _)⟩
theorem fewF_varB {x : Nat} (hx : x < 18446744073709551616) (t : Bs) : fewF (varB x ++ t) = some (x, vsz x) := by
  have hb := vsz_bd x
  obtain ⟨e1, e2⟩ := varB_first hx
  unfold varB
  rw [List.cons_append, fewF, e2, e1, if_neg (by simp [fixB_len]; omega)]
  have e3 : numS (hd (vsz x) + x / 256 ^ (vsz x - 1) - hd (vsz x)) ((fixB x (vsz x - 1) ++ t).take (vsz x - 1)) = x := by
    rw [List.take_left' (fixB_len _ _), numS_eq, num_fixB, fixB_len, Nat.add_sub_cancel_left, Nat.mul_comm]
    exact Nat.div_add_mod x (256 ^ (vsz x - 1))
  rw [e3, if_pos rfl]
theorem fewF_some {t : Bs} {x n : Nat} (h : fewF t = some (x, n)) : n ≤ t.length ∧ x < 18446744073709551616 ∧ vsz x = n ∧ t.take n = varB x := by
  cases t with
  | nil => cases h
  | cons b r =>
    rw [fewF] at h
    split at h
    · cases h
    · split at h
      · rename_i h1 h2
        injection h with h
        obtain ⟨h3, h4⟩ := Prod.mk.inj h
        subst h4
        rw [h3] at h2
        have hw := wid_bd b
        have hr := wid_range (b := b) rfl
        have hl : (r.take (wid b - 1)).length = wid b - 1 := by rw [List.length_take]; omega
        have hnl := num_lt (r.take (wid b - 1))
        rw [hl] at hnl
        rw [numS_eq, hl] at h3
        have hp : 0 < 256 ^ (wid b - 1) := Nat.pow_pos (by decide)
        have hdiv : x / 256 ^ (wid b - 1) = b.toNat - hd (wid b) := by rw [← h3, Nat.add_comm, Nat.add_mul_div_right _ _ hp, Nat.div_eq_of_lt hnl, Nat.zero_add]
        have hbt : b.toNat - hd (wid b) < 2 ^ (8 - wid b) ∨ (wid b = 9 ∧ b.toNat - hd (wid b) = 0) := by
          by_cases e : wid b = 9
          · refine .inr ⟨e, ?_⟩
            rw [hr.2.2 e, e]; decide
          · rw [if_neg e] at hr; exact .inl (by omega)
        refine ⟨by simp; omega, ?_, h2, ?_⟩
        · have hpw : (2 : Nat) ^ (8 - wid b) * 256 ^ (wid b - 1) ≤ 18446744073709551616 := by
            have e2 : wid b = 1 ∨ wid b = 2 ∨ wid b = 3 ∨ wid b = 4 ∨ wid b = 5 ∨ wid b = 6 ∨ wid b = 7 ∨ wid b = 8 ∨ wid b = 9 := by omega
            rcases e2 with e | e | e | e | e | e | e | e | e <;> rw [e] <;> decide
          rcases hbt with hbt | ⟨e, hbt⟩
          · have h5 : (b.toNat - hd (wid b)) * 256 ^ (wid b - 1) ≤ (2 ^ (8 - wid b) - 1) * 256 ^ (wid b - 1) := Nat.mul_le_mul_right _ (by omega)
            rw [show (2 ^ (8 - wid b) - 1) * 256 ^ (wid b - 1) = 2 ^ (8 - wid b) * 256 ^ (wid b - 1) - 256 ^ (wid b - 1) by rw [Nat.sub_mul, Nat.one_mul]] at h5
            have h6 : 256 ^ (wid b - 1) ≤ 2 ^ (8 - wid b) * 256 ^ (wid b - 1) := Nat.le_mul_of_pos_left _ (Nat.pow_pos (by decide))
            omega
          · rw [hbt] at h3
            rw [e] at hnl hpw h3
            omega
        · obtain ⟨m, hm⟩ : ∃ m, wid b = m + 1 := ⟨wid b - 1, by omega⟩
          unfold varB
          rw [h2, hdiv]
          have e1 : UInt8.ofNat (hd (wid b) + (b.toNat - hd (wid b))) = b := by
            rw [show hd (wid b) + (b.toNat - hd (wid b)) = b.toNat by omega]
            simp
          rw [e1]
          have e2 : fixB x (wid b - 1) = r.take (wid b - 1) := by
            have := fixB_num (r.take (wid b - 1))
            rw [hl] at this
            rw [← this]
            have key : ∀ (k : Nat) (y z : Nat), fixB (y * 256 ^ k + z) k = fixB z k := by
              intro k
              suffices ∀ (k : Nat) (j y z : Nat), j ≤ k → fixB (y * 256 ^ k + z) j = fixB z j from fun y z => this k k y z (Nat.le_refl _)
              intro k j
              induction j with
              | zero => intros; rfl
              | succ j ih =>
                intro y z hj
                simp only [fixB]
                rw [ih y z (by omega)]
                congr 1
                apply UInt8.toNat_inj.1
                have e : y * 256 ^ k + z = z + y * 256 ^ (k - j - 1) * 256 * 256 ^ j := by
                  have : 256 ^ k = 256 ^ (k - j - 1) * 256 * 256 ^ j := by
                    rw [← Nat.pow_succ, ← Nat.pow_add]; congr 1; omega
                  rw [this, Nat.add_comm]; simp [Nat.mul_assoc]
                rw [e]
                simp [Nat.add_mul_div_right _ _ (Nat.pow_pos (show 0 < 256 by decide))]
            rw [← h3]
            exact key _ _ _
          rw [e2, hm]
          simp
      · cases h
end Go.Lx
namespace Go.Lx
open Go.Proofs
theorem D.quo64 {C : Cx} {W : World → Prop} {env : Env} {ty t u : TypeId} {pos : String} {af : Array Edge} {gd : Option (Nat × Bool)} {ds : Option Tmp} {x y : Operand} {a b : Nat} (hx : ev env x = some (.int .i64 (a : Int))) (hy : ev env y = some (.int .i64 (b : Int))) (hb : 0 < b ∧ a < 9223372036854775808) : Det C W env ⟨ds, .binOp .quo t x y u, ty, pos, af, gd⟩ (.int .i64 ((a / b : Nat) : Int)) := by
  have := D.quo (C := C) (W := W) (ds := ds) (ty := ty) (pos := pos) (af := af) (gd := gd) (t := t) (u := u) hx hy (by omega)
  have h2 : a / b < 9223372036854775808 := Nat.lt_of_le_of_lt (Nat.div_le_self _ _) hb.2
  rw [Int.tdiv_eq_ediv_of_nonneg (by omega), ← Int.natCast_ediv] at this
  generalize a / b = q at *
  rwa [D.wrap64_fit (by omega)] at this
def tb (m : Nat) : Nat := if m = 0 then 0 else Nat.log2 m + 1
theorem tb_bl (m : Nat) : tb m = bl m := by
  by_cases h : m = 0
  · subst h; rw [bl_zero]; rfl
  · have k : ∀ k, Nat.log2 m + 1 ≤ k ↔ bl m ≤ k := fun k => by
      rw [bl_le]; exact Nat.log2_lt h
    have h1 := (k (bl m)).2 (Nat.le_refl _)
    have h2 := (k (Nat.log2 m + 1)).1 (Nat.le_refl _)
    unfold tb
    rw [if_neg h]; omega
def tab8 : Bs := (List.range 256).map fun m => UInt8.ofNat (tb m)
theorem tab8_at {z : Nat} (h : z < 256) : tab8[z]? = some (UInt8.ofNat (bl z)) := by
  unfold tab8
  rw [List.getElem?_map, List.getElem?_range h, ← tb_bl]; rfl
theorem tab8_val {z : Nat} (h : z < 256) : (UInt8.ofNat (bl z)).toNat = bl z := by
  have := (bl_le 8 z).2 h
  simp; omega
theorem LenU64_spec (x : Nat) (hx : x < 18446744073709551616) (w : World) : Spec Tryz.prog 252 #[.int .u64 x] w (fun _ => False) (fun v A => v = .int .i64 ((bl x : Nat) : Int) ∧ A = []) := by
  refine Spec.enter (args := [.int .u64 x]) (A := []) Tryz.func252 rfl Tryz.ntmps252 rfl (fun _ h => h) ?_
  ((refine Qg (by kernel_rfl) ?_<;>repeat' first|refine Z.p rfl ?_|refine Qf ?_)<;>refine X.seq ?_<;>((refine Qg (by kernel_rfl) ?_<;>repeat' first|refine Z.p rfl ?_|(refine XL.at 1 ?_;(refine Ql rfl rfl rfl rfl (D.int rfl rfl rfl) (fun h1 => ?_) (fun h1 => ?_)))|refine Qf ?_)<;>(refine Qj rfl ?_ ?_;rotate_left;(focus (intro hc;first|exact no_ hc rfl|(refine X.skip ?_)));rotate_right;(focus (intro hc;first|exact no_ hc rfl|((refine Qg (by kernel_rfl) ?_<;>repeat' first|refine Z.p rfl ?_|(refine XL.at 1 ?_;(have e1 := bl_shift 32 x (by omega); (apply Qk rfl rfl rfl rfl; exact D.shrN (b := 32) rfl rfl (by decide))))|refine Qf ?_)<;>refine X.tx (by kernel_rfl) ?_<;>repeat' first|refine Z.p rfl ?_|refine XL.nil ?_)))))<;>(first|refine N.next ?_<;>(refine X.seq ?_<;>((refine Qg (by kernel_rfl) ?_<;>repeat' first|refine Z.p rfl ?_|(refine XL.at 1 ?_;(refine Ql rfl rfl rfl rfl (D.int rfl rfl rfl) (fun h2 => ?_) (fun h2 => ?_)))|refine Qf ?_)<;>(refine Qj rfl ?_ ?_;rotate_left;(focus (intro hc;first|exact no_ hc rfl|(refine X.skip ?_)));rotate_right;(focus (intro hc;first|exact no_ hc rfl|((refine Qg (by kernel_rfl) ?_<;>repeat' first|refine Z.p rfl ?_|(refine XL.at 1 ?_;((first| have e2 := bl_shift 16 (x / 2 ^ 32) (by omega) | have e2 := bl_shift 16 x (by omega)); (apply Qk rfl rfl rfl rfl; exact D.shrN (b := 16) rfl rfl (by decide))))|refine Qf ?_)<;>refine X.tx (by kernel_rfl) ?_<;>repeat' first|refine Z.p rfl ?_|refine Z.g rfl (by omega) ?_|refine XL.nil ?_)))))<;>(first|refine N.next ?_<;>(refine X.seq ?_<;>((refine Qg (by kernel_rfl) ?_<;>repeat' first|refine Z.p rfl ?_|(refine XL.at 1 ?_;(refine Ql rfl rfl rfl rfl (D.int rfl rfl rfl) (fun h3 => ?_) (fun h3 => ?_)))|refine Qf ?_)<;>(refine Qj rfl ?_ ?_;rotate_left;(focus (intro hc;first|exact no_ hc rfl|(refine X.skip ?_)));rotate_right;(focus (intro hc;first|exact no_ hc rfl|((refine Qg (by kernel_rfl) ?_<;>repeat' first|refine Z.p rfl ?_|(refine XL.at 1 ?_;((first| have e3 := bl_shift 8 (x / 2 ^ 32 / 2 ^ 16) (by omega) | have e3 := bl_shift 8 (x / 2 ^ 32) (by omega) | have e3 := bl_shift 8 (x / 2 ^ 16) (by omega) | have e3 := bl_shift 8 x (by omega)); (apply Qk rfl rfl rfl rfl; exact D.shrN (b := 8) rfl rfl (by decide))))|refine Qf ?_)<;>refine X.tx (by kernel_rfl) ?_<;>repeat' first|refine Z.p rfl ?_|refine Z.g rfl (by omega) ?_|refine XL.nil ?_)))))<;>(first|refine N.next ?_<;>((refine Qg (by kernel_rfl) ?_<;>repeat' first|(refine XL.at 0 ?_;((first| (obtain ⟨z, hz, hb, hl⟩ : ∃ z, x / 2 ^ 32 / 2 ^ 16 / 2 ^ 8 = z ∧ bl x = bl z + 56 ∧ z < 256 := ⟨_, rfl, by omega, by omega⟩; rw [hz]; have h8 := (bl_le 8 z).2 hl) | (obtain ⟨z, hz, hb, hl⟩ : ∃ z, x / 2 ^ 32 / 2 ^ 16 = z ∧ bl x = bl z + 48 ∧ z < 256 := ⟨_, rfl, by omega, by omega⟩; rw [hz]; have h8 := (bl_le 8 z).2 hl) | (obtain ⟨z, hz, hb, hl⟩ : ∃ z, x / 2 ^ 32 / 2 ^ 8 = z ∧ bl x = bl z + 40 ∧ z < 256 := ⟨_, rfl, by omega, by omega⟩; rw [hz]; have h8 := (bl_le 8 z).2 hl) | (obtain ⟨z, hz, hb, hl⟩ : ∃ z, x / 2 ^ 32 = z ∧ bl x = bl z + 32 ∧ z < 256 := ⟨_, rfl, by omega, by omega⟩; rw [hz]; have h8 := (bl_le 8 z).2 hl) | (obtain ⟨z, hz, hb, hl⟩ : ∃ z, x / 2 ^ 16 / 2 ^ 8 = z ∧ bl x = bl z + 24 ∧ z < 256 := ⟨_, rfl, by omega, by omega⟩; rw [hz]; have h8 := (bl_le 8 z).2 hl) | (obtain ⟨z, hz, hb, hl⟩ : ∃ z, x / 2 ^ 16 = z ∧ bl x = bl z + 16 ∧ z < 256 := ⟨_, rfl, by omega, by omega⟩; rw [hz]; have h8 := (bl_le 8 z).2 hl) | (obtain ⟨z, hz, hb, hl⟩ : ∃ z, x / 2 ^ 8 = z ∧ bl x = bl z + 8 ∧ z < 256 := ⟨_, rfl, by omega, by omega⟩; rw [hz]; have h8 := (bl_le 8 z).2 hl) | (have hl : x < 256 := (by omega); have h8 := (bl_le 8 x).2 hl)); (apply Qk rfl rfl rfl rfl; exact D.move rfl)))|refine Z.p rfl ?_|(refine XL.at 2 ?_;((apply Qk rfl rfl rfl rfl; exact D.convN rfl rfl); rw [Nat.mod_eq_of_lt (show _ < 2 ^ IntKind.u8.bits from hl)]))|(refine XL.at 3 ?_;((apply Qk rfl rfl rfl rfl; exact D.idx _ (l := tab8) (by kernel_rfl) rfl rfl (tab8_at hl)); rw [tab8_val hl]))|(refine XL.at 4 ?_;((apply Qk rfl rfl rfl rfl; exact D.conv64 rfl (by omega))))|(refine XL.at 5 ?_;((apply Qk rfl rfl rfl rfl; exact D.add64 rfl rfl (by omega))))|refine Qf ?_)<;>(apply X.r1 Tryz.results252 (Qi rfl);(focus (refine ⟨congrArg (Value.int IntKind.i64) ?_, rfl⟩; omega));exact fun _=>Conf.takes))))))))
theorem Len8_spec (x : Nat) (hx : x < 256) (w : World) : Spec Tryz.prog 314 #[.int .u8 x] w (fun _ => False) (fun v A => v = .int .i64 ((bl x : Nat) : Int) ∧ A = []) := by
  have h8 := (bl_le 8 x).2 hx
  refine Spec.enter (args := [.int .u8 x]) (A := []) Tryz.func314 rfl Tryz.ntmps314 rfl (fun _ h => h) ?_
  ((refine Qg (by kernel_rfl) ?_<;>repeat' first|refine Z.p rfl ?_|refine Qf ?_)<;>(refine Qg (by kernel_rfl) ?_<;>repeat' first|refine Z.p rfl ?_|(refine XL.at 1 ?_;((apply Qk rfl rfl rfl rfl; exact D.idx _ (l := tab8) (by kernel_rfl) rfl rfl (tab8_at hx)); rw [tab8_val hx]))|(refine XL.at 2 ?_;((apply Qk rfl rfl rfl rfl; exact D.conv64 rfl (by omega))))|refine Qf ?_)<;>(apply X.r1 Tryz.results314 (Qi rfl);(focus (exact ⟨rfl, rfl⟩));exact fun _=>Conf.takes))
theorem Lead8_spec (x : Nat) (hx : x < 256) (w : World) : Spec Tryz.prog 277 #[.int .u8 x] w (fun _ => False) (fun v A => v = .int .i64 ((8 - bl x : Nat) : Int) ∧ A = []) := by
  have h8 := (bl_le 8 x).2 hx
  refine Spec.enter (args := [.int .u8 x]) (A := []) Tryz.func277 rfl Tryz.ntmps277 rfl (fun _ h => h) ?_
  ((refine Qg (by kernel_rfl) ?_<;>repeat' first|refine Z.p rfl ?_|refine Qf ?_)<;>(refine Qg (by kernel_rfl) ?_<;>repeat' first|refine Z.p rfl ?_|(refine XL.at 1 ?_;((refine XL.call rfl rfl rfl rfl (fun w hw => Len8_spec x hx w) ?_; rintro v B' ⟨rfl, rfl⟩; refine Qh ?_)))|(refine XL.at 2 ?_;((apply Qk rfl rfl rfl rfl; exact D.sub64 rfl rfl (by omega)); rw [show 8 - ((bl x : Nat) : Int) = ((8 - bl x : Nat) : Int) from (by omega)]))|refine Qf ?_)<;>(apply X.r1 Tryz.results277 (Qi rfl);(focus (exact ⟨rfl, rfl⟩));exact fun _=>Conf.takes))
theorem Size_spec (x : Nat) (hx : x < 18446744073709551616) (w : World) : Spec Tryz.prog 260 #[.int .u64 x] w (fun _ => False) (fun v A => v = .int .i64 ((vsz x : Nat) : Int) ∧ A = []) := by
  have h8 := (bl_le 64 x).2 hx
  refine Spec.enter (args := [.int .u64 x]) (A := []) Tryz.func260 rfl Tryz.ntmps260 rfl (fun _ h => h) ?_
  ((refine Qg (by kernel_rfl) ?_<;>repeat' first|refine Z.p rfl ?_|refine Qf ?_)<;>(refine Qg (by kernel_rfl) ?_<;>repeat' first|refine Z.p rfl ?_|(refine XL.at 1 ?_;((refine XL.call rfl rfl rfl rfl (fun w hw => LenU64_spec x hx w) ?_; rintro v B' ⟨rfl, rfl⟩; refine Qh ?_)))|(refine XL.at 2 ?_;((apply Qk rfl rfl rfl rfl; exact D.add64 rfl rfl (by omega))))|(refine XL.at 3 ?_;((apply Qk rfl rfl rfl rfl; exact D.sub64 rfl rfl (by omega)); rw [show ((bl x : Nat) : Int) + 7 - 1 = ((bl x + 6 : Nat) : Int) from (by omega)]))|(refine XL.at 4 ?_;((apply Qk rfl rfl rfl rfl; exact D.quo64 (b := 7) rfl rfl ⟨by decide, by omega⟩)))|refine Z.mx rfl rfl rfl ?_|refine Z.mn rfl rfl rfl ?_|refine Qf ?_)<;>(apply X.r1 Tryz.results260 (Qi rfl);(focus (refine ⟨congrArg (Value.int IntKind.i64) ?_, rfl⟩; unfold vsz; omega));exact fun _=>Conf.takes))
theorem head_spec (n : Nat) (hn : 1 ≤ n ∧ n ≤ 9) (w : World) : Spec Tryz.prog 261 #[.int .i64 n] w (fun _ => False) (fun v A => v = .int .u8 ((hd n : Nat) : Int) ∧ A = []) := by
  refine Spec.enter (args := [.int .i64 n]) (A := []) Tryz.func261 rfl Tryz.ntmps261 rfl (fun _ h => h) ?_
  ((refine Qg (by kernel_rfl) ?_<;>repeat' first|refine Z.p rfl ?_|refine Qf ?_)<;>(refine Qg (by kernel_rfl) ?_<;>repeat' first|(refine XL.at 4 ?_;((apply Qk rfl rfl rfl rfl; exact D.notN rfl rfl (Nat.lt_of_le_of_lt (Nat.div_le_self _ _) (by decide)))))|refine Z.p rfl ?_|(refine XL.at 1 ?_;((apply Qk rfl rfl rfl rfl; exact D.sub64 rfl rfl (by omega)); rw [show (n : Int) - 1 = ((n - 1 : Nat) : Int) from (by omega)]))|(refine XL.at 2 ?_;((apply Qk rfl rfl rfl rfl; exact D.convN rfl rfl); rw [Nat.mod_eq_of_lt (show n - 1 < 2 ^ IntKind.u64.bits from Nat.lt_of_le_of_lt (show n - 1 ≤ 8 by omega) (by decide))]))|(refine XL.at 3 ?_;((apply Qk rfl rfl rfl rfl; exact D.shrN (a := 255) rfl rfl (show n - 1 ≤ 8 by omega))))|refine Qf ?_)<;>(apply X.r1 Tryz.results261 (Qi rfl);(focus (exact ⟨rfl, rfl⟩));exact fun _=>Conf.takes))
theorem put_spec (w : World) (H : Nat → Prop) (g : Nat) (a : Option Addr) (c : Nat) (l : Bs) (x n : Nat) (hown : Sep [cells g [.slice a (List.length l) c] 244, own 5 1 (.slice a (List.length l) c) (List.length l) (encY l)] w H) (hn : n ≤ 8) (hbd : l.length ≤ 1000000000) : Spec Tryz.prog 217 #[.pointer (some ⟨g, 0, none⟩), .int .u64 x, .int .i64 n] w H (fun v A => ∃ a' c' o, v = .tuple #[] ∧ o = l ++ fixB x n ∧ A = [cells g [.slice a' (List.length o) c'] 244, own 5 1 (.slice a' (List.length o) c') (List.length o) (encY o)]) := by
  refine Spec.enter (args := [.pointer (some ⟨g, 0, none⟩), .int .u64 x, .int .i64 n]) (A := [cells g [.slice a (List.length l) c] 244, own 5 1 (.slice a (List.length l) c) (List.length l) (encY l)]) Tryz.func217 rfl Tryz.ntmps217 rfl hown ?_
  ((refine Qg (by kernel_rfl) ?_<;>repeat' first|refine Z.p rfl ?_|refine Z.g rfl (by omega) ?_|refine Qf ?_)<;>refine X.block ?_<;>((refine Qu (ι := Nat × Option Addr × Nat × Bs) (fun y => [(0, .pointer (some ⟨g, 0, none⟩)), (1, .int .u64 x), (6, .int .i64 ((y.1 : Int) - 1))]) (fun y => [cells g [.slice y.2.1 (List.length y.2.2.2) y.2.2.1] 244, own 5 1 (.slice y.2.1 (List.length y.2.2.2) y.2.2.1) (List.length y.2.2.2) (encY y.2.2.2)]) (fun y => y.1 ≤ n ∧ y.2.2.2 ++ fixB x y.1 = l ++ fixB x n) (fun y => y.1) ((n, a, c, l)) ?_ ?_ ?_ ?_; (focus (exact ⟨Nat.le_refl _, rfl⟩)); (focus (repeat (first| exact Sub.nil | refine Sub.cons rfl ?_))); (focus (exact (fun w h => h.takes))); rintro ⟨r, a1, c1, o⟩ ⟨hr, ho⟩; (dsimp only at *; have hol : o.length ≤ 1000000008 := (by have := congrArg List.length ho; simp [fixB_len] at this; omega))) <;> (refine X.seq ?_<;>((refine Qg (by kernel_rfl) ?_<;>repeat' first|refine Z.p rfl ?_|(refine XL.at 1 ?_;(first| refine Ql rfl rfl rfl rfl (D.int rfl rfl rfl) (fun h1 => ?_) (fun h1 => ?_)))|refine Qf ?_)<;>(refine Qj rfl ?_ ?_;rotate_left;(focus (intro hc;first|exact no_ hc rfl|(refine Qs ?_)));rotate_right;(focus (intro hc;first|exact no_ hc rfl|(refine X.skip ?_)))))<;>(first|refine Ex.then ?_|refine N.next ?_<;>(refine X.seq ?_<;>(refine X.block ?_<;>(refine X.tx (by kernel_rfl) ?_<;>repeat' first|refine Z.p rfl ?_|(refine XL.at 7 ?_;(obtain ⟨r', rfl⟩ : ∃ r', r = r' + 1 := (⟨r - 1, by omega⟩); (apply Qk rfl rfl rfl rfl; exact D.mul64 rfl rfl (by omega)); rw [show (8 : Int) * (((r' + 1 : Nat) : Int) - 1) = ((8 * r' : Nat) : Int) from (by omega)]))|(refine XL.at 8 ?_;((apply Qk rfl rfl rfl rfl; exact D.convN rfl rfl); rw [Nat.mod_eq_of_lt (show 8 * r' < 2 ^ IntKind.u64.bits from Nat.lt_of_le_of_lt (show 8 * r' ≤ 64 by omega) (by decide))]))|(refine XL.at 9 ?_;((apply Qk rfl rfl rfl rfl; exact D.shrN rfl rfl (show 8 * r' ≤ 64 by omega)); rw [show x / 2 ^ (8 * r') = x / 256 ^ r' from (by rw [Nat.pow_mul])]))|(refine XL.at 10 ?_;((apply Qk rfl rfl rfl rfl; exact D.convN rfl rfl); rw [show ((x / 256 ^ r' % 2 ^ IntKind.u8.bits : Nat) : Int) = ((UInt8.ofNat (x / 256 ^ r')).toNat : Int) from rfl]))|(refine XL.at 12 ?_;((refine XL.append rfl rfl rfl rfl rfl rfl ?_ ?_ (fun a' c' => ?_); (focus (skip; unfold maxLen; omega)); (focus (intro _ _; infer_instance))); rw [encY_snoc o, show o.length + 1 = (o ++ [UInt8.ofNat (x / 256 ^ r')]).length from (by simp)]))|refine Z.fa rfl rfl rfl ?_|refine Z.l1 rfl rfl rfl ?_|refine XL.slice1 rfl rfl rfl rfl rfl rfl (by intro g; infer_instance) (fun g_ => ?_)|refine Qr rfl rfl rfl rfl rfl ?_|refine XL.nil ?_)<;>(first|refine N.block ?_))<;>(first|refine N.next ?_<;>(refine X.tx (by kernel_rfl) ?_<;>repeat' first|refine Z.p rfl ?_|(refine XL.at 1 ?_;((apply Qk rfl rfl rfl rfl; exact D.sub64 rfl rfl (by omega)); rw [show (((r' + 1 : Nat) : Int) - 1) - 1 = ((r' : Nat) : Int) - 1 from (by omega)]))|refine XL.nil ?_))))) <;> (first| refine Ex.then ?_ | ((refine Qp ((r', a', c', o ++ [UInt8.ofNat (x / 256 ^ r')])) ?_ ?_ ?_ ?_; (focus (exact ⟨by dsimp only; omega, by dsimp only; rw [← ho]; simp [fixB]⟩)); (focus (first| omega )); (focus (repeat (first| exact Sub.nil | refine Sub.cons rfl ?_))); exact (fun w h => h.takes)))))<;>(first|refine Qo ?_)) <;> ((repeat (first| refine Rt.then ?_ )); (first| apply N.done (Res.r0 Tryz.results217 ) ); (focus (obtain rfl : r = 0 := (by omega); have ho' : o = l ++ fixB x n := (by rw [← ho]; simp [fixB]); exact ⟨a1, c1, o, rfl, ho', rfl⟩)); exact fun w h => h.takes)
end Go.Lx
