/- Texts Bb Xu Sz, merged: a claim has at most 60 files. -/
import Derived.Test.YthgnlbibdiileaaGreatM4
import Derived.Test.YthgnlbibdiileaaGreatM14
import Derived.Test.YthgnlbibdiileaaGreatM15
import Derived.Test.YthgnlbibdiileaaGreatM16
import Derived.Test.YthgnlbibdiileaaGreatM8
import Derived.Test.YthgnlbibdiileaaGreatM3
import Derived.Shelf.SlIterI.Nil
import Derived.Shelf.SortM.Plain
import Derived.Shelf.SortM.SortNone
import Derived.Shelf.SlMaps.Clone
import Derived.Test.YthgnlbibdiileaaGreatProg
/- Walks: which records may be, by the program and by the document's answer; how many sectors spans have. -/
namespace Go.Lx
open Go.Proofs
set_option linter.unusedVariables false
set_option linter.unusedSimpArgs false
set_option maxRecDepth 20000
set_option maxHeartbeats 4000000
theorem Rd.dSn {w : World} {a : Option Addr} {n c m : Nat} {xs : List Sp} {x : Sp} (h : Rd w 2 a n c (encS xs)) (hx : xs[m]? = some x) : w.cell? (el a (m * 2 + 1)) = some (.int .i64 x.2) := by
  have := Rd.sp h hx 1 (.int .i64 x.2) rfl
  rwa [el_add] at this
theorem Rd.dS0 {w : World} {a : Option Addr} {n c m : Nat} {xs : List Sp} {x : Sp} (h : Rd w 2 a n c (encS xs)) (hx : xs[m]? = some x) : w.cell? (el a (m * 2)) = some (.int .i64 x.1) := by
  have := Rd.sp h hx 0 (.int .i64 x.1) rfl
  rwa [el_add] at this
theorem recTotal_spec (w : World) (a : Option Addr) (c : Nat) (l : List Sp) (hl : Rd w 2 a l.length c (encS l)) (hm : ∀ x ∈ l, mayS x) (hbd : l.length ≤ 1000000) : Spec Tryz.prog 109 #[.slice a l.length c] w (fun _ => False) (fun v A => v = .int .i64 (sumS l) ∧ A = []) := by
  have hbd' := hl.bd'
  refine Spec.enter (args := [.slice a l.length c]) (A := []) Tryz.func109 rfl Tryz.ntmps109 rfl (fun _ h => h) ?_
  ((refine X.st (by kernel_rfl) ?_<;>repeat' first|refine Z.p rfl ?_|refine XL.nn ?_)<;>(refine X.st (by kernel_rfl) ?_<;>repeat' first|refine Z.p rfl ?_|refine XL.nn ?_)<;>refine X.seq ?_<;>((refine X.st (by kernel_rfl) ?_<;>repeat' first|refine Z.p rfl ?_|refine Z.ln rfl rfl ?_|refine Z.lnL rfl rfl ?_|refine Z.lnS rfl rfl ?_|refine XL.nn ?_)<;>refine X.block ?_<;>((refine X.loop (ι := Nat) (fun i => [(3, .int .i64 (sumS (l.take i))), (6, .slice a l.length c), (7, .int .i64 l.length), (8, .int .i64 ((i : Nat) : Int))]) (fun _ => []) (fun i => i ≤ l.length) (fun i => l.length - i) (0) ?_ ?_ ?_ ?_; (focus (exact Nat.zero_le _)); (focus (repeat (first | exact Sub.nil | refine Sub.cons rfl ?_))); (focus (exact (fun w h => h.takes))); rintro i hi; (dsimp only at *)) <;> ((refine X.st (by kernel_rfl) ?_<;>repeat' first|(refine XL.at 0 ?_;(refine Z.cs rfl (fun h1 => ?_) (fun h1 => ?_)))|refine XL.nn ?_)<;>refine X.seq ?_<;>((refine X.cond rfl ?_ ?_;rotate_left;(focus (intro hc;first|exact no_ hc rfl|(refine X.exit ?_)));rotate_right;(focus (intro hc;first|exact no_ hc rfl|(refine X.skip ?_)))))<;>(first|refine Ex.then ?_|refine N.next ?_<;>(refine X.seq ?_<;>(refine X.block ?_<;>((refine X.st (by kernel_rfl) ?_<;>repeat' first|(refine XL.at 0 ?_;(have hil : i < l.length := (by omega); (obtain ⟨s, hs⟩ := get_lt hil); have hsm := hm s (List.mem_of_getElem? hs); have hb0 := sumS_bd hm i; refine Z.ix i rfl rfl rfl rfl hil (hl.sm (by omega)) ?_))|(refine XL.at 1 ?_;(refine Z.lb rfl rfl rfl (fun w hw j u hu => Rd.sp (Rd.conf0 hl hw) hs j u hu) ?_))|refine XL.alloc rfl rfl rfl (by intro g; infer_instance) (fun g => ?_)|refine XL.store1 rfl rfl rfl rfl rfl ?_|refine XL.storeN rfl rfl rfl rfl rfl rfl ?_|refine XL.storeP rfl rfl rfl rfl rfl rfl ?_|refine XL.nn ?_)<;>refine X.tx (by kernel_rfl) ?_<;>repeat' first|refine Z.p rfl ?_|(refine XL.at 3 ?_;(refine Z.g rfl (by unfold mayS at hsm; omega) ?_; rw [← sumS_take hs]))|refine Z.fa rfl rfl rfl ?_|refine Z.l1 rfl rfl rfl ?_|refine Z.lN rfl rfl rfl ?_|refine Z.lP rfl rfl rfl ?_|refine XL.nil ?_)<;>(first|refine N.block ?_|refine Ex.here ?_|refine Ex.out rfl ?_))<;>(first|refine Ex.then ?_|refine N.next ?_<;>(refine X.tx (by kernel_rfl) ?_<;>repeat' first|refine Z.p rfl ?_|refine Z.g rfl (by omega) ?_|refine Z.w rfl ?_|refine XL.nil ?_))))) <;> (first | refine Ex.then ?_ | ((refine N.again ((i + 1)) ?_ ?_ ?_ ?_; (focus (omega)); (focus (first | omega | (dsimp only; omega))); (focus (repeat (first | exact Sub.nil | refine Sub.cons rfl ?_))); exact (fun w h => h.takes)))))<;>(first|refine N.block ?_|refine Ex.here ?_|refine Ex.out rfl ?_))<;>(first|refine Ex.then ?_|refine N.next ?_<;>((refine X.st (by kernel_rfl) ?_<;>repeat' first|refine Z.p rfl ?_|refine XL.nn ?_)<;>(apply X.r1 Tryz.results109 (RV.tmp rfl);(focus (exact ⟨by rw [List.take_of_length_le (by omega)], rfl⟩));exact fun _=>Conf.takes))))
theorem bTotal_spec (w : World) (a : Option Addr) (c : Nat) (l : List Sp) (hl : Rd w 2 a l.length c (encS l)) (hm : ∀ x ∈ l, mayS x) (hbd : l.length ≤ 1000000) : Spec Tryz.prog 35 #[.slice a l.length c] w (fun _ => False) (fun v A => v = .int .i64 (sumS l) ∧ A = []) := by
  have hbd' := hl.bd'
  refine Spec.enter (args := [.slice a l.length c]) (A := []) Tryz.func35 rfl Tryz.ntmps35 rfl (fun _ h => h) ?_
  ((refine X.st (by kernel_rfl) ?_<;>repeat' first|refine Z.p rfl ?_|refine XL.nn ?_)<;>(refine X.st (by kernel_rfl) ?_<;>repeat' first|refine Z.p rfl ?_|refine XL.nn ?_)<;>refine X.seq ?_<;>((refine X.st (by kernel_rfl) ?_<;>repeat' first|refine Z.p rfl ?_|refine Z.ln rfl rfl ?_|refine Z.lnL rfl rfl ?_|refine Z.lnS rfl rfl ?_|refine XL.nn ?_)<;>refine X.block ?_<;>((refine X.loop (ι := Nat) (fun i => [(3, .int .i64 (sumS (l.take i))), (6, .slice a l.length c), (7, .int .i64 l.length), (8, .int .i64 ((i : Nat) : Int))]) (fun _ => []) (fun i => i ≤ l.length) (fun i => l.length - i) (0) ?_ ?_ ?_ ?_; (focus (exact Nat.zero_le _)); (focus (repeat (first | exact Sub.nil | refine Sub.cons rfl ?_))); (focus (exact (fun w h => h.takes))); rintro i hi; (dsimp only at *)) <;> ((refine X.st (by kernel_rfl) ?_<;>repeat' first|(refine XL.at 0 ?_;(refine Z.cs rfl (fun h1 => ?_) (fun h1 => ?_)))|refine XL.nn ?_)<;>refine X.seq ?_<;>((refine X.cond rfl ?_ ?_;rotate_left;(focus (intro hc;first|exact no_ hc rfl|(refine X.exit ?_)));rotate_right;(focus (intro hc;first|exact no_ hc rfl|(refine X.skip ?_)))))<;>(first|refine Ex.then ?_|refine N.next ?_<;>(refine X.seq ?_<;>(refine X.block ?_<;>((refine X.st (by kernel_rfl) ?_<;>repeat' first|(refine XL.at 0 ?_;(have hil : i < l.length := (by omega); (obtain ⟨s, hs⟩ := get_lt hil); have hsm := hm s (List.mem_of_getElem? hs); have hb0 := sumS_bd hm i; refine Z.ix i rfl rfl rfl rfl hil (hl.sm (by omega)) ?_))|(refine XL.at 1 ?_;(refine Z.lb rfl rfl rfl (fun w hw j u hu => Rd.sp (Rd.conf0 hl hw) hs j u hu) ?_))|refine XL.alloc rfl rfl rfl (by intro g; infer_instance) (fun g => ?_)|refine XL.store1 rfl rfl rfl rfl rfl ?_|refine XL.storeN rfl rfl rfl rfl rfl rfl ?_|refine XL.storeP rfl rfl rfl rfl rfl rfl ?_|refine XL.nn ?_)<;>refine X.tx (by kernel_rfl) ?_<;>repeat' first|refine Z.p rfl ?_|(refine XL.at 3 ?_;(refine Z.g rfl (by unfold mayS at hsm; omega) ?_; rw [← sumS_take hs]))|refine Z.fa rfl rfl rfl ?_|refine Z.l1 rfl rfl rfl ?_|refine Z.lN rfl rfl rfl ?_|refine Z.lP rfl rfl rfl ?_|refine XL.nil ?_)<;>(first|refine N.block ?_|refine Ex.here ?_|refine Ex.out rfl ?_))<;>(first|refine Ex.then ?_|refine N.next ?_<;>(refine X.tx (by kernel_rfl) ?_<;>repeat' first|refine Z.p rfl ?_|refine Z.g rfl (by omega) ?_|refine Z.w rfl ?_|refine XL.nil ?_))))) <;> (first | refine Ex.then ?_ | ((refine N.again ((i + 1)) ?_ ?_ ?_ ?_; (focus (omega)); (focus (first | omega | (dsimp only; omega))); (focus (repeat (first | exact Sub.nil | refine Sub.cons rfl ?_))); exact (fun w h => h.takes)))))<;>(first|refine N.block ?_|refine Ex.here ?_|refine Ex.out rfl ?_))<;>(first|refine Ex.then ?_|refine N.next ?_<;>((refine X.st (by kernel_rfl) ?_<;>repeat' first|refine Z.p rfl ?_|refine XL.nn ?_)<;>(apply X.r1 Tryz.results35 (RV.tmp rfl);(focus (exact ⟨by rw [List.take_of_length_le (by omega)], rfl⟩));exact fun _=>Conf.takes))))
theorem rTotal_spec (w : World) (a : Option Addr) (c : Nat) (l : List Sp) (hl : Rd w 2 a l.length c (encS l)) (hm : ∀ x ∈ l, mayS x) (hbd : l.length ≤ 1000000) : Spec Tryz.prog 42 #[.slice a l.length c] w (fun _ => False) (fun v A => v = .int .i64 (sumS l) ∧ A = []) := by
  have hbd' := hl.bd'
  refine Spec.enter (args := [.slice a l.length c]) (A := []) Tryz.func42 rfl Tryz.ntmps42 rfl (fun _ h => h) ?_
  ((refine X.st (by kernel_rfl) ?_<;>repeat' first|refine Z.p rfl ?_|refine XL.nn ?_)<;>(refine X.st (by kernel_rfl) ?_<;>repeat' first|refine Z.p rfl ?_|refine XL.nn ?_)<;>refine X.seq ?_<;>((refine X.st (by kernel_rfl) ?_<;>repeat' first|refine Z.p rfl ?_|refine XL.nn ?_)<;>refine X.block ?_<;>((refine X.loop (ι := Nat) (fun i => [(0, .slice a l.length c), (3, .int .i64 (sumS (l.take i))), (4, .int .i64 ((i : Nat) : Int))]) (fun _ => []) (fun i => i ≤ l.length) (fun i => l.length - i) (0) ?_ ?_ ?_ ?_; (focus (exact Nat.zero_le _)); (focus (repeat (first | exact Sub.nil | refine Sub.cons rfl ?_))); (focus (exact (fun w h => h.takes))); rintro i hi; (dsimp only at *)) <;> (refine X.seq ?_<;>((refine X.st (by kernel_rfl) ?_<;>repeat' first|refine Z.p rfl ?_|(refine XL.at 3 ?_;(refine Z.cs rfl (fun h1 => ?_) (fun h1 => ?_)))|refine Z.ln rfl rfl ?_|refine Z.lnL rfl rfl ?_|refine Z.lnS rfl rfl ?_|refine XL.nn ?_)<;>(refine X.cond rfl ?_ ?_;rotate_left;(focus (intro hc;first|exact no_ hc rfl|(refine X.exit ?_)));rotate_right;(focus (intro hc;first|exact no_ hc rfl|(refine X.skip ?_)))))<;>(first|refine Ex.then ?_|refine N.next ?_<;>(refine X.seq ?_<;>(refine X.block ?_<;>(refine X.tx (by kernel_rfl) ?_<;>repeat' first|refine Z.p rfl ?_|(refine XL.at 3 ?_;(have hil : i < l.length := (by omega); (obtain ⟨s, hs⟩ := get_lt hil); have hsm := hm s (List.mem_of_getElem? hs); have hb0 := sumS_bd hm i; refine Z.ix i rfl rfl rfl rfl hil (hl.sm (by omega)) ?_))|(refine XL.at 5 ?_;(refine Z.la rfl rfl (fun w hw => (Rd.dSn (Rd.conf0 hl hw) hs)) ?_))|(refine XL.at 6 ?_;(refine Z.g rfl (by unfold mayS at hsm; omega) ?_; rw [← sumS_take hs]))|refine Z.fa rfl rfl rfl ?_|refine XL.nil ?_)<;>(first|refine N.block ?_|refine Ex.here ?_|refine Ex.out rfl ?_))<;>(first|refine Ex.then ?_|refine N.next ?_<;>(refine X.tx (by kernel_rfl) ?_<;>repeat' first|refine Z.p rfl ?_|refine Z.g rfl (by omega) ?_|refine Z.w rfl ?_|refine XL.nil ?_))))) <;> (first | refine Ex.then ?_ | ((refine N.again ((i + 1)) ?_ ?_ ?_ ?_; (focus (omega)); (focus (first | omega | (dsimp only; omega))); (focus (repeat (first | exact Sub.nil | refine Sub.cons rfl ?_))); exact (fun w h => h.takes)))))<;>(first|refine N.block ?_|refine Ex.here ?_|refine Ex.out rfl ?_))<;>(first|refine Ex.then ?_|refine N.next ?_<;>((refine X.st (by kernel_rfl) ?_<;>repeat' first|refine Z.p rfl ?_|refine XL.nn ?_)<;>(apply X.r1 Tryz.results42 (RV.tmp rfl);(focus (exact ⟨by rw [List.take_of_length_le (by omega)], rfl⟩));exact fun _=>Conf.takes))))
theorem r10Total_spec (w : World) (a : Option Addr) (c : Nat) (l : List Sp) (hl : Rd w 2 a l.length c (encS l)) (hm : ∀ x ∈ l, mayS x) (hbd : l.length ≤ 1000000) : Spec Tryz.prog 44 #[.slice a l.length c] w (fun _ => False) (fun v A => v = .int .i64 (sumS l) ∧ A = []) := by
  have hbd' := hl.bd'
  refine Spec.enter (args := [.slice a l.length c]) (A := []) Tryz.func44 rfl Tryz.ntmps44 rfl (fun _ h => h) ?_
  ((refine X.st (by kernel_rfl) ?_<;>repeat' first|refine Z.p rfl ?_|refine XL.nn ?_)<;>(refine X.st (by kernel_rfl) ?_<;>repeat' first|refine Z.p rfl ?_|refine XL.nn ?_)<;>refine X.seq ?_<;>((refine X.st (by kernel_rfl) ?_<;>repeat' first|refine Z.p rfl ?_|refine XL.nn ?_)<;>refine X.block ?_<;>((refine X.loop (ι := Nat) (fun i => [(0, .slice a l.length c), (3, .int .i64 (sumS (l.take i))), (4, .int .i64 ((i : Nat) : Int))]) (fun _ => []) (fun i => i ≤ l.length) (fun i => l.length - i) (0) ?_ ?_ ?_ ?_; (focus (exact Nat.zero_le _)); (focus (repeat (first | exact Sub.nil | refine Sub.cons rfl ?_))); (focus (exact (fun w h => h.takes))); rintro i hi; (dsimp only at *)) <;> (refine X.seq ?_<;>((refine X.st (by kernel_rfl) ?_<;>repeat' first|refine Z.p rfl ?_|(refine XL.at 3 ?_;(refine Z.cs rfl (fun h1 => ?_) (fun h1 => ?_)))|refine Z.ln rfl rfl ?_|refine Z.lnL rfl rfl ?_|refine Z.lnS rfl rfl ?_|refine XL.nn ?_)<;>(refine X.cond rfl ?_ ?_;rotate_left;(focus (intro hc;first|exact no_ hc rfl|(refine X.exit ?_)));rotate_right;(focus (intro hc;first|exact no_ hc rfl|(refine X.skip ?_)))))<;>(first|refine Ex.then ?_|refine N.next ?_<;>(refine X.seq ?_<;>(refine X.block ?_<;>(refine X.tx (by kernel_rfl) ?_<;>repeat' first|refine Z.p rfl ?_|(refine XL.at 3 ?_;(have hil : i < l.length := (by omega); (obtain ⟨s, hs⟩ := get_lt hil); have hsm := hm s (List.mem_of_getElem? hs); have hb0 := sumS_bd hm i; refine Z.ix i rfl rfl rfl rfl hil (hl.sm (by omega)) ?_))|(refine XL.at 5 ?_;(refine Z.la rfl rfl (fun w hw => (Rd.dSn (Rd.conf0 hl hw) hs)) ?_))|(refine XL.at 6 ?_;(refine Z.g rfl (by unfold mayS at hsm; omega) ?_; rw [← sumS_take hs]))|refine Z.fa rfl rfl rfl ?_|refine XL.nil ?_)<;>(first|refine N.block ?_|refine Ex.here ?_|refine Ex.out rfl ?_))<;>(first|refine Ex.then ?_|refine N.next ?_<;>(refine X.tx (by kernel_rfl) ?_<;>repeat' first|refine Z.p rfl ?_|refine Z.g rfl (by omega) ?_|refine Z.w rfl ?_|refine XL.nil ?_))))) <;> (first | refine Ex.then ?_ | ((refine N.again ((i + 1)) ?_ ?_ ?_ ?_; (focus (omega)); (focus (first | omega | (dsimp only; omega))); (focus (repeat (first | exact Sub.nil | refine Sub.cons rfl ?_))); exact (fun w h => h.takes)))))<;>(first|refine N.block ?_|refine Ex.here ?_|refine Ex.out rfl ?_))<;>(first|refine Ex.then ?_|refine N.next ?_<;>((refine X.st (by kernel_rfl) ?_<;>repeat' first|refine Z.p rfl ?_|refine XL.nn ?_)<;>(apply X.r1 Tryz.results44 (RV.tmp rfl);(focus (exact ⟨by rw [List.take_of_length_le (by omega)], rfl⟩));exact fun _=>Conf.takes))))
theorem recWrong_spec (w : World) (x : Sp) : Spec Tryz.prog 126 #[.agg #[.int .i64 x.1, .int .i64 x.2]] w (fun _ => False) (fun v A => v = .bool (decide (¬ mayS x)) ∧ A = []) := by
  refine Spec.enter (args := [.agg #[.int .i64 x.1, .int .i64 x.2]]) (A := []) Tryz.func126 rfl Tryz.ntmps126 rfl (fun _ h => h) ?_
  ((refine X.st (by kernel_rfl) ?_<;>repeat' first|refine Z.p rfl ?_|refine XL.boxN rfl rfl rfl rfl (by intro g; infer_instance) (fun g => ?_)|refine XL.box1 rfl rfl rfl rfl rfl (by intro g; infer_instance) (fun g => ?_)|refine XL.nn ?_)<;>(refine X.st (by kernel_rfl) ?_<;>repeat' first|refine Z.p rfl ?_|(refine XL.at 1 ?_;((refine XL.call rfl rfl rfl rfl (fun w hw => May_spec _ _ w) ?_; rintro v B' ⟨rfl, rfl⟩; refine XL.both ?_); (by_cases hm : mayS x <;> first | rw [if_pos hm] | rw [if_neg hm])))|refine Z.l1 rfl rfl rfl ?_|refine Z.lN rfl rfl rfl ?_|refine Z.lP rfl rfl rfl ?_|refine Z.ct rfl (by omega) ?_|refine Z.cf rfl (by omega) ?_|refine Z.cs rfl (fun _=>?_) (fun _=>?_)|refine XL.nn ?_)<;>(apply X.r1 Tryz.results126 (RV.tmp rfl);(focus (refine ⟨congrArg Value.bool ?_, rfl⟩; simp [hm]));exact fun _=>Conf.takes))
theorem recSpans_spec (w : World) (r : RcB) (a : Option Addr) (c : Nat) (hl : Rd w 2 a r.sp.length c (encS r.sp)) : Spec Tryz.prog 108 #[.agg #[.int .i64 r.ep, .int .i64 r.nu, .int .i64 r.kd, .slice a r.sp.length c, .string ⟨List.toArray r.d⟩, .string ⟨List.toArray r.tx⟩]] w (fun _ => False) (fun v A => ∃ e : Int, v = .int .i64 e ∧ ((e = 0 ∧ SpP r) ∨ (e = 1 ∧ ¬ SpP r)) ∧ A = []) := by
  have hbd := hl.bd'
  refine Spec.enter (args := [.agg #[.int .i64 r.ep, .int .i64 r.nu, .int .i64 r.kd, .slice a r.sp.length c, .string ⟨List.toArray r.d⟩, .string ⟨List.toArray r.tx⟩]]) (A := []) Tryz.func108 rfl Tryz.ntmps108 rfl (fun _ h => h) ?_
  ((refine X.st (by kernel_rfl) ?_<;>repeat' first|refine Z.p rfl ?_|(refine XL.at 0 ?_;(refine XL.boxN rfl rfl rfl rfl (by intro g; infer_instance) (fun g1 => ?_)))|refine XL.nn ?_)<;>(refine X.st (by kernel_rfl) ?_<;>repeat' first|refine Z.p rfl ?_|refine XL.nn ?_)<;>refine X.seq ?_<;>((refine X.st (by kernel_rfl) ?_<;>repeat' first|refine Z.p rfl ?_|(refine XL.at 3 ?_;(refine Z.cs rfl (fun h1 => ?_) (fun h1 => ?_)))|(refine XL.at 8 ?_;(first | refine Z.p rfl ?_ | refine Z.cs rfl (fun h2 => ?_) (fun h2 => ?_)))|(refine XL.at 13 ?_;(first | refine Z.p rfl ?_ | refine Z.sne rfl rfl rfl (fun h3 => ?_) (fun h3 => ?_)))|(refine XL.at 19 ?_;(first | refine Z.p rfl ?_ | (refine XL.skipF rfl rfl rfl rfl ?_) | ((refine XL.call rfl rfl rfl rfl (fun w hw => ContainsFunc_spec w a r.sp.length c r.sp (hl.conf0 hw) 126 [] (fun x => decide (¬ mayS x)) (fun x hx w' hw' => recWrong_spec w' x)) ?_; rintro v B' ⟨rfl, rfl⟩; refine XL.both ?_); (cases h4 : r.sp.any (fun x => decide (¬ mayS x))))))|refine Z.fa rfl rfl rfl ?_|refine Z.l1 rfl rfl rfl ?_|refine Z.lN rfl rfl rfl ?_|refine Z.lP rfl rfl rfl ?_|refine Z.ln rfl rfl ?_|refine Z.lnL rfl rfl ?_|refine Z.lnS rfl rfl ?_|refine Z.pk rfl rfl rfl rfl ?_|refine XL.nn ?_)<;>(refine X.cond rfl ?_ ?_;rotate_left;(focus (intro hc;first|exact no_ hc rfl|(refine X.skip ?_)));rotate_right;(focus (intro hc;first|exact no_ hc rfl|((refine X.st (by kernel_rfl) ?_<;>repeat' first|refine Z.p rfl ?_|refine XL.nn ?_)<;>(apply X.r1 Tryz.results108 (RV.tmp rfl);(focus (first | exact ⟨0, rfl, .inl ⟨rfl, by omega, by omega, h3, any_false h4⟩, rfl⟩ | exact ⟨1, rfl, .inr ⟨rfl, fun h => by unfold SpP at h; omega⟩, rfl⟩ | exact ⟨1, rfl, .inr ⟨rfl, fun h => h3 h.2.2.1⟩, rfl⟩ | exact ⟨1, rfl, .inr ⟨rfl, fun h => any_true h4 h.2.2.2⟩, rfl⟩));exact fun _=>Conf.takes))))))<;>(first|refine Ex.then ?_|refine N.next ?_<;>((refine X.st (by kernel_rfl) ?_<;>repeat' first|refine Z.p rfl ?_|refine XL.nn ?_)<;>(apply X.r1 Tryz.results108 (RV.tmp rfl);(focus (first | exact ⟨0, rfl, .inl ⟨rfl, by omega, by omega, h3, any_false h4⟩, rfl⟩ | exact ⟨1, rfl, .inr ⟨rfl, fun h => by unfold SpP at h; omega⟩, rfl⟩ | exact ⟨1, rfl, .inr ⟨rfl, fun h => h3 h.2.2.1⟩, rfl⟩ | exact ⟨1, rfl, .inr ⟨rfl, fun h => any_true h4 h.2.2.2⟩, rfl⟩));exact fun _=>Conf.takes))))
theorem recIs_spec (w : World) (n : Int) : Spec Tryz.prog 51 #[.int .i64 n] w (fun _ => False) (fun v A => v = .bool (decide (1 ≤ n ∧ n ≤ 3)) ∧ A = []) := by
  refine Spec.enter (args := [.int .i64 n]) (A := []) Tryz.func51 rfl Tryz.ntmps51 rfl (fun _ h => h) ?_
  ((refine X.st (by kernel_rfl) ?_<;>repeat' first|refine Z.p rfl ?_|refine XL.nn ?_)<;>(refine X.st (by kernel_rfl) ?_<;>repeat' first|refine Z.p rfl ?_|(refine XL.at 1 ?_;(refine Z.cs rfl (fun h1 => ?_) (fun h1 => ?_)))|(refine XL.at 4 ?_;(first | refine Z.p rfl ?_ | refine Z.cs rfl (fun h2 => ?_) (fun h2 => ?_)))|refine Z.pk rfl rfl rfl rfl ?_|refine XL.nn ?_)<;>(apply X.r1 Tryz.results51 (RV.tmp rfl);(focus (first | exact ⟨by rw [decide_eq_true (show 1 ≤ n ∧ n ≤ 3 from ⟨by omega, by omega⟩)], rfl⟩ | exact ⟨by rw [decide_eq_false (show ¬ (1 ≤ n ∧ n ≤ 3) from by omega)], rfl⟩));exact fun _=>Conf.takes))
theorem recWritten_spec (w : World) (r : RcB) (a : Option Addr) (c : Nat) (hl : Rd w 2 a r.sp.length c (encS r.sp)) (hd : r.d.length ≤ 1000000000) : Spec Tryz.prog 79 #[.agg #[.int .i64 r.ep, .int .i64 r.nu, .int .i64 r.kd, .slice a r.sp.length c, .string ⟨List.toArray r.d⟩, .string ⟨List.toArray r.tx⟩]] w (fun _ => False) (fun v A => ∃ e : Int, v = .int .i64 e ∧ ((¬ SpP r ∨ 512 < sumS r.sp) ∧ e = 1 ∨ (SpP r ∧ sumS r.sp ≤ 512 ∧ (r.d.length : Int) ≠ 64 * sumS r.sp) ∧ e = 30 ∨ (SpP r ∧ sumS r.sp ≤ 512 ∧ (r.d.length : Int) = 64 * sumS r.sp) ∧ e = 0) ∧ A = []) := by
  have hbd := hl.bd'
  refine Spec.enter (args := [.agg #[.int .i64 r.ep, .int .i64 r.nu, .int .i64 r.kd, .slice a r.sp.length c, .string ⟨List.toArray r.d⟩, .string ⟨List.toArray r.tx⟩]]) (A := []) Tryz.func79 rfl Tryz.ntmps79 rfl (fun _ h => h) ?_
  ((refine X.st (by kernel_rfl) ?_<;>repeat' first|refine Z.p rfl ?_|(refine XL.at 0 ?_;(refine XL.boxN rfl rfl rfl rfl (by intro g; infer_instance) (fun g1 => ?_)))|refine XL.nn ?_)<;>refine X.seq ?_<;>(refine X.block ?_<;>((refine X.st (by kernel_rfl) ?_<;>repeat' first|refine Z.p rfl ?_|(refine XL.at 1 ?_;((refine XL.call rfl rfl rfl rfl (fun w hw => recSpans_spec w r a c (hl.conf0 hw)) ?_; rintro v B' ⟨e, rfl, he, rfl⟩; refine XL.both ?_); (rcases he with ⟨rfl, hS⟩ | ⟨rfl, hS⟩)))|(refine XL.at 6 ?_;(first | refine Z.p rfl ?_ | (refine XL.skipF rfl rfl rfl rfl ?_) | ((refine XL.call rfl rfl rfl rfl (fun w hw => recTotal_spec w a c r.sp (hl.conf0 hw) hS.2.2.2 (by unfold SpP at hS; omega)) ?_; rintro v B' ⟨rfl, rfl⟩; refine XL.both ?_))))|(refine XL.at 7 ?_;(first | refine Z.p rfl ?_ | refine Z.cs rfl (fun h2 => ?_) (fun h2 => ?_)))|refine Z.l1 rfl rfl rfl ?_|refine Z.lN rfl rfl rfl ?_|refine Z.lP rfl rfl rfl ?_|refine Z.ct rfl (by omega) ?_|refine Z.cf rfl (by omega) ?_|refine Z.cs rfl (fun _=>?_) (fun _=>?_)|refine Z.fa rfl rfl rfl ?_|refine Z.pk rfl rfl rfl rfl ?_|refine XL.nn ?_)<;>(refine X.cond rfl ?_ ?_;rotate_left;(focus (intro hc;first|exact no_ hc rfl|((refine X.sd (.a 0 (.b 1 (.a 2 (.a 3 (.b 4 (.c 5 (.a 6 (.a 7 (.a 8 .n))))))))) mixed (by kernel_rfl) ?_<;>repeat' first|refine Z.p rfl ?_|(refine XL.at 5 ?_;((refine XL.call rfl rfl rfl rfl (fun w hw => recTotal_spec w a c r.sp (hl.conf0 hw) hS.2.2.2 (by unfold SpP at hS; omega)) ?_; rintro v B' ⟨rfl, rfl⟩; refine XL.both ?_); have hb := sumS_bd hS.2.2.2 r.sp.length; rw [List.take_length] at hb))|(refine XL.at 6 ?_;(refine Z.g rfl (by omega) ?_))|(refine XL.at 7 ?_;(refine Z.cs rfl (fun h3 => ?_) (fun h3 => ?_)))|refine Z.fa rfl rfl rfl ?_|refine Z.l1 rfl rfl rfl ?_|refine Z.lN rfl rfl rfl ?_|refine Z.lP rfl rfl rfl ?_|refine Z.ln rfl rfl ?_|refine Z.lnL rfl rfl ?_|refine Z.lnS rfl rfl ?_|refine XL.nn ?_)<;>(refine X.cond rfl ?_ ?_;rotate_left;(focus (intro hc;first|exact no_ hc rfl|(refine X.skip ?_)));rotate_right;(focus (intro hc;first|exact no_ hc rfl|((refine X.st (by kernel_rfl) ?_<;>repeat' first|refine Z.p rfl ?_|refine XL.nn ?_)<;>(apply X.r1 Tryz.results79 (RV.tmp rfl);(focus (first | exact ⟨_, rfl, .inl ⟨.inl hS, rfl⟩, rfl⟩ | exact ⟨_, rfl, .inl ⟨.inr (by omega), rfl⟩, rfl⟩ | exact ⟨_, rfl, .inr (.inl ⟨⟨hS, by omega, by omega⟩, rfl⟩), rfl⟩ | exact ⟨_, rfl, .inr (.inr ⟨⟨hS, by omega, by omega⟩, rfl⟩), rfl⟩));exact fun _=>Conf.takes))))))));rotate_right;(focus (intro hc;first|exact no_ hc rfl|((refine X.st (by kernel_rfl) ?_<;>repeat' first|refine Z.p rfl ?_|refine XL.nn ?_)<;>(apply X.r1 Tryz.results79 (RV.tmp rfl);(focus (first | exact ⟨_, rfl, .inl ⟨.inl hS, rfl⟩, rfl⟩ | exact ⟨_, rfl, .inl ⟨.inr (by omega), rfl⟩, rfl⟩ | exact ⟨_, rfl, .inr (.inl ⟨⟨hS, by omega, by omega⟩, rfl⟩), rfl⟩ | exact ⟨_, rfl, .inr (.inr ⟨⟨hS, by omega, by omega⟩, rfl⟩), rfl⟩));exact fun _=>Conf.takes))))))<;>(first|refine N.block ?_|refine Ex.here ?_|refine Ex.out rfl ?_))<;>(first|refine Ex.then ?_|refine N.next ?_<;>((refine X.st (by kernel_rfl) ?_<;>repeat' first|refine Z.p rfl ?_|refine XL.nn ?_)<;>(apply X.r1 Tryz.results79 (RV.tmp rfl);(focus (first | exact ⟨_, rfl, .inl ⟨.inl hS, rfl⟩, rfl⟩ | exact ⟨_, rfl, .inl ⟨.inr (by omega), rfl⟩, rfl⟩ | exact ⟨_, rfl, .inr (.inl ⟨⟨hS, by omega, by omega⟩, rfl⟩), rfl⟩ | exact ⟨_, rfl, .inr (.inr ⟨⟨hS, by omega, by omega⟩, rfl⟩), rfl⟩));exact fun _=>Conf.takes))))
theorem recTrimmed_spec (w : World) (r : RcB) (a : Option Addr) (c : Nat) (hl : Rd w 2 a r.sp.length c (encS r.sp)) : Spec Tryz.prog 84 #[.agg #[.int .i64 r.ep, .int .i64 r.nu, .int .i64 r.kd, .slice a r.sp.length c, .string ⟨List.toArray r.d⟩, .string ⟨List.toArray r.tx⟩]] w (fun _ => False) (fun v A => ∃ e : Int, v = .int .i64 e ∧ ((¬ SpP r ∨ r.d ≠ []) ∧ e = 1 ∨ (SpP r ∧ r.d = []) ∧ e = 0) ∧ A = []) := by
  refine Spec.enter (args := [.agg #[.int .i64 r.ep, .int .i64 r.nu, .int .i64 r.kd, .slice a r.sp.length c, .string ⟨List.toArray r.d⟩, .string ⟨List.toArray r.tx⟩]]) (A := []) Tryz.func84 rfl Tryz.ntmps84 rfl (fun _ h => h) ?_
  ((refine X.st (by kernel_rfl) ?_<;>repeat' first|refine Z.p rfl ?_|(refine XL.at 0 ?_;(refine XL.boxN rfl rfl rfl rfl (by intro g; infer_instance) (fun g1 => ?_)))|refine XL.nn ?_)<;>refine X.seq ?_<;>((refine X.st (by kernel_rfl) ?_<;>repeat' first|refine Z.p rfl ?_|(refine XL.at 1 ?_;((refine XL.call rfl rfl rfl rfl (fun w hw => recSpans_spec w r a c (hl.conf0 hw)) ?_; rintro v B' ⟨e, rfl, he, rfl⟩; refine XL.both ?_); (rcases he with ⟨rfl, hS⟩ | ⟨rfl, hS⟩)))|(refine XL.at 6 ?_;(first | refine Z.p rfl ?_ | refine Z.sne rfl rfl rfl (fun h3 => ?_) (fun h3 => ?_)))|refine Z.l1 rfl rfl rfl ?_|refine Z.lN rfl rfl rfl ?_|refine Z.lP rfl rfl rfl ?_|refine Z.ct rfl (by omega) ?_|refine Z.cf rfl (by omega) ?_|refine Z.cs rfl (fun _=>?_) (fun _=>?_)|refine Z.fa rfl rfl rfl ?_|refine Z.pk rfl rfl rfl rfl ?_|refine XL.nn ?_)<;>(refine X.cond rfl ?_ ?_;rotate_left;(focus (intro hc;first|exact no_ hc rfl|(refine X.skip ?_)));rotate_right;(focus (intro hc;first|exact no_ hc rfl|((refine X.st (by kernel_rfl) ?_<;>repeat' first|refine Z.p rfl ?_|refine XL.nn ?_)<;>(apply X.r1 Tryz.results84 (RV.tmp rfl);(focus (first | exact ⟨_, rfl, .inl ⟨.inl hS, rfl⟩, rfl⟩ | exact ⟨_, rfl, .inl ⟨.inr h3, rfl⟩, rfl⟩ | exact ⟨_, rfl, .inr ⟨⟨hS, h3⟩, rfl⟩, rfl⟩));exact fun _=>Conf.takes))))))<;>(first|refine Ex.then ?_|refine N.next ?_<;>((refine X.st (by kernel_rfl) ?_<;>repeat' first|refine Z.p rfl ?_|refine XL.nn ?_)<;>(apply X.r1 Tryz.results84 (RV.tmp rfl);(focus (first | exact ⟨_, rfl, .inl ⟨.inl hS, rfl⟩, rfl⟩ | exact ⟨_, rfl, .inl ⟨.inr h3, rfl⟩, rfl⟩ | exact ⟨_, rfl, .inr ⟨⟨hS, h3⟩, rfl⟩, rfl⟩));exact fun _=>Conf.takes))))
theorem recNoted_spec (w : World) (r : RcB) (a : Option Addr) (c : Nat) (hl : Rd w 2 a r.sp.length c (encS r.sp)) (ht : r.tx.length ≤ 1000000000) : Spec Tryz.prog 85 #[.agg #[.int .i64 r.ep, .int .i64 r.nu, .int .i64 r.kd, .slice a r.sp.length c, .string ⟨List.toArray r.d⟩, .string ⟨List.toArray r.tx⟩]] w (fun _ => False) (fun v A => ∃ e : Int, v = .int .i64 e ∧ ((r.sp ≠ [] ∨ r.d ≠ [] ∨ 512 < r.tx.length) ∧ e = 1 ∨ ¬ (r.sp ≠ [] ∨ r.d ≠ [] ∨ 512 < r.tx.length) ∧ e = 0) ∧ A = []) := by
  have hbd := hl.bd'
  have h0 : r.sp = [] ↔ ¬ (0 : Int) < r.sp.length := by rw [← List.length_eq_zero_iff]; omega
  refine Spec.enter (args := [.agg #[.int .i64 r.ep, .int .i64 r.nu, .int .i64 r.kd, .slice a r.sp.length c, .string ⟨List.toArray r.d⟩, .string ⟨List.toArray r.tx⟩]]) (A := []) Tryz.func85 rfl Tryz.ntmps85 rfl (fun _ h => h) ?_
  ((refine X.st (by kernel_rfl) ?_<;>repeat' first|refine Z.p rfl ?_|(refine XL.at 0 ?_;(refine XL.boxN rfl rfl rfl rfl (by intro g; infer_instance) (fun g1 => ?_)))|refine XL.nn ?_)<;>refine X.seq ?_<;>((refine X.st (by kernel_rfl) ?_<;>repeat' first|refine Z.p rfl ?_|(refine XL.at 3 ?_;(refine Z.cs rfl (fun h1 => ?_) (fun h1 => ?_)))|(refine XL.at 7 ?_;(first | refine Z.p rfl ?_ | refine Z.sne rfl rfl rfl (fun h2 => ?_) (fun h2 => ?_)))|(refine XL.at 13 ?_;(first | refine Z.p rfl ?_ | refine Z.cs rfl (fun h3 => ?_) (fun h3 => ?_)))|refine Z.fa rfl rfl rfl ?_|refine Z.l1 rfl rfl rfl ?_|refine Z.lN rfl rfl rfl ?_|refine Z.lP rfl rfl rfl ?_|refine Z.ln rfl rfl ?_|refine Z.lnL rfl rfl ?_|refine Z.lnS rfl rfl ?_|refine Z.pk rfl rfl rfl rfl ?_|refine XL.nn ?_)<;>(refine X.cond rfl ?_ ?_;rotate_left;(focus (intro hc;first|exact no_ hc rfl|(refine X.skip ?_)));rotate_right;(focus (intro hc;first|exact no_ hc rfl|((refine X.st (by kernel_rfl) ?_<;>repeat' first|refine Z.p rfl ?_|refine XL.nn ?_)<;>(apply X.r1 Tryz.results85 (RV.tmp rfl);(focus (first | exact ⟨_, rfl, .inl ⟨.inl (fun h => h0.1 h (by omega)), rfl⟩, rfl⟩ | exact ⟨_, rfl, .inl ⟨.inr (.inl h2), rfl⟩, rfl⟩ | exact ⟨_, rfl, .inl ⟨.inr (.inr (by omega)), rfl⟩, rfl⟩ | exact ⟨_, rfl, .inr ⟨fun h => h.elim (fun h => h (h0.2 (by omega))) (fun h => h.elim (fun h => h h2) (fun h => by omega)), rfl⟩, rfl⟩));exact fun _=>Conf.takes))))))<;>(first|refine Ex.then ?_|refine N.next ?_<;>((refine X.st (by kernel_rfl) ?_<;>repeat' first|refine Z.p rfl ?_|refine XL.nn ?_)<;>(apply X.r1 Tryz.results85 (RV.tmp rfl);(focus (first | exact ⟨_, rfl, .inl ⟨.inl (fun h => h0.1 h (by omega)), rfl⟩, rfl⟩ | exact ⟨_, rfl, .inl ⟨.inr (.inl h2), rfl⟩, rfl⟩ | exact ⟨_, rfl, .inl ⟨.inr (.inr (by omega)), rfl⟩, rfl⟩ | exact ⟨_, rfl, .inr ⟨fun h => h.elim (fun h => h (h0.2 (by omega))) (fun h => h.elim (fun h => h h2) (fun h => by omega)), rfl⟩, rfl⟩));exact fun _=>Conf.takes))))
end Go.Lx

/- Own layer, part u: maps with the library: slices.Sorted(maps.Keys(m)), maps.Clone; clear; a map in an interface. Plain theorems. -/
namespace Go.Lx
open Go.Proofs Go.Shelf Go.Maps
set_option linter.unusedVariables false
set_option linter.unusedSimpArgs false

section
variable {β : Type} {P : Program} {f : β → Value} {l : List (Int × β)}
/-- What the kit reads of an element: nothing. -/
def noRd : Value → Option (DataW Unit × List MemPlace) := fun _ => some (.nil, [])
theorem rd_no {P : Program} {k : TypeId} (hk : P.underlying k = some (.int .i64)) {e : MapEntry} {n : Int} (he : e.key = .int .i64 n) (hn : (Lit.int .i64 n).wf = true) : Go.WideElems.rd P k noRd e = some (.int .i64 n, .nil) := by
  unfold Go.WideElems.rd noRd
  rw [he]
  simp [keyOf, hk, mapKey, hn]
theorem i64_wf {n : Int} (h : i64 n) : (Lit.int .i64 n).wf = true := by
  have h3 : IntKind.i64.min = -9223372036854775808 := by decide
  have h4 : IntKind.i64.max = 9223372036854775807 := by decide
  simp only [Lit.wf, Bool.and_eq_true, decide_eq_true_eq, h3, h4]
  unfold i64 at h
  omega
theorem map_key {es : List MapEntry} (hes : es.map kvE = l.map (kvM f)) {x : MapEntry} (hx : x ∈ es) : ∃ p ∈ l, x.key = .int .i64 p.1 := by
  have h1 : kvE x ∈ es.map kvE := List.mem_map.2 ⟨x, hx, rfl⟩
  rw [hes] at h1
  obtain ⟨p, hp, h2⟩ := List.mem_map.1 h1
  exact ⟨p, hp, (congrArg Prod.fst h2).symm⟩
theorem map_ints {k : TypeId} (hk : P.underlying k = some (.int .i64)) : ∀ (es : List MapEntry) (l : List (Int × β)), es.map kvE = l.map (kvM f) → (∀ p ∈ l, i64 p.1) → (es.map (Go.WideElems.rg P k noRd)).map (fun p => intOf p.1) = keyM l
  | [], [], _, _ => rfl
  | [], _ :: _, h, _ => by simp at h
  | _ :: _, [], h, _ => by simp at h
  | e :: es, p :: l, h, hi => by
    simp only [List.map_cons, List.cons.injEq] at h
    have he : e.key = .int .i64 p.1 := congrArg Prod.fst h.1
    have hr := Go.WideElems.rg_of (rd_no hk he (i64_wf (hi p List.mem_cons_self)))
    have ih := map_ints hk es l h.2 (fun q hq => hi q (List.mem_cons_of_mem _ hq))
    simp only [List.map_cons, keyM] at ih ⊢
    rw [hr, ih]
    rfl
/-- A map as the kit owns it. -/
theorem owns_map {w : World} {k : TypeId} {g : Nat} (hk : P.underlying k = some (.int .i64)) {es : Array MapEntry} {clock : Nat} (hb : w.heap[g]? = some (.map es clock)) (hes : es.toList.map kvE = l.map (kvM f)) (hst : MapKept.Stamped es clock) (hi : ∀ p ∈ l, i64 p.1) (hl : l.length ≤ maxLen) :
    ∃ D : DataW Unit, w.ownsMap P k noRd g l.length D ∧ (intKeys D).Perm (keyM l) ∧ Maps.size D = l.length := by
  have hlen : es.toList.length = l.length := by have := congrArg List.length hes; simpa using this
  have hsz : es.size = l.length := by simpa using hlen
  refine ⟨_, ⟨es, clock, hb, ⟨by omega, hst, fun x hx => ?_⟩, Nat.le_of_eq hsz, rfl⟩, ?_, ?_⟩
  · obtain ⟨p, hp, he⟩ := map_key hes hx
    exact ⟨_, rd_no hk he (i64_wf (hi p hp))⟩
  · show ((List.foldr DataW.insert [] (es.toList.map (Go.WideElems.rg P k noRd))).map fun p => intOf p.1).Perm (keyM l)
    rw [← map_ints hk es.toList l hes hi]
    exact (WideShapes.sorted_perm _).map _
  · have := (WideShapes.sorted_perm (es.toList.map (Go.WideElems.rg P k noRd))).length_eq
    simp [Maps.size, hsz] at this ⊢
    omega
/-- 'slices.Sorted' at what 'maps.Keys' hands back. -/
theorem sortedKeys_row {ρ1 ρ2 ρ3 : Ren} (L1 : SlLaysZI.n10 P ρ1) (L2 : SlLaysZI.n6 P ρ2) (L3 : SlLaysM.n5 P ρ3) (h3 : ρ3.f 5 = ρ2.f 9) (he9 : ∀ args w, (callFunc (ρ2.f 9) args).run P w = .ok (.enter (ρ2.f 9) args) w) (hk : P.underlying (ρ1.t 26) = some (.int .i64))
    (w : World) (H : Nat → Prop) (g gm : Nat) (hc : w.cell? ⟨g, 0, none⟩ = some (.map (some gm))) {es : Array MapEntry} {clock : Nat} (hb : w.heap[gm]? = some (.map es clock)) (hes : es.toList.map kvE = l.map (kvM f)) (hst : MapKept.Stamped es clock) (hi : ∀ p ∈ l, i64 p.1) (hl : l.length ≤ 1000000) :
    Spec P (ρ2.f 6) #[.func (.func (ρ1.f 10)) #[] #[.pointer (some ⟨g, 0, none⟩)]] w H (fun v A => ∃ (a : Option Addr) (c : Nat) (ss : List Int), v = .slice a ss.length c ∧ ss.Perm (keyM l) ∧ ss.Pairwise (· ≤ ·) ∧ A = [own (ρ2.t 26) 1 (.slice a ss.length c) ss.length (encN ss)]) := by
  obtain ⟨D, hD, hp, hs⟩ := owns_map (P := P) hk hb hes hst hi (by unfold maxLen; omega)
  have hg : g < w.heap.size := by
    cases h : w.heap[g]? with
    | none => simp [World.cell?, h] at hc
    | some o => exact (Array.getElem?_eq_some_iff.1 h).1
  have hseq : SeqGives Fence.wide 2 P (ρ1.f 10) #[.pointer (some ⟨g, 0, none⟩)] encZ (fun ss => ss.Perm (intKeys D)) (Maps.size D) w :=
    AnyZI.keys_gives L1 Fence.wide 2 trivial rfl (by omega) g gm l.length D w hg hc hD
  have hsort : AnyZI.SortsIn P ρ2 Fence.wide 4 := by
    refine ⟨fun blk off cap ss W hH hblk hsz => callsIn_wide.2 ?_, fun p cap W => callsIn_wide.2 ?_⟩
    · rw [← h3]; exact AnyM.slices_Sort_int L3 blk off cap ss W hH hblk hsz
    · rw [← h3]; exact AnyM.slices_Sort_int_none L3 p cap W
  have cS := AnyZI.sorted_in L2 Fence.wide 5 trivial trivial trivial trivial rfl (by omega) hsort he9 (ρ1.f 10) #[.pointer (some ⟨g, 0, none⟩)] trivial (L1.f10.enters rfl) (fun ss => ss.Perm (intKeys D)) (Maps.size D) (by rw [hs]; unfold maxLen; omega) (by rw [hs]; omega) w hseq
  refine Calls.mono (callsIn_wide.1 cS) ?_
  rintro e w' ⟨v, ss, rfl, hS, hrow, hnil, hB⟩
  have tr : ∀ a b c : Int, decide (a ≤ b) = true → decide (b ≤ c) = true → decide (a ≤ c) = true := fun a b c h1 h2 => by simp only [decide_eq_true_eq] at *; omega
  have to : ∀ a b : Int, (decide (a ≤ b) || decide (b ≤ a)) = true := fun a b => by simp only [Bool.or_eq_true, decide_eq_true_eq]; omega
  obtain ⟨ds, hds⟩ : ∃ ds, ss.mergeSort (fun x y => decide (x ≤ y)) = ds := ⟨_, rfl⟩
  have hpm : ds.Perm ss := by rw [← hds]; exact List.mergeSort_perm ss _
  have hpw : ds.Pairwise (· ≤ ·) := by
    rw [← hds]
    exact (List.pairwise_mergeSort tr to ss).imp (fun h => of_decide_eq_true h)
  have hln := hpm.length_eq
  rw [hds] at hrow
  have henc : ds.map encZ = encN ds := by
    show ds.map encZ = List.flatMap encN1 ds
    rw [List.map_eq_flatMap]
    rfl
  rw [henc, ← hln] at hrow
  have hv : ∃ a c, v = .slice a ds.length c := by
    rcases hrow.2 with ⟨rfl, hz⟩ | ⟨gb, cap, cur, rfl, _⟩
    · exact ⟨none, 0, by rw [hz]⟩
    · exact ⟨_, _, rfl⟩
  obtain ⟨a, c, rfl⟩ := hv
  refine ⟨_, _, rfl, ⟨a, c, ds, rfl, hpm.trans (hS.trans hp), hpw, rfl⟩, ?_⟩
  have hr0 : w'.ownsRow 0 (ρ2.t 26) 1 (.slice a ds.length c) ds.length (encN ds) := by
    refine ⟨hrow.1, ?_⟩
    rcases hrow.2 with h | ⟨gb, cap, cur, h1, h2, h4⟩
    · exact .inl h
    · exact .inr ⟨gb, cap, cur, h1, Nat.zero_le _, h4⟩
  refine ⟨hB.os, hB.tape, hB.output, hB.size, trivial, fun b hb _ => hB.block b hb, ⟨fun b => (Value.slice a ds.length c).ownBlock = some b, ⟨fun b => (Value.slice a ds.length c).ownBlock = some b, fun _ => False, ⟨hr0, fun b => Iff.rfl⟩, fun _ h => h, fun _ _ h => h, fun b => by simp⟩, fun b hb => ?_⟩⟩
  rcases hrow.2 with ⟨h, _⟩ | ⟨gb, cap, cur, h, h2, _⟩
  · rw [h] at hb; cases hb
  · rw [h] at hb
    have : gb = b := by simpa [Value.ownBlock] using hb
    subst this
    exact .inr h2
end
end Go.Lx

/- The shelf's contracts, laid at this seat's program. -/
namespace Go.Proofs
open Go.Shelf
def Tryz.keysZ_ren : Go.Shelf.Ren := ⟨fun | 7 => 91 | 10 => 113 | n => n, fun | 23 => 75 | 26 => 3 | 3 => 79 | 28 => 146 | 0 => 0 | 27 => 145 | 33 => 108 | 4 => 4 | n => n, fun | n => n⟩
theorem Tryz.keysZ : Go.Proofs.SlLaysZI.n7 Tryz.prog Tryz.keysZ_ren := {
  mixed := by kernel_rfl
  f7 := ⟨Tryz.f91.name, by decide, Tryz.func91.trans (congrArg some (by kernel_rfl))⟩
  f10 := ⟨Tryz.f113.name, by decide, Tryz.func113.trans (congrArg some (by kernel_rfl))⟩
  t0 := Tryz.underlying0
  a0 := Tryz.isAgg0
  z0 := Tryz.sizeOf0
  v0 := Tryz.zeroValue0
  t4 := Tryz.underlying4
  a4 := Tryz.isAgg4
  z4 := Tryz.sizeOf4
  v4 := Tryz.zeroValue4
  t23 := Tryz.underlying75
  a23 := Tryz.isAgg75
  z23 := Tryz.sizeOf75
  v23 := Tryz.zeroValue75
  t26 := Tryz.underlying3
  a26 := Tryz.isAgg3
  z26 := Tryz.sizeOf3
  v26 := Tryz.zeroValue3
  t27 := Tryz.underlying145
  a27 := Tryz.isAgg145
  z27 := Tryz.sizeOf145
  v27 := Tryz.zeroValue145
  t28 := Tryz.underlying146
  a28 := Tryz.isAgg146
  z28 := Tryz.sizeOf146
  v28 := Tryz.zeroValue146
  t33 := Tryz.underlying108
  a33 := Tryz.isAgg108
  z33 := Tryz.sizeOf108
  v33 := Tryz.zeroValue108 }
def Tryz.sortedZ_ren : Go.Shelf.Ren := ⟨fun | 6 => 90 | 8 => 111 | 9 => 112 | 11 => 128 | 13 => 130 | 12 => 129 | 23 => 151 | 24 => 140 | 14 => 142 | 15 => 143 | 16 => 144 | 17 => 145 | 18 => 146 | 19 => 147 | 20 => 148 | 21 => 149 | 22 => 150 | 25 => 154 | 26 => 155 | 27 => 156 | 28 => 157 | 29 => 158 | 30 => 153 | 31 => 167 | n => n, fun | 26 => 3 | 28 => 146 | 24 => 143 | 0 => 0 | 3 => 3 | 37 => 156 | 48 => 104 | 50 => 23 | 4 => 4 | 40 => 186 | 39 => 185 | 45 => 190 | 5 => 5 | 9 => 9 | 51 => 194 | 55 => 197 | 57 => 204 | 58 => 205 | 33 => 108 | n => n, fun | n => n⟩
theorem Tryz.sortedZ : Go.Proofs.SlLaysZI.n6 Tryz.prog Tryz.sortedZ_ren := {
  mixed := by kernel_rfl
  f6 := ⟨Tryz.f90.name, by decide, Tryz.func90.trans (congrArg some (by kernel_rfl))⟩
  f8 := ⟨Tryz.f111.name, by decide, Tryz.func111.trans (congrArg some (by kernel_rfl))⟩
  f11 := ⟨Tryz.f128.name, by decide, Tryz.func128.trans (congrArg some (by kernel_rfl))⟩
  t0 := Tryz.underlying0
  a0 := Tryz.isAgg0
  z0 := Tryz.sizeOf0
  v0 := Tryz.zeroValue0
  t24 := Tryz.underlying143
  a24 := Tryz.isAgg143
  z24 := Tryz.sizeOf143
  v24 := Tryz.zeroValue143
  t26 := Tryz.underlying3
  a26 := Tryz.isAgg3
  z26 := Tryz.sizeOf3
  v26 := Tryz.zeroValue3
  t28 := Tryz.underlying146
  a28 := Tryz.isAgg146
  z28 := Tryz.sizeOf146
  v28 := Tryz.zeroValue146
  i26 := by kernel_rfl }
def Tryz.sortZ_ren : Go.Shelf.Ren := ⟨fun | 5 => 112 | 8 => 130 | 7 => 129 | 19 => 151 | 20 => 140 | 10 => 142 | 11 => 143 | 12 => 144 | 13 => 145 | 14 => 146 | 15 => 147 | 16 => 148 | 17 => 149 | 18 => 150 | 30 => 154 | 31 => 155 | 32 => 156 | 33 => 157 | 34 => 158 | 35 => 153 | 40 => 167 | n => n, fun | 23 => 143 | 25 => 3 | 3 => 3 | 32 => 156 | 22 => 143 | 0 => 0 | 44 => 104 | 46 => 23 | 4 => 4 | 36 => 186 | 35 => 185 | 41 => 190 | 5 => 5 | 9 => 9 | 53 => 194 | 57 => 197 | 63 => 204 | 64 => 205 | n => n, fun | n => n⟩
theorem Tryz.sortZ : Go.Proofs.SlLaysM.n5 Tryz.prog Tryz.sortZ_ren := {
  mixed := by kernel_rfl
  f5 := ⟨Tryz.f112.name, by decide, Tryz.func112.trans (congrArg some (by kernel_rfl))⟩
  f7 := ⟨Tryz.f129.name, by decide, Tryz.func129.trans (congrArg some (by kernel_rfl))⟩
  f8 := Tryz.func130.trans (congrArg some (by kernel_rfl))
  f10 := ⟨Tryz.f142.name, by decide, Tryz.func142.trans (congrArg some (by kernel_rfl))⟩
  f11 := ⟨Tryz.f143.name, by decide, Tryz.func143.trans (congrArg some (by kernel_rfl))⟩
  f12 := ⟨Tryz.f144.name, by decide, Tryz.func144.trans (congrArg some (by kernel_rfl))⟩
  f13 := ⟨Tryz.f145.name, by decide, Tryz.func145.trans (congrArg some (by kernel_rfl))⟩
  f14 := ⟨Tryz.f146.name, by decide, Tryz.func146.trans (congrArg some (by kernel_rfl))⟩
  f15 := ⟨Tryz.f147.name, by decide, Tryz.func147.trans (congrArg some (by kernel_rfl))⟩
  f16 := ⟨Tryz.f148.name, by decide, Tryz.func148.trans (congrArg some (by kernel_rfl))⟩
  f17 := ⟨Tryz.f149.name, by decide, Tryz.func149.trans (congrArg some (by kernel_rfl))⟩
  f18 := ⟨Tryz.f150.name, by decide, Tryz.func150.trans (congrArg some (by kernel_rfl))⟩
  f19 := Tryz.func151.trans (congrArg some (by kernel_rfl))
  f20 := Tryz.func140.trans (congrArg some (by kernel_rfl))
  f30 := ⟨Tryz.f154.name, by decide, Tryz.func154.trans (congrArg some (by kernel_rfl))⟩
  f31 := Tryz.func155.trans (congrArg some (by kernel_rfl))
  f32 := Tryz.func156.trans (congrArg some (by kernel_rfl))
  f33 := ⟨Tryz.f157.name, by decide, Tryz.func157.trans (congrArg some (by kernel_rfl))⟩
  f34 := ⟨Tryz.f158.name, by decide, Tryz.func158.trans (congrArg some (by kernel_rfl))⟩
  f35 := ⟨Tryz.f153.name, by decide, Tryz.func153.trans (congrArg some (by kernel_rfl))⟩
  f40 := ⟨Tryz.f167.name, by decide, Tryz.func167.trans (congrArg some (by kernel_rfl))⟩
  t0 := Tryz.underlying0
  a0 := Tryz.isAgg0
  z0 := Tryz.sizeOf0
  v0 := Tryz.zeroValue0
  t3 := Tryz.underlying3
  a3 := Tryz.isAgg3
  z3 := Tryz.sizeOf3
  v3 := Tryz.zeroValue3
  t4 := Tryz.underlying4
  a4 := Tryz.isAgg4
  z4 := Tryz.sizeOf4
  v4 := Tryz.zeroValue4
  t5 := Tryz.underlying5
  a5 := Tryz.isAgg5
  z5 := Tryz.sizeOf5
  v5 := Tryz.zeroValue5
  t9 := Tryz.underlying9
  a9 := Tryz.isAgg9
  z9 := Tryz.sizeOf9
  v9 := Tryz.zeroValue9
  t22 := Tryz.underlying143
  a22 := Tryz.isAgg143
  z22 := Tryz.sizeOf143
  v22 := Tryz.zeroValue143
  t23 := Tryz.underlying143
  a23 := Tryz.isAgg143
  z23 := Tryz.sizeOf143
  v23 := Tryz.zeroValue143
  t25 := Tryz.underlying3
  a25 := Tryz.isAgg3
  z25 := Tryz.sizeOf3
  v25 := Tryz.zeroValue3
  t32 := Tryz.underlying156
  a32 := Tryz.isAgg156
  z32 := Tryz.sizeOf156
  v32 := Tryz.zeroValue156
  t35 := Tryz.underlying185
  a35 := Tryz.isAgg185
  z35 := Tryz.sizeOf185
  v35 := Tryz.zeroValue185
  t36 := Tryz.underlying186
  a36 := Tryz.isAgg186
  z36 := Tryz.sizeOf186
  v36 := Tryz.zeroValue186
  t41 := Tryz.underlying190
  a41 := Tryz.isAgg190
  z41 := Tryz.sizeOf190
  v41 := Tryz.zeroValue190
  t44 := Tryz.underlying104
  a44 := Tryz.isAgg104
  z44 := Tryz.sizeOf104
  v44 := Tryz.zeroValue104
  t46 := Tryz.underlying23
  a46 := Tryz.isAgg23
  z46 := Tryz.sizeOf23
  v46 := Tryz.zeroValue23
  t53 := Tryz.underlying194
  a53 := Tryz.isAgg194
  z53 := Tryz.sizeOf194
  v53 := Tryz.zeroValue194
  t57 := Tryz.underlying197
  a57 := Tryz.isAgg197
  z57 := Tryz.sizeOf197
  v57 := Tryz.zeroValue197
  t63 := Tryz.underlying204
  a63 := Tryz.isAgg204
  z63 := Tryz.sizeOf204
  v63 := Tryz.zeroValue204
  t64 := Tryz.underlying205
  a64 := Tryz.isAgg205
  z64 := Tryz.sizeOf205
  v64 := Tryz.zeroValue205 }
end Go.Proofs
