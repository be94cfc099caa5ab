/- Texts Dg Dh Di, merged: a claim has at most 60 files. -/
import Derived.Test.YtgmfmcammaighaaGreatM4
import Derived.Test.YtgmfmcammaighaaGreatM19
import Derived.Test.YtgmfmcammaighaaGreatM13
/- The document's answer for objects: bytes; the statements' helpers: walks. -/
namespace Go.Lx
open Go.Proofs
set_option linter.unusedVariables false
set_option linter.unusedSimpArgs false
set_option maxRecDepth 20000
set_option maxHeartbeats 4000000
end Go.Lx

/- The statements' helpers for objects: walks. -/
namespace Go.Lx
open Go.Proofs
set_option linter.unusedVariables false
set_option linter.unusedSimpArgs false
set_option maxRecDepth 20000
set_option maxHeartbeats 4000000
def vE4 (x : Ext) : Value := .agg #[.int .i64 x.a, .int .i64 x.n, .int .i64 x.q, .int .i64 x.p]
theorem Dob.eq' {o p : Dob} (h1 : o.k = p.k) (h2 : o.ep = p.ep) (h3 : o.sq = p.sq) (h4 : o.up = p.up) (h5 : o.ps = p.ps) (h6 : o.cs = p.cs) (h7 : o.d = p.d) : o = p := by
  cases o; cases p; simp only at *; subst h1 h2 h3 h4 h5 h6 h7; rfl
theorem dSame07_spec (w : World) (a b : Option Addr) (c d : Nat) (l m : List Ext) (hl : Rd w 4 a l.length c (encE l)) (hr : Rd w 4 b m.length d (encE m)) : Spec Tryz.prog 20 #[.slice a l.length c, .slice b m.length d] w (fun _ => False) (fun v A => v = .bool (decide (l = m)) ∧ A = []) := by
  have hb1 := hl.bd'
  have hb2 := hr.bd'
  refine Spec.enter (args := [.slice a l.length c, .slice b m.length d]) (A := []) Tryz.func20 rfl Tryz.ntmps20 rfl (fun _ h => h) ?_
  ((refine X.st (by kernel_rfl) ?_<;>repeat' first|refine Z.p rfl ?_|refine XL.nn ?_)<;>refine X.seq ?_<;>((refine X.st (by kernel_rfl) ?_<;>repeat' first|refine Z.p rfl ?_|(refine XL.at 4 ?_;(first | refine XL.splitF rfl rfl rfl rfl (D.int rfl rfl rfl) (fun h0 => ?_) (fun h0 => ?_)))|refine Z.ln rfl rfl ?_|refine Z.lnL rfl rfl ?_|refine Z.lnS rfl rfl ?_|refine XL.nn ?_)<;>(refine X.cond rfl ?_ ?_;rotate_left;(focus (intro hc;first|exact no_ hc rfl|(refine X.skip ?_)));rotate_right;(focus (intro hc;first|exact no_ hc rfl|((refine X.st (by kernel_rfl) ?_<;>repeat' first|refine Z.p rfl ?_|refine XL.nn ?_)<;>(apply X.r1 Tryz.results20 (RV.tmp rfl);(focus (refine ⟨congrArg Value.bool ?_, rfl⟩; first | (rw [decide_eq_false (fun h => by subst h; omega)]; done) | (rw [decide_eq_false (fun h => by subst h; rw [hx] at hy; cases hy; exact h2 ⟨rfl, rfl, rfl, rfl⟩)]; done) | (rw [decide_eq_true]; apply List.ext_getElem?; intro j; rcases Nat.lt_or_ge j i with h | h; exact hall j h; rw [List.getElem?_eq_none (by omega), List.getElem?_eq_none (by omega)])));exact fun _=>Conf.takes))))))<;>(first|refine Ex.then ?_|refine N.next ?_<;>(refine X.seq ?_<;>((refine X.st (by kernel_rfl) ?_<;>repeat' first|refine Z.p rfl ?_|refine XL.nn ?_)<;>refine X.block ?_<;>((refine X.loop (ι := Nat) (fun i => [(0, .slice a l.length c), (1, .slice b m.length d), (5, .int .i64 i)]) (fun _ => []) (fun i => i ≤ l.length ∧ ∀ j, j < i → l[j]? = m[j]?) (fun i => l.length - i) (0) ?_ ?_ ?_ ?_; (focus (exact ⟨Nat.zero_le _, fun j hj => by omega⟩)); (focus (repeat (first | exact Sub.nil | refine Sub.cons rfl ?_))); (focus (exact (fun w h => h.takes))); rintro i ⟨hi, hall⟩) <;> (refine X.seq ?_<;>((refine X.st (by kernel_rfl) ?_<;>repeat' first|refine Z.p rfl ?_|(refine XL.at 3 ?_;(first | refine XL.splitF rfl rfl rfl rfl (D.int rfl rfl rfl) (fun h1 => ?_) (fun h1 => ?_)))|refine Z.ln rfl rfl ?_|refine Z.lnL rfl rfl ?_|refine Z.lnS rfl rfl ?_|refine XL.nn ?_)<;>(refine X.cond rfl ?_ ?_;rotate_left;(focus (intro hc;first|exact no_ hc rfl|(refine X.exit ?_)));rotate_right;(focus (intro hc;first|exact no_ hc rfl|(refine X.skip ?_)))))<;>(first|refine Ex.then ?_|refine N.next ?_<;>(refine X.seq ?_<;>(refine X.block ?_<;>((refine X.sd (.a 0 (.a 1 (.a 2 (.b 3 (.a 4 (.a 5 (.a 6 (.b 7 (.a 8 .n))))))))) mixed (by kernel_rfl) ?_<;>repeat' first|refine Z.p rfl ?_|(refine XL.at 2 ?_;(have hil : i < l.length := (by omega); have him : i < m.length := (by omega); obtain ⟨x, hx⟩ := get_lt hil; obtain ⟨y, hy⟩ := get_lt him; (apply XL.det0 rfl rfl rfl rfl; exact D.indexAddr i rfl rfl rfl hil (hl.sm (by omega)))))|(refine XL.at 3 ?_;((apply XL.det1 rfl rfl rfl rfl; exact D.loadN rfl rfl (fun w hw j u hu => Rd.ext (Rd.conf0 hl hw) hx j u hu))))|(refine XL.at 6 ?_;((apply XL.det0 rfl rfl rfl rfl; exact D.indexAddr i rfl rfl rfl him (hr.sm (by omega)))))|(refine XL.at 7 ?_;((apply XL.det1 rfl rfl rfl rfl; exact D.loadN rfl rfl (fun w hw j u hu => Rd.ext (Rd.conf0 hr hw) hy j u hu))))|(refine XL.at 8 ?_;(refine XL.split0 rfl rfl rfl rfl (D.neS4 rfl rfl rfl) (fun h2 => ?_) (fun h2 => ?_)))|refine XL.nn ?_)<;>(refine X.cond rfl ?_ ?_;rotate_left;(focus (intro hc;first|exact no_ hc rfl|(refine X.skip ?_)));rotate_right;(focus (intro hc;first|exact no_ hc rfl|((refine X.st (by kernel_rfl) ?_<;>repeat' first|refine Z.p rfl ?_|refine XL.nn ?_)<;>(apply X.r1 Tryz.results20 (RV.tmp rfl);(focus (refine ⟨congrArg Value.bool ?_, rfl⟩; first | (rw [decide_eq_false (fun h => by subst h; omega)]; done) | (rw [decide_eq_false (fun h => by subst h; rw [hx] at hy; cases hy; exact h2 ⟨rfl, rfl, rfl, rfl⟩)]; done) | (rw [decide_eq_true]; apply List.ext_getElem?; intro j; rcases Nat.lt_or_ge j i with h | h; exact hall j h; rw [List.getElem?_eq_none (by omega), List.getElem?_eq_none (by omega)])));exact fun _=>Conf.takes))))))<;>(first|refine N.block ?_|refine Ex.here ?_|refine Ex.out rfl ?_))<;>(first|refine Ex.then ?_|refine N.next ?_<;>(refine X.tx (by kernel_rfl) ?_<;>repeat' first|refine Z.p rfl ?_|refine Z.g rfl (by omega) ?_|refine Z.w rfl ?_|refine XL.nil ?_))))) <;> (first | refine Ex.then ?_ | ((refine N.again (i + 1) ?_ ?_ ?_ ?_; (focus (exact ⟨by omega, fun j hj => by rcases Nat.lt_or_ge j i with h | h; exact hall j h; (obtain rfl : j = i := by omega); rw [hx, hy]; congr 1; cases x; cases y; simp only [Ext.mk.injEq]; simp only at h2; omega⟩)); (focus (first | omega | (dsimp only; omega))); (focus (repeat (first | exact Sub.nil | refine Sub.cons rfl ?_))); exact (fun w h => h.takes)))))<;>(first|refine N.block ?_|refine Ex.here ?_|refine Ex.out rfl ?_))<;>(first|refine Ex.then ?_|refine N.next ?_<;>((refine X.st (by kernel_rfl) ?_<;>repeat' first|refine Z.p rfl ?_|refine XL.nn ?_)<;>(apply X.r1 Tryz.results20 (RV.tmp rfl);(focus (refine ⟨congrArg Value.bool ?_, rfl⟩; first | (rw [decide_eq_false (fun h => by subst h; omega)]; done) | (rw [decide_eq_false (fun h => by subst h; rw [hx] at hy; cases hy; exact h2 ⟨rfl, rfl, rfl, rfl⟩)]; done) | (rw [decide_eq_true]; apply List.ext_getElem?; intro j; rcases Nat.lt_or_ge j i with h | h; exact hall j h; rw [List.getElem?_eq_none (by omega), List.getElem?_eq_none (by omega)])));exact fun _=>Conf.takes))))))

theorem lPart_spec (a n q p : Int) (w : World) : Spec Tryz.prog 32 #[.int .i64 a, .int .i64 n, .agg #[.int .i64 q, .int .i64 p]] w (fun _ => False) (fun v A => v = vE4 ⟨a, n, q, p⟩ ∧ A = []) := by
  unfold vE4
  refine Spec.enter (args := [.int .i64 a, .int .i64 n, .agg #[.int .i64 q, .int .i64 p]]) (A := []) Tryz.func32 rfl Tryz.ntmps32 rfl (fun _ h => h) ?_
  ((refine X.st (by kernel_rfl) ?_<;>repeat' first|refine XL.boxN rfl rfl rfl rfl (by intro g; infer_instance) (fun g => ?_)|refine XL.box1 rfl rfl rfl rfl rfl (by intro g; infer_instance) (fun g => ?_)|refine XL.alloc rfl rfl rfl (by intro g; infer_instance) (fun g => ?_)|refine XL.nn ?_)<;>(refine X.st (by kernel_rfl) ?_<;>repeat' first|refine Z.p rfl ?_|refine Z.bd rfl rfl ?_|refine Z.l1 rfl rfl rfl ?_|refine Z.lN rfl rfl rfl ?_|refine Z.lP rfl rfl rfl ?_|refine XL.store1 rfl rfl rfl rfl rfl ?_|refine XL.storeN rfl rfl rfl rfl rfl rfl ?_|refine XL.storeP rfl rfl rfl rfl rfl rfl ?_|refine XL.nn ?_)<;>(apply X.r1 Tryz.results32 (RV.of rfl);(focus (exact ⟨rfl, rfl⟩));exact fun _=>Conf.takes))
theorem lExt_spec (a n q p : Int) (w : World) : Spec Tryz.prog 33 #[.int .i64 a, .int .i64 n, .int .i64 q, .int .i64 p] w (fun _ => False) (fun v A => v = vE4 ⟨a, n, q, p⟩ ∧ A = []) := by
  unfold vE4
  refine Spec.enter (args := [.int .i64 a, .int .i64 n, .int .i64 q, .int .i64 p]) (A := []) Tryz.func33 rfl Tryz.ntmps33 rfl (fun _ h => h) ?_
  ((refine X.st (by kernel_rfl) ?_<;>repeat' first|refine XL.alloc rfl rfl rfl (by intro g; infer_instance) (fun g => ?_)|refine XL.nn ?_)<;>(refine X.st (by kernel_rfl) ?_<;>repeat' first|refine Z.p rfl ?_|refine Z.bd rfl rfl ?_|refine XL.store1 rfl rfl rfl rfl rfl ?_|refine XL.storeN rfl rfl rfl rfl rfl rfl ?_|refine XL.storeP rfl rfl rfl rfl rfl rfl ?_|refine XL.nn ?_)<;>(apply X.r1 Tryz.results33 (RV.of rfl);(focus (exact ⟨rfl, rfl⟩));exact fun _=>Conf.takes))
end Go.Lx

/- Package dobj's statements: the chapter's example. -/
namespace Go.Lx
open Go.Proofs
set_option linter.unusedVariables false
set_option linter.unusedSimpArgs false
set_option maxRecDepth 20000
set_option maxHeartbeats 40000000
end Go.Lx
