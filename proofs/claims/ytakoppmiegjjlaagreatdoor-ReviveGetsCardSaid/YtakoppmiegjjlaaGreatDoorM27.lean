import Derived.Test.YtakoppmiegjjlaaGreatDoorM4
import Derived.Test.YtakoppmiegjjlaaGreatDoorM26
import Derived.Test.YtakoppmiegjjlaaGreatDoorM16
import Derived.Test.YtakoppmiegjjlaaGreatDoorM2
import Derived.Test.YtakoppmiegjjlaaGreatDoorM22
set_option linter.unusedVariables false
set_option linter.unusedSimpArgs false
set_option maxRecDepth 20000
set_option maxHeartbeats 2000000
namespace Go.Lx
open Go.Proofs
theorem rise_len : ∀ (l : List Ext) (lo : Int), Rise lo l → lo ≤ 65536 → lo + (l.length : Int) ≤ 65536
  | [], lo, _, h => by simp; omega
  | x :: l, lo, h, _ => by
    have h2 := h.2.1
    have h1 := h.1
    unfold inE at h2
    have ih := rise_len l _ h.2.2 (by omega)
    simp only [List.length_cons]
    omega
end Go.Lx
namespace Go.Lx
open Go.Proofs
def PredE (P : Program) (w : World) (k : FuncId) (cps : List Value) (l : List Ext) (p : Ext → Bool) : Prop :=
  ∀ x, x ∈ l → ∀ w', Conf ⟨P, 0, w, fun _ => False⟩ [] w' → Spec P k (valE x :: cps).toArray w' (fun _ => False) (fun v A => v = .bool (p x) ∧ A = [])
theorem IndexFuncE_spec (w : World) (a : Option Addr) (n c : Nat) (l : List Ext) (hl : Rd w 4 a n c (encE l)) (k : FuncId) (cps : List Value) [Enters Tryz.prog k] (p : Ext → Bool) (hp : PredE Tryz.prog w k cps l p) :
    Spec Tryz.prog 205 #[.slice a n c, .func (.func k) #[] cps.toArray] w (fun _ => False) (fun v A => ∃ r : Int, v = .int .i64 r ∧ (r = -1 ∧ (∀ x ∈ l, p x = false) ∨ ∃ i x, r = (i : Nat) ∧ l[i]? = some x ∧ p x = true ∧ ∀ j y, j < i → l[j]? = some y → p y = false) ∧ A = []) := by
  refine Spec.enter (args := [.slice a n c, .func (.func k) #[] cps.toArray]) (A := []) Tryz.func205 rfl Tryz.ntmps205 rfl (fun _ h => h) ?_
  have hlen := hl.extLen; have hbd := hl.bd
  ((refine Qg (by kernel_rfl) ?_<;>repeat' first|refine Z.p rfl ?_|refine Qf ?_)<;>refine X.seq ?_<;>((refine Qg (by kernel_rfl) ?_<;>repeat' first|refine Z.p rfl ?_|refine Z.ln rfl rfl ?_|refine Qf ?_)<;>refine X.block ?_<;>((refine Qu (ι := Nat) (fun i => [(0, .slice a n c), (1, .func (.func k) #[] cps.toArray), (6, .slice a n c), (7, .int .i64 n), (8, .int .i64 i)]) (fun _ => []) (fun i => i ≤ n ∧ ∀ j y, j < i → l[j]? = some y → p y = false) (fun i => n - i) (0) ?_ ?_ ?_ ?_; (focus (exact ⟨Nat.zero_le _, fun j y hj => by omega⟩)); (focus (repeat (first| exact Sub.nil | refine Sub.cons rfl ?_))); (focus (exact (fun w h => h.takes))); rintro i ⟨hi, hok⟩) <;> ((refine Qg (by kernel_rfl) ?_<;>repeat' first|(refine XL.at 0 ?_;(first| refine Ql rfl rfl rfl rfl (D.int rfl rfl rfl) (fun h0 => ?_) (fun h0 => ?_)))|refine Qf ?_)<;>refine X.seq ?_<;>((refine Qj rfl ?_ ?_;rotate_left;(focus (intro hc;first|exact no_ hc rfl|(refine Qs ?_)));rotate_right;(focus (intro hc;first|exact no_ hc rfl|(refine X.skip ?_)))))<;>(first|refine Ex.then ?_|refine N.next ?_<;>(refine X.seq ?_<;>(refine X.block ?_<;>((refine Qg (by kernel_rfl) ?_<;>repeat' first|refine Z.p rfl ?_|refine Qf ?_)<;>(refine Qg (by kernel_rfl) ?_<;>repeat' first|refine Z.p rfl ?_|(refine XL.at 3 ?_;(have hin : i < n := (by omega); obtain ⟨x, hx⟩ := Qx (l := l) (k := i) (by omega); (apply XL.detF rfl rfl rfl rfl; exact D.indexAddr i rfl rfl rfl hin (hl.sm (by omega)))))|(refine XL.at 4 ?_;((apply XL.detF rfl rfl rfl rfl; exact D.loadN rfl rfl (fun w hw j u hu => Rd.extE (Rd.conf0 hl hw) hx j u hu))))|(refine XL.at 5 ?_;((refine XL.callV (fs := []) (cps := cps) rfl rfl rfl rfl rfl (fun w' hw => hp x (List.mem_of_getElem? hx) w' (hw.bare rfl)) ?_; rintro v B' ⟨rfl, rfl⟩; refine Qh ?_); (cases hpx : p x)))|refine Qf ?_)<;>(refine Qj rfl ?_ ?_;rotate_left;(focus (intro hc;first|exact no_ hc rfl|(refine X.skip ?_)));rotate_right;(focus (intro hc;first|exact no_ hc rfl|((refine Qg (by kernel_rfl) ?_<;>repeat' first|refine Z.p rfl ?_|refine Qf ?_)<;>(apply X.r1 Tryz.results205 (Qi rfl);(focus (first| (refine ⟨_, rfl, .inr ⟨i, x, rfl, hx, hpx, hok⟩, rfl⟩) ));exact fun _=>Conf.takes))))))<;>(first|refine N.block ?_))<;>(first|refine N.next ?_<;>(refine X.tx (by kernel_rfl) ?_<;>repeat' first|refine Z.p rfl ?_|refine Z.g rfl (by omega) ?_|refine XL.nil ?_))))) <;> (first| refine Ex.then ?_ | ((refine Qp (i + 1) ?_ ?_ ?_ ?_; (focus (exact ⟨by omega, fun j y hj hy => by rcases Nat.lt_or_ge j i with h | h; exact hok j y h hy; (obtain rfl : j = i := by omega); rw [hx] at hy; cases hy; exact hpx⟩)); (focus (first| omega )); (focus (repeat (first| exact Sub.nil | refine Sub.cons rfl ?_))); exact (fun w h => h.takes)))))<;>(first|refine Qo ?_))<;>(first|refine N.next ?_<;>((refine Qg (by kernel_rfl) ?_<;>repeat' first|refine Z.p rfl ?_|refine Qf ?_)<;>(apply X.r1 Tryz.results205 (Qi rfl);(focus (first| (refine ⟨_, rfl, .inl ⟨rfl, fun y hy => ?_⟩, rfl⟩; obtain ⟨j, hj⟩ := List.mem_iff_getElem?.1 hy; exact hok j y (by have := (List.getElem?_eq_some_iff.1 hj).1; omega) hj)));exact fun _=>Conf.takes))))
theorem ContainsFuncE_spec (w : World) (a : Option Addr) (n c : Nat) (l : List Ext) (hl : Rd w 4 a n c (encE l)) (k : FuncId) (cps : List Value) [Enters Tryz.prog k] (p : Ext → Bool) (hp : PredE Tryz.prog w k cps l p) :
    Spec Tryz.prog 133 #[.slice a n c, .func (.func k) #[] cps.toArray] w (fun _ => False) (fun v A => v = .bool (l.any p) ∧ A = []) := by
  refine Spec.enter (args := [.slice a n c, .func (.func k) #[] cps.toArray]) (A := []) Tryz.func133 rfl Tryz.ntmps133 rfl (fun _ h => h) ?_
  ((refine Qg (by kernel_rfl) ?_<;>repeat' first|refine Z.p rfl ?_|refine Qf ?_)<;>(refine Qg (by kernel_rfl) ?_<;>repeat' first|refine Z.p rfl ?_|(refine XL.at 2 ?_;((refine XL.call rfl rfl rfl rfl (fun w hw => IndexFuncE_spec w a n c l (hl.conf0 hw) k cps p (fun x hx w' hw' => hp x hx w' (hw'.over hw))) ?_; rintro v B' ⟨r, rfl, hr, rfl⟩; refine Qh ?_)))|(refine XL.at 3 ?_;((apply Qk rfl rfl rfl rfl; exact D.int rfl rfl rfl)))|refine Qf ?_)<;>(apply X.r1 Tryz.results133 (Qi rfl);(focus (refine ⟨congrArg Value.bool ?_, rfl⟩; rcases hr with ⟨rfl, h⟩ | ⟨i, x, rfl, hx, hpx, _⟩; (rw [show l.any p = false from List.any_eq_false.2 (fun x hx => by simp [h x hx])]; rfl); (rw [show l.any p = true from List.any_eq_true.2 ⟨x, List.mem_of_getElem? hx, hpx⟩]; simp)));exact fun _=>Conf.takes))
end Go.Lx
namespace Go.Lx
open Go.Proofs
end Go.Lx
