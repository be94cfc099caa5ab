import Derived.Test.YtakoppmiegjjlaaGreatDoorM4
import Derived.Test.YtakoppmiegjjlaaGreatDoorM16
import Derived.Test.YtakoppmiegjjlaaGreatDoorM17
import Derived.Test.YtakoppmiegjjlaaGreatDoorM1
import Derived.Shelf.SlicesG.Cmp
import Derived.Shelf.SlSortCmp.SmallK
import Derived.Test.YtakoppmiegjjlaaGreatDoorM2
set_option linter.unusedVariables false
set_option linter.unusedSimpArgs false
set_option maxRecDepth 20000
namespace Go.Lx
open Go.Proofs
theorem encS_one (l : List Sp) : ∀ u ∈ encS l, u.oneCell' = true := by
  intro u hu
  simp only [encS, List.mem_flatMap] at hu
  obtain ⟨x, _, hx⟩ := hu
  simp [encS1] at hx
  rcases hx with rfl | rfl <;> rfl
theorem encS_set (o : List Sp) (k : Nat) (x : Sp) (h : k < o.length) : putAt (encS o) (k * 2) [.int .i64 x.1, .int .i64 x.2] = encS (o.set k x) := putAt_flat encS1 2 (fun _ => rfl) x o k h
def cmpI (a b : Int) : Int := if a < b then -1 else if a > b then 1 else 0
open Go.Shelf Go.Sort in
set_option maxHeartbeats 1000000 in
theorem joined1_run (x y : Sp) (W : World) : Calls Tryz.prog 303 #[.agg #[.int .i64 x.1, .int .i64 x.2], .agg #[.int .i64 y.1, .int .i64 y.2]] W fun e w' => e = .returned (.int .i64 (cmpI x.1 y.1)) ∧ ∃ q os', w' = Sort.grow (W.drewN q) os' := by
  have hcon := fun W' => AnyG.cmp_Compare_int Tryz.cmpS x.1 y.1 W'
  change ∀ W', Calls Tryz.prog 304 _ _ _ at hcon
  rw [show cmpI x.1 y.1 = Lib.compareInt x.1 y.1 from rfl]
  generalize Lib.compareInt x.1 y.1 = r at hcon ⊢
  go_enter Tryz.func303, Tryz.ntmps303
  go_wp2_with (go_at_call 304; refine (hcon _).mono ?_; rintro e w' ⟨rfl, rfl⟩)
  go_ret
  exact ⟨rfl, 0, _, by rw [alloc_eq_grow, alloc_eq_grow, grow_grow]; rfl⟩
theorem Len64_spec (w : World) : Spec Tryz.prog 252 #[.int .u64 0] w (fun _ => False) (fun v A => ∃ r, v = .int .i64 r ∧ A = []) := by
  refine Spec.enter (args := [.int .u64 0]) (A := []) Tryz.func252 rfl Tryz.ntmps252 rfl (fun _ h => h) ?_
  ((refine Qg (by kernel_rfl) ?_<;>repeat' first|refine Z.p rfl ?_|refine Qf ?_)<;>refine X.seq ?_<;>((refine Qg (by kernel_rfl) ?_<;>repeat' first|refine Z.p rfl ?_|refine Z.cf rfl (by omega) ?_|refine Qf ?_)<;>(refine Qj rfl ?_ ?_;rotate_left;(focus (intro hc;first|(refine X.skip ?_)));rotate_right;(focus (intro hc;first|exact no_ hc rfl))))<;>(first|refine N.next ?_<;>(refine X.seq ?_<;>((refine Qg (by kernel_rfl) ?_<;>repeat' first|refine Z.p rfl ?_|refine Z.cf rfl (by omega) ?_|refine Qf ?_)<;>(refine Qj rfl ?_ ?_;rotate_left;(focus (intro hc;first|(refine X.skip ?_)));rotate_right;(focus (intro hc;first|exact no_ hc rfl))))<;>(first|refine N.next ?_<;>(refine X.seq ?_<;>((refine Qg (by kernel_rfl) ?_<;>repeat' first|refine Z.p rfl ?_|refine Z.cf rfl (by omega) ?_|refine Qf ?_)<;>(refine Qj rfl ?_ ?_;rotate_left;(focus (intro hc;first|(refine X.skip ?_)));rotate_right;(focus (intro hc;first|exact no_ hc rfl))))<;>(first|refine N.next ?_<;>((refine Qg (by kernel_rfl) ?_<;>repeat' first|refine Z.p rfl ?_|(refine XL.at 3 ?_;((apply Qk rfl rfl rfl rfl; exact D.indexStr 0 rfl rfl rfl (by decide))))|(refine XL.at 5 ?_;((apply Qk rfl rfl rfl rfl; exact D.int rfl rfl rfl)))|refine Z.cv rfl rfl ?_|refine Qf ?_)<;>(apply X.r1 Tryz.results252 (Qi rfl);(focus (exact ⟨_, rfl, rfl⟩));exact fun _=>Conf.takes))))))))
theorem Len_spec (w : World) : Spec Tryz.prog 200 #[.int .u64 0] w (fun _ => False) (fun v A => ∃ r, v = .int .i64 r ∧ A = []) := by
  refine Spec.enter (args := [.int .u64 0]) (A := []) Tryz.func200 rfl Tryz.ntmps200 rfl (fun _ h => h) ?_
  ((refine Qg (by kernel_rfl) ?_<;>repeat' first|refine Z.p rfl ?_|refine Qf ?_)<;>refine X.seq ?_<;>((refine Qj rfl ?_ ?_;rotate_left;(focus (intro hc;first|(refine X.skip ?_)));rotate_right;(focus (intro hc;first|exact no_ hc rfl))))<;>(first|refine N.next ?_<;>((refine Qg (by kernel_rfl) ?_<;>repeat' first|refine Z.p rfl ?_|(refine XL.at 1 ?_;((refine XL.call rfl rfl rfl rfl (fun w hw => Len64_spec w) ?_; rintro v B' ⟨r, rfl, rfl⟩; refine Qh ?_)))|refine Qf ?_)<;>(apply X.r1 Tryz.results200 (Qi rfl);(focus (exact ⟨_, rfl, rfl⟩));exact fun _=>Conf.takes))))
theorem insertion_nil (w : World) (a : Option Addr) (c : Nat) (f : Value) : Spec Tryz.prog 332 #[.slice a 0 c, .int .i64 0, .int .i64 0, f] w (fun _ => False) (fun v A => v = .tuple #[] ∧ A = []) := by
  refine Spec.enter (args := [.slice a 0 c, .int .i64 0, .int .i64 0, f]) (A := []) Tryz.func332 rfl Tryz.ntmps332 rfl (fun _ h => h) ?_
  ((refine Qg (by kernel_rfl) ?_<;>repeat' first|refine Z.p rfl ?_|refine Z.g rfl (by omega) ?_|refine Qf ?_)<;>refine X.block ?_<;>((refine Qu (ι := Unit) (fun _ => [(2, .int .i64 0), (8, .int .i64 1)]) (fun _ => []) (fun _ => True) (fun _ => 0) (()) ?_ ?_ ?_ ?_; (focus (trivial)); (focus (repeat (first| exact Sub.nil | refine Sub.cons rfl ?_))); (focus (exact (fun w h => h.takes))); rintro _ _) <;> (refine X.seq ?_<;>((refine Qg (by kernel_rfl) ?_<;>repeat' first|refine Z.p rfl ?_|refine Z.cf rfl (by omega) ?_|refine Qf ?_)<;>(refine Qj rfl ?_ ?_;rotate_left;(focus (intro hc;first|(refine Qs ?_)));rotate_right;(focus (intro hc;first|exact no_ hc rfl))))<;>(first|refine Ex.then ?_)) <;> (first| refine Ex.then ?_ ))<;>(first|refine Qo ?_)) <;> ((repeat (first| refine Rt.then ?_ )); (first| apply N.done (Res.r0 Tryz.results332 ) ); (focus (exact ⟨rfl, rfl⟩)); exact fun w h => h.takes)
theorem pdq_nil (w : World) (a : Option Addr) (c : Nat) (f : Value) (r : Int) : Spec Tryz.prog 326 #[.slice a 0 c, .int .i64 0, .int .i64 0, .int .i64 r, f] w (fun _ => False) (fun v A => v = .tuple #[] ∧ A = []) := by
  refine Spec.enter (args := [.slice a 0 c, .int .i64 0, .int .i64 0, .int .i64 r, f]) (A := []) Tryz.func326 rfl Tryz.ntmps326 rfl (fun _ h => h) ?_
  ((refine Qg (by kernel_rfl) ?_<;>repeat' first|refine Z.p rfl ?_|refine Qf ?_)<;>(refine Qg (by kernel_rfl) ?_<;>repeat' first|refine Z.p rfl ?_|refine Qf ?_)<;>refine X.block ?_<;>((refine Qu (ι := Unit) (fun _ => [(0, .slice a 0 c), (1, .int .i64 0), (2, .int .i64 0), (4, f)]) (fun _ => []) (fun _ => True) (fun _ => 0) (()) ?_ ?_ ?_ ?_; (focus (trivial)); (focus (repeat (first| exact Sub.nil | refine Sub.cons rfl ?_))); (focus (exact (fun w h => h.takes))); rintro _ _) <;> (refine X.block ?_<;>((refine Qg (by kernel_rfl) ?_<;>repeat' first|refine Z.p rfl ?_|refine Z.g rfl (by omega) ?_|refine Qf ?_)<;>refine X.seq ?_<;>((refine Qg (by kernel_rfl) ?_<;>repeat' first|refine Z.p rfl ?_|refine Z.ct rfl (by omega) ?_|refine Qf ?_)<;>(refine Qj rfl ?_ ?_;rotate_left;(focus (intro hc;first|exact no_ hc rfl));rotate_right;(focus (intro hc;first|((refine Qg (by kernel_rfl) ?_<;>repeat' first|refine Z.p rfl ?_|(refine XL.at 4 ?_;((refine XL.call rfl rfl rfl rfl (fun w hw => insertion_nil w a c f) ?_; rintro v B' ⟨rfl, rfl⟩; refine Qh ?_)))|refine Qf ?_)<;>(apply X.r0 Tryz.results326;(focus (exact ⟨rfl, rfl⟩));exact fun _=>Conf.takes))))))<;>(first|refine Ex.then ?_))<;>(first|refine N.block ?_)) <;> (first| refine Ex.then ?_ ))<;>(first|refine N.block ?_)) <;> ((repeat (first| refine Rt.then ?_ )); (first| apply N.done (Res.r0 Tryz.results326 ) ); (focus (exact ⟨rfl, rfl⟩)); exact fun w h => h.takes)
theorem Sort_nil (w : World) (a : Option Addr) (c : Nat) (f : Value) : Spec Tryz.prog 302 #[.slice a 0 c, f] w (fun _ => False) (fun v A => v = .tuple #[] ∧ A = []) := by
  refine Spec.enter (args := [.slice a 0 c, f]) (A := []) Tryz.func302 rfl Tryz.ntmps302 rfl (fun _ h => h) ?_
  ((refine Qg (by kernel_rfl) ?_<;>repeat' first|refine Z.p rfl ?_|refine Z.ln rfl rfl ?_|refine Qf ?_)<;>refine X.tx (by kernel_rfl) ?_<;>repeat' first|refine Z.p rfl ?_|(refine XL.at 4 ?_;((refine XL.call rfl rfl rfl rfl (fun w hw => Len_spec w) ?_; rintro v B' ⟨r, rfl, rfl⟩; refine Qh ?_)))|(refine XL.at 6 ?_;((refine XL.call rfl rfl rfl rfl (fun w hw => pdq_nil w a c f r) ?_; rintro v B' ⟨rfl, rfl⟩; refine Qh ?_)))|refine Z.cv rfl rfl ?_|refine XL.nil ?_) <;> ((repeat (first| refine Rt.then ?_ )); (first| apply N.done (Res.r0 Tryz.results302 ) ); (focus (exact ⟨rfl, rfl⟩)); exact fun w h => h.takes)
open Go.Sort Go.Shelf in
theorem swoI : SWO (ltOf (α := Sp) fun x y => cmpI x.1 y.1) := by
  have h : ∀ a b : Int, decide (cmpI a b < 0) = decide (a < b) := fun a b => by
    unfold cmpI
    congr 1
    apply propext
    split
    · omega
    · split <;> omega
  refine ⟨fun a => ?_, fun a b c h1 h2 => ?_, fun a b c h1 h2 => ?_⟩ <;> simp only [ltOf, h, decide_eq_true_eq, decide_eq_false_iff_not] at * <;> omega
theorem Clone_spec (w : World) (a : Option Addr) (n c : Nat) (l : List Sp) (hl : Rd w 2 a n c (encS l)) (hbd : n ≤ 1000000) : Spec Tryz.prog 301 #[.slice a n c] w (fun _ => False) (fun v A => ∃ a' c', v = .slice a' n c' ∧ A = [own 103 2 (.slice a' n c') n (encS l)]) := by
  have hn : a.isNone = true → n = 0 ∧ l = [] := fun h => by
    have h0 : n = 0 := by
      rcases Nat.eq_zero_or_pos n with h0 | h0
      · exact h0
      · have := hl.sm h0; cases a <;> simp at h this
    have := hl.spLen
    exact ⟨h0, List.length_eq_zero_iff.1 (by omega)⟩
  refine Spec.enter (args := [.slice a n c]) (A := []) Tryz.func301 rfl Tryz.ntmps301 rfl (fun _ h => h) ?_
  refine X.mem (B := [own 103 2 (.slice none 0 0) 0 []]) (fun w h => h.nilOwn 103 2) ?_
  ((refine Qg (by kernel_rfl) ?_<;>repeat' first|refine Z.p rfl ?_|refine Qf ?_)<;>refine X.seq ?_<;>((refine Qg (by kernel_rfl) ?_<;>repeat' first|refine Z.p rfl ?_|refine Z.eqN rfl rfl rfl ?_|refine Qf ?_)<;>(refine Qj rfl ?_ ?_;rotate_left;(focus (intro hc;first|(refine X.skip ?_)));rotate_right;(focus (intro hc;first|((refine Qg (by kernel_rfl) ?_<;>repeat' first|refine Z.p rfl ?_|refine Qf ?_)<;>(apply X.r1 Tryz.results301 (Qi rfl);(focus (first| (have h := hn (by assumption); obtain ⟨rfl, rfl⟩ := h; exact ⟨none, 0, rfl, (rfl : [own 103 2 (.slice none 0 0) 0 []] = _)⟩) ));exact fun _=>Conf.takes))))))<;>(first|refine N.next ?_<;>((refine Qg (by kernel_rfl) ?_<;>repeat' first|refine Z.p rfl ?_|(refine XL.at 2 ?_;((refine XL.appendR (news := encS l) rfl rfl rfl rfl rfl (fun w hw => hl.conf0 hw) (encS_one l) (by unfold maxLen; omega) (fun _ _ => by infer_instance) (fun a' c' => ?_)); rw [Nat.zero_add, List.nil_append]))|refine XL.slice0 rfl rfl rfl (by intro g; infer_instance) (fun g => ?_)|refine Qf ?_)<;>(apply X.r1 Tryz.results301 (Qi rfl);(focus (first| exact ⟨_, _, rfl, rfl⟩));exact fun _=>Conf.takes))))
open Go.Sort Go.Shelf in
theorem Sort_spec (w : World) (H : Nat → Prop) (a : Option Addr) (n c : Nat) (l : List Sp) (hn : l.length = n) (hown : Sep [own 103 2 (.slice a n c) n (encS l)] w H) (hlt : n ≤ 1000000) : Spec Tryz.prog 302 #[.slice a n c, .func (.func 303) #[] #[]] w H (fun v A => ∃ l' : List Sp, v = .tuple #[] ∧ l'.Perm l ∧ (∀ (i j : Nat) (x y : Sp), i < j → l'[i]? = some x → l'[j]? = some y → ¬ cmpI y.1 x.1 < 0) ∧ A = [own 103 2 (.slice a n c) n (encS l')]) :=
  sort_row (ρ := Tryz.sortS_ren) (ag := inferInstanceAs (Ag Tryz.prog 103)) (hs := inferInstanceAs (Sz Tryz.prog 103 2)) Tryz.sortS encS1 2 (fun _ => rfl) (by omega) (fun x => by simp [encS1, Value.oneCell']) (fun x y => cmpI x.1 y.1) swoI 303 [] (fun x y W => joined1_run x y W) w H a n c 103 l hn hown (by omega) (Sort_nil w none 0 _)
theorem joined_spec (w : World) (a : Option Addr) (c : Nat) (l : List Sp) (hl : Rd w 2 a l.length c (encS l)) (hm : ∀ x ∈ l, mayS x) (hbd : l.length ≤ 1000000) :
    Spec Tryz.prog 263 #[.slice a l.length c] w (fun _ => False) (fun v A => ∃ a' c' o, v = .slice a' (List.length o) c' ∧ SetOK o o.length ∧ (∀ t, inS o t ↔ inS l t) ∧ o.length ≤ l.length ∧ A = [own 103 2 (.slice a' o.length c') o.length (encS o)]) := by
  refine Spec.enter (args := [.slice a l.length c]) (A := []) Tryz.func263 rfl Tryz.ntmps263 rfl (fun _ h => h) ?_
  ((refine Qg (by kernel_rfl) ?_<;>repeat' first|refine Z.p rfl ?_|refine Qf ?_)<;>(refine Qg (by kernel_rfl) ?_<;>repeat' first|refine Z.p rfl ?_|(refine XL.at 1 ?_;((refine XL.call rfl rfl rfl rfl (fun w hw => Clone_spec w a l.length c l (hl.conf0 hw) hbd) ?_; rintro v B' ⟨a1, c1, rfl, rfl⟩; refine Qh ?_)))|refine Qf ?_)<;>(refine Qg (by kernel_rfl) ?_<;>repeat' first|refine Z.p rfl ?_|(refine XL.at 1 ?_;((refine XL.callH [own 103 2 (.slice a1 l.length c1) l.length (encS l)] rfl rfl rfl rfl (fun w F hF hw => Sort_spec w F a1 l.length c1 l rfl hF hbd) ?_; rintro v B' ⟨l', rfl, hp, hs0, rfl⟩; refine Qh ?_); have hll := hp.length_eq; have hm' : ∀ x ∈ l', mayS x := (fun x hx => hm x (hp.mem_iff.1 hx)); have hsort : (∀ (i j : Nat) (x y : Sp), i < j → l'[i]? = some x → l'[j]? = some y → ¬ y.1 < x.1) := (fun i j x y hij hx hy hlt => hs0 i j x y hij hx hy (by unfold cmpI; rw [if_pos hlt]; omega)); refine XL.mem (B := [own 103 2 (.slice none ([] : List Sp).length 0) ([] : List Sp).length (encS []), own 103 2 (.slice a1 l.length c1) l.length (encS l')]) (fun w h => h.nilOwn 103 2) ?_))|refine Qf ?_)<;>(refine Qg (by kernel_rfl) ?_<;>repeat' first|refine Z.p rfl ?_|refine Qf ?_)<;>refine X.seq ?_<;>((refine Qg (by kernel_rfl) ?_<;>repeat' first|refine Z.p rfl ?_|refine Z.ln rfl rfl ?_|refine Qf ?_)<;>refine X.block ?_<;>((refine Qu (ι := Nat × List Sp × Option Addr × Nat) (fun x => [(3, .slice x.2.2.1 x.2.1.length x.2.2.2), (11, .slice a1 l.length c1), (12, .int .i64 l.length), (13, .int .i64 x.1)]) (fun x => [own 103 2 (.slice x.2.2.1 x.2.1.length x.2.2.2) x.2.1.length (encS x.2.1), own 103 2 (.slice a1 l.length c1) l.length (encS l')]) (fun x => JoI l' x.1 x.2.1) (fun x => l.length - x.1) ((0, [], none, 0)) ?_ ?_ ?_ ?_; (focus (exact JoI.start)); (focus (repeat (first| exact Sub.nil | refine Sub.cons rfl ?_))); (focus (exact (fun w h => h.takes))); rintro ⟨i, o, a', c'⟩ hJ; (dsimp only at *; have hi := hJ.hi; have hol := hJ.len)) <;> ((refine Qg (by kernel_rfl) ?_<;>repeat' first|(refine XL.at 0 ?_;(first| refine Ql rfl rfl rfl rfl (D.int rfl rfl rfl) (fun h0 => ?_) (fun h0 => ?_)))|refine Qf ?_)<;>refine X.seq ?_<;>((refine Qj rfl ?_ ?_;rotate_left;(focus (intro hc;first|exact no_ hc rfl|(refine Qs ?_)));rotate_right;(focus (intro hc;first|exact no_ hc rfl|(refine X.skip ?_)))))<;>(first|refine Ex.then ?_|refine N.next ?_<;>(refine X.seq ?_<;>(refine X.block ?_<;>((refine Qg (by kernel_rfl) ?_<;>repeat' first|(refine XL.at 0 ?_;(have hil : i < l.length := (by omega); obtain ⟨s, hs⟩ := Qx (l := l') (k := i) (by omega); have hsm := hm' s (List.mem_of_getElem? hs); refine XL.fact (fun w h => (h.ownRd (i := 1) rfl).sm (by omega)) (fun hsome => ?_); (apply XL.detF rfl rfl rfl rfl; exact D.indexAddr i rfl rfl rfl hil hsome)))|(refine XL.at 1 ?_;((apply XL.detF rfl rfl rfl rfl; exact D.loadN rfl rfl (fun w hw j u hu => Rd.sp (hw.ownRd (i := 1) rfl) hs j u hu))))|refine XL.alloc rfl rfl rfl (by intro g; infer_instance) (fun g => ?_)|refine Qn rfl rfl rfl rfl rfl rfl ?_|refine Qf ?_)<;>(refine Qg (by kernel_rfl) ?_<;>repeat' first|refine Z.p rfl ?_|(refine XL.at 2 ?_;((apply Qk rfl rfl rfl rfl; exact D.sub64 rfl rfl (by omega))))|refine Z.ln rfl rfl ?_|refine Qf ?_)<;>refine X.seq ?_<;>((refine X.sd (.a 0 (.a 1 (.a 2 (.a 3 (.a 4 (.a 5 (.b 6 (.a 8 (.b 9 (.c 7 (.a 10 (.a 11 .n)))))))))))) mixed (by kernel_rfl) ?_<;>repeat' first|refine XL.skipC rfl rfl rfl rfl ?_|refine Z.p rfl ?_|(refine XL.at 1 ?_;(first| refine XL.split0 rfl rfl rfl rfl (D.int rfl rfl rfl) (fun h1 => ?_) (fun h1 => ?_)))|(refine XL.at 5 ?_;(have hy0 : o.length - 1 < o.length := (by omega); obtain ⟨y, hy⟩ := Qx hy0; have hym := hJ.set.may hy0 hy; refine XL.fact (fun w h => (h.ownRd (i := 1) rfl).sm (by omega)) (fun hsome => ?_); (apply Qq rfl rfl rfl rfl; exact D.indexAddr (o.length - 1) rfl rfl (by omega) hy0 hsome)))|(refine XL.at 6 ?_;((apply XL.det1 rfl rfl rfl rfl; exact D.loadN rfl rfl (fun w hw j u hu => Rd.sp (hw.ownRd (i := 1) rfl) hy j u hu))))|(refine XL.at 7 ?_;((refine XL.call rfl rfl rfl rfl (fun w hw => End_spec _ _ w) ?_; rintro v B' ⟨rfl, rfl⟩; refine Qh ?_); rw [may_end hym]))|(refine XL.at 10 ?_;(first| refine XL.split0 rfl rfl rfl rfl (D.int rfl rfl rfl) (fun h2 => ?_) (fun h2 => ?_)))|refine Z.fa rfl rfl rfl ?_|refine Z.l1 rfl rfl rfl ?_|refine Qf ?_)<;>(refine Qj rfl ?_ ?_;rotate_left;(focus (intro hc;first|exact no_ hc rfl|(refine X.skip ?_)));rotate_right;(focus (intro hc;first|exact no_ hc rfl|((refine Qg (by kernel_rfl) ?_<;>repeat' first|refine Z.p rfl ?_|(refine XL.at 3 ?_;((refine XL.append rfl rfl rfl rfl rfl rfl ?_ ?_ (fun a' c' => ?_); (focus (skip; unfold maxLen; omega)); (focus (intro _ _; infer_instance))); rw [encS_snoc o (s.1, s.2), len_snoc o (s.1, s.2)]))|refine Z.lN rfl rfl rfl ?_|refine XL.slice1 rfl rfl rfl rfl rfl rfl (by intro g; infer_instance) (fun g_ => ?_)|refine Qf ?_)<;>refine Qs ?_)))))<;>(first|refine Ex.then ?_|refine N.next ?_<;>(refine X.draw (.a 0 (.a 1 (.a 2 (.a 3 (.a 4 (.a 5 (.b 6 (.a 7 (.a 8 (.a 9 (.b 10 (.b 12 (.c 11 (.c 13 (.a 14 (.c 15 (.a 16 (.f 17 .n)))))))))))))))))) mixed (by kernel_rfl) ?_<;>repeat' first|refine Z.p rfl ?_|(refine XL.at 4 ?_;((apply Qq rfl rfl rfl rfl; exact D.indexAddr (o.length - 1) rfl rfl (by omega) hy0 hsome)))|(refine XL.at 6 ?_;((apply XL.det1 rfl rfl rfl rfl; exact D.load1 rfl (fun w hw => by have := Rd.sp (hw.ownRd (i := 1) rfl) hy 0 _ rfl; simpa [el_add] using this))))|(refine XL.at 9 ?_;((apply Qq rfl rfl rfl rfl; exact D.indexAddr (o.length - 1) rfl rfl (by omega) hy0 hsome)))|(refine XL.at 10 ?_;((apply XL.det1 rfl rfl rfl rfl; exact D.loadN rfl rfl (fun w hw j u hu => Rd.sp (hw.ownRd (i := 1) rfl) hy j u hu))))|(refine XL.at 11 ?_;((refine XL.call rfl rfl rfl rfl (fun w hw => End_spec _ _ w) ?_; rintro v B' ⟨rfl, rfl⟩; refine Qh ?_); rw [may_end hym]))|(refine XL.at 13 ?_;((refine XL.call rfl rfl rfl rfl (fun w hw => End_spec _ _ w) ?_; rintro v B' ⟨rfl, rfl⟩; refine Qh ?_); rw [may_end hsm]))|(refine XL.at 15 ?_;((refine XL.call rfl rfl rfl rfl (fun w hw => between_spec _ _ w) ?_; rintro v B' ⟨rfl, rfl⟩; refine Qh ?_); rw [D.wrap64_fit (by unfold mayS at hym hsm; omega)]))|(refine XL.at 16 ?_;((apply Qq rfl rfl rfl rfl; exact D.indexAddr (o.length - 1) rfl rfl (by omega) hy0 hsome)))|(refine XL.at 17 ?_;(have hJ2 := hJ.merge hsort hm' hs hy (by omega); obtain ⟨o2, ho2, hl2⟩ : ∃ o2, o.set (o.length - 1) (y.1, max (y.1 + y.2) (s.1 + s.2) - y.1) = o2 ∧ o.length = o2.length := (⟨_, rfl, by simp⟩); rw [ho2] at hJ2; (refine XL.storeE (encS o2) rfl rfl rfl rfl rfl (by omega) (by rw [← ho2]; exact encS_set o (o.length - 1) (y.1, max (y.1 + y.2) (s.1 + s.2) - y.1) hy0) ?_); rw [hl2]))|refine Z.fa rfl rfl rfl ?_|refine Z.lN rfl rfl rfl ?_|refine Z.mx rfl rfl rfl ?_|refine XL.nil ?_)))<;>(first|refine N.block ?_|refine Qo ?_))<;>(first|refine N.next ?_<;>(refine X.tx (by kernel_rfl) ?_<;>repeat' first|refine Z.p rfl ?_|refine Z.g rfl (by omega) ?_|refine XL.nil ?_))))) <;> (first| refine Ex.then ?_ | (first| (refine Qp ((i + 1, o ++ [s], a', c')) ?_ ?_ ?_ ?_; (focus (exact hJ.push hsort hm' hs (fun z hz => by first| (have := lt_of_get hz; omega) | (rw [hy] at hz; cases hz; omega)))); (focus (first| omega )); (focus (repeat (first| exact Sub.nil | refine Sub.cons rfl ?_))); exact (fun w h => h.takes)) | (refine Qp ((i + 1, o2, a', c')) ?_ ?_ ?_ ?_; (focus (exact hJ2)); (focus (first| omega )); (focus (repeat (first| exact Sub.nil | refine Sub.cons rfl ?_))); exact (fun w h => h.takes)))))<;>(first|refine Qo ?_))<;>(first|refine N.next ?_<;>((refine Qg (by kernel_rfl) ?_<;>repeat' first|refine Z.p rfl ?_|refine Qf ?_)<;>(apply X.r1 Tryz.results263 (Qi rfl);(focus ((obtain rfl : i = l.length := by omega); exact ⟨a', c', o, rfl, hJ.set, fun t => by rw [hJ.mem t, ← hll, inTo_all]; unfold inS; simp [hp.mem_iff], hol, rfl⟩));exact fun _=>Conf.takes))))
end Go.Lx
namespace Go.Lx
open Go.Proofs
theorem any_false {l : List Sp} (h : (l.any fun x => decide (¬ mayS x)) = false) : ∀ x ∈ l, mayS x := fun x hx => by
  have := List.any_eq_false.1 h x hx
  simpa using this
theorem any_true {l : List Sp} (h : (l.any fun x => decide (¬ mayS x)) = true) : ¬ ∀ x ∈ l, mayS x := fun hall => by
  obtain ⟨x, hx, hn⟩ := List.any_eq_true.1 h
  exact absurd (hall x hx) (by simpa using hn)
theorem Join_spec (w : World) (a : Option Addr) (c : Nat) (l : List Sp) (hl : Rd w 2 a l.length c (encS l)) (hbd : l.length ≤ 1000000) :
    Spec Tryz.prog 220 #[.slice a l.length c] w (fun _ => False) (fun v A => ∃ a' c' o e, v = .tuple #[.slice a' (List.length o) c', .int .i64 e] ∧ ((e = 0 ∧ (∀ x ∈ l, mayS x) ∧ SetOK o o.length ∧ (∀ t, inS o t ↔ inS l t) ∧ o.length ≤ l.length) ∨ (e = 1 ∧ ¬ (∀ x ∈ l, mayS x) ∧ o = [])) ∧ A = [own 103 2 (.slice a' o.length c') o.length (encS o)]) := by
  refine Spec.enter (args := [.slice a l.length c]) (A := []) Tryz.func220 rfl Tryz.ntmps220 rfl (fun _ h => h) ?_
  refine X.mem (B := [own 103 2 (.slice none ([] : List Sp).length 0) ([] : List Sp).length (encS [])]) (fun w h => h.nilOwn 103 2) ?_
  ((refine Qg (by kernel_rfl) ?_<;>repeat' first|refine Z.p rfl ?_|refine Qf ?_)<;>refine X.seq ?_<;>((refine Qg (by kernel_rfl) ?_<;>repeat' first|refine Z.p rfl ?_|(refine XL.at 1 ?_;((refine XL.call rfl rfl rfl rfl (fun w hw => wrong_spec w a l.length c l (hl.conf0 hw)) ?_; rintro v B' ⟨rfl, rfl⟩; refine Qh ?_)))|refine Qf ?_)<;>(refine Qj rfl ?_ ?_;rotate_left;(focus (intro hc;first|(refine X.skip ?_)));rotate_right;(focus (intro hc;first|((refine Qg (by kernel_rfl) ?_<;>repeat' first|refine Z.p rfl ?_|refine Qf ?_)<;>(apply X.r2 Tryz.results220 (Qi rfl) (Qi rfl);(focus (first| (exact ⟨none, 0, [], 1, rfl, .inr ⟨rfl, any_true (by assumption), rfl⟩, rfl⟩) ));exact fun _=>Conf.takes))))))<;>(first|refine N.next ?_<;>((refine Qg (by kernel_rfl) ?_<;>repeat' first|refine Z.p rfl ?_|(refine XL.at 1 ?_;(have hm := any_false (by assumption); (refine XL.call rfl rfl rfl rfl (fun w hw => joined_spec w a c l (hl.conf0 hw) hm hbd) ?_; rintro v B' ⟨a', c', o, rfl, h1, h2, h3, rfl⟩; refine Qh ?_)))|refine Qf ?_)<;>(apply X.r2 Tryz.results220 (Qi rfl) (Qi rfl);(focus (first| (exact ⟨a', c', o, 0, rfl, .inl ⟨rfl, hm, h1, h2, h3⟩, rfl⟩)));exact fun _=>Conf.takes))))
theorem Meet_spec (w : World) (a b : Option Addr) (c d : Nat) (l off : List Sp) (hl : Rd w 2 a l.length c (encS l)) (ho : Rd w 2 b off.length d (encS off)) (hbd : l.length + l.length + off.length ≤ 1000000) :
    Spec Tryz.prog 222 #[.slice a l.length c, .slice b off.length d] w (fun _ => False) (fun v A => ∃ a' c' o e, v = .tuple #[.slice a' (List.length o) c', .int .i64 e] ∧ ((e = 0 ∧ (SetOK l l.length ∧ SetOK off off.length) ∧ SetOK o o.length ∧ (∀ t, inS o t ↔ inS l t ∧ inS off t) ∧ o.length ≤ l.length + l.length + off.length) ∨ (e = 1 ∧ ¬ (SetOK l l.length ∧ SetOK off off.length) ∧ o = [])) ∧ A = [own 103 2 (.slice a' o.length c') o.length (encS o)]) := by
  refine Spec.enter (args := [.slice a l.length c, .slice b off.length d]) (A := []) Tryz.func222 rfl Tryz.ntmps222 rfl (fun _ h => h) ?_
  refine X.mem (B := [own 103 2 (.slice none ([] : List Sp).length 0) ([] : List Sp).length (encS [])]) (fun w h => h.nilOwn 103 2) ?_
  ((refine Qg (by kernel_rfl) ?_<;>repeat' first|refine Z.p rfl ?_|refine Qf ?_)<;>refine X.seq ?_<;>((refine Qg (by kernel_rfl) ?_<;>repeat' first|refine Z.p rfl ?_|(refine XL.at 1 ?_;((refine XL.call rfl rfl rfl rfl (fun w hw => Check_spec w a l.length c l (hl.conf0 hw)) ?_; rintro v B' ⟨e, rfl, he, rfl⟩; refine Qh ?_); rcases he with ⟨rfl, hset⟩ | ⟨rfl, hset⟩))|(refine XL.at 5 ?_;((refine XL.call rfl rfl rfl rfl (fun w hw => Check_spec w b off.length d off (ho.conf0 hw)) ?_; rintro v B' ⟨e, rfl, he, rfl⟩; refine Qh ?_); rcases he with ⟨rfl, hset2⟩ | ⟨rfl, hset2⟩))|refine Z.ct rfl (by omega) ?_|refine Z.cf rfl (by omega) ?_|refine Qf ?_)<;>(refine Qj rfl ?_ ?_;rotate_left;(focus (intro hc;first|exact no_ hc rfl|(refine X.skip ?_)));rotate_right;(focus (intro hc;first|exact no_ hc rfl|((refine Qg (by kernel_rfl) ?_<;>repeat' first|refine Z.p rfl ?_|refine Qf ?_)<;>(apply X.r2 Tryz.results222 (Qi rfl) (Qi rfl);(focus (first| (exact ⟨none, 0, [], 1, rfl, .inr ⟨rfl, fun h => hset h.1, rfl⟩, rfl⟩) | (exact ⟨none, 0, [], 1, rfl, .inr ⟨rfl, fun h => hset2 h.2, rfl⟩, rfl⟩) ));exact fun _=>Conf.takes))))))<;>(first|refine N.next ?_<;>((refine Qg (by kernel_rfl) ?_<;>repeat' first|refine Z.p rfl ?_|(refine XL.at 3 ?_;((refine XL.call rfl rfl rfl rfl (fun w hw => less_spec w a b c d l off (hl.conf0 hw) (ho.conf0 hw) hset hset2 (by omega)) ?_; rintro v B' ⟨a1, c1, o1, rfl, g1, g2, g3, rfl⟩; refine Qh ?_)))|(refine XL.at 4 ?_;((refine XL.call rfl rfl rfl rfl (fun w hw => less_spec w a a1 c c1 l o1 (hl.conf0 hw) (hw.ownRd (i := 0) rfl) hset g1 (by omega)) ?_; rintro v B' ⟨a', c', o, rfl, h1, h2, h3, rfl⟩; refine Qh ?_)))|refine Qf ?_)<;>(apply X.r2 Tryz.results222 (Qi rfl) (Qi rfl);(focus (first| (exact ⟨a', c', o, 0, rfl, .inl ⟨rfl, ⟨hset, hset2⟩, h1, fun t => by rw [h2 t, g2 t]; constructor <;> (intro ⟨q1, q2⟩; exact ⟨q1, by by_cases q : inS off t <;> simp_all⟩), by omega⟩, rfl⟩)));exact fun _=>Conf.takes))))
end Go.Lx
namespace Go.Lx
def objA (b : Nat) (o : Obj) : Assn where
  holds w F := w.heap[b]? = some o ∧ ∀ x, F x ↔ x = b
  loc := fun ⟨h, hF⟩ hk => ⟨(hk b ((hF b).2 rfl)).trans h, hF⟩
  dom := fun ⟨h, hF⟩ hb => by
    rw [(hF _).1 hb]
    exact (Array.getElem?_eq_some_iff.1 h).1
class ObjAt (A : List Assn) (b : Nat) (o : outParam Obj) (i : outParam Nat) : Prop where at_ : A[i]? = some (objA b o)
instance {A : List Assn} {b : Nat} {o : Obj} : ObjAt (objA b o :: A) b o 0 := ⟨rfl⟩
def someA {ι : Type} (I : ι → Prop) (AA : ι → List Assn) : Assn where
  holds w F := ∃ i, I i ∧ Sep (AA i) w F
  loc := fun ⟨i, hi, h⟩ hk => ⟨i, hi, h.loc hk⟩
  dom := fun ⟨i, hi, h⟩ hb => Sep.dom h hb
variable {C : Cx} {A A' B B' : List Assn} {w : World} {Q : Exit → Act → World → Prop} {S : World → Prop} {env : Env} {ops : Array Oper} {r : Sd} {i d : Nat} {o : Oper} {v : Value} {cl : Cl} {c : Code}
theorem Sep.one {p : Assn} {F : Nat → Prop} (h : p.holds w F) : Sep [p] w F := ⟨F, fun _ => False, h, fun _ h => h, fun _ _ h => h, fun b => by simp⟩
theorem Sep.one' {p : Assn} {F : Nat → Prop} (h : Sep [p] w F) : p.holds w F := by
  obtain ⟨F1, F2, h1, h2, _, hF⟩ := h
  have : F = F1 := funext fun b => propext ⟨fun hb => ((hF b).1 hb).resolve_right (h2 b), fun hb => (hF b).2 (.inl hb)⟩
  rw [this]
  exact h1
theorem Conf.someOut {ι : Type} {I : ι → Prop} {AA : ι → List Assn} (h : Conf C [someA I AA] w) : ∃ i, I i ∧ Conf C (AA i) w := by
  obtain ⟨F, s, f⟩ := h.sep
  obtain ⟨i, hi, k⟩ := s.one'
  exact ⟨i, hi, h.os, h.tape, h.output, h.size, h.drawn, h.keep, F, k, f⟩
theorem Conf.someIn {ι : Type} {I : ι → Prop} {AA : ι → List Assn} {i : ι} (hi : I i) (h : Conf C (AA i) w) : Conf C [someA I AA] w := by
  obtain ⟨F, s, f⟩ := h.sep
  exact ⟨h.os, h.tape, h.output, h.size, h.drawn, h.keep, F, Sep.one ⟨i, hi, s⟩, f⟩
theorem Conf.head {p : Assn} {k : Kd} (h : Conf C ([p] ++ A) w) : Conf ⟨C.P, k, C.w0, C.H⟩ [p] w := (h.sub (List.sublist_append_left [p] A)).any
theorem Conf.setObj {b : Nat} {o o' : Obj} [hb : ObjAt A b o i] [hu : Upd A i (objA b o') A'] (h : Conf C A w) : Conf C A' (w.putObj b o') := by
  rw [← hu.eq]
  refine h.update hb.at_ rfl rfl rfl (by simp [World.putObj]) (Nat.le_refl _) fun F ⟨h1, h2⟩ => ⟨F, ⟨World.putObj_heap_same (Array.getElem?_eq_some_iff.1 h1).1, h2⟩, fun b hb => .inl hb, fun k hk hn => ?_⟩
  exact World.putObj_heap_other fun e => hn ((h2 k).2 e)
theorem Conf.objAt {b : Nat} {o : Obj} [hb : ObjAt A b o i] (h : Conf C A w) : w.heap[b]? = some o := by
  obtain ⟨F, ⟨h1, _⟩, _⟩ := h.get hb.at_
  exact h1
theorem Conf.behindF {B B' : List Assn} {n : Kd} {w' : World} {F F2 : Nat → Prop} (h : Conf C (B ++ A) w) (hF : ∀ b, F b → C.H b ∨ C.w0.heap.size ≤ b) (hF2 : ∀ b, F2 b → C.H b ∨ C.w0.heap.size ≤ b) (s2 : Sep A w F2) (hd : ∀ b, F b → ¬ F2 b) (k : Conf ⟨C.P, n, w, F⟩ B' w') : Conf C (B' ++ A) w' := by
  obtain ⟨G, g, gF⟩ := k.sep
  have hd2 : ∀ b, F2 b → b < w.heap.size := fun b hb => Sep.dom s2 hb
  refine ⟨k.os.trans h.os, k.tape.trans h.tape, k.output.trans h.output, Nat.le_trans h.size k.size, trivial, fun b hb hH => ?_, fun b => G b ∨ F2 b, Sep.append g (s2.loc fun b hb => k.keep b (hd2 b hb) (fun h1 => hd b h1 hb)) ?_, ?_⟩
  · rw [k.keep b (Nat.lt_of_lt_of_le hb h.size) (fun h1 => ?_), h.keep b hb hH]
    rcases hF b h1 with h2 | h2
    · exact hH h2
    · omega
  · intro b hb hb2
    rcases gF b hb with h1 | h1
    · exact hd b h1 hb2
    · have := hd2 b hb2
      simp only at h1
      omega
  · rintro b (hb | hb)
    · rcases gF b hb with h1 | h1
      · exact hF b h1
      · exact .inr (Nat.le_trans h.size h1)
    · exact hF2 b hb
def lp (r : Loop) (st : LoopState) (pe : Option Code) : Obj := .loop { r with state := st, pending := pe }
def YieldsTo (P : Program) (l : Nat) (args : List Value) (w : World) (F : Nat → Prop) (R : Value → List Assn → Prop) : Prop :=
  ∃ fn tmps assign body, (Instr.yield l args.toArray).run P w = .ok (.round l fn tmps assign body) w ∧ RoundIn Fence.wide 8 P l fn tmps assign body w (Ends P w F R)
def Iter {α : Type} (P : Program) (gf : FuncId) (lb : List Value) (encs : α → List Value) (xs : List α) (w : World) (F : Nat → Prop) : Prop :=
  ∀ (l : Nat) (J Jx : List α → Assn) (w1 : World) (H : Nat → Prop), Conf ⟨P, 0, w, F⟩ [] w1 → (∀ b, H b → F b ∨ w.heap.size ≤ b) → Sep [J []] w1 H →
    (∀ pre x post W F', xs = pre ++ x :: post → Sep [J pre] W F' → (∀ b, F' b → H b ∨ w1.heap.size ≤ b) → Conf ⟨P, 0, w1, H⟩ [J pre] W →
      YieldsTo P l (encs x) W F' (fun v A => (v = .bool true ∧ A = [J (pre ++ [x])]) ∨ (v = .bool false ∧ A = [Jx (pre ++ [x])]))) →
    Spec P gf (.func (.yield l) #[] #[] :: lb).toArray w1 H (fun _ A => A = [J xs] ∨ ∃ pre, A = [Jx pre])
def RQ (P : Program) (l : Nat) (w : World) (F : Nat → Prop) (R : Value → List Assn → Prop) : Exit → Act → World → Prop := roundPost P l (Ends P w F R)
def AQ (P : Program) (l : Nat) (body : Code) (w : World) (F : Nat → Prop) (R : Value → List Assn → Prop) : Exit → Act → World → Prop :=
  Exit.then (fun a₁ w₁ => ∃ w₂, (Instr.beginRound l).run P w₁ = .ok () w₂ ∧ body.wpIn (Fence.wide.inRound l) 8 P (RQ P l w F R) a₁ w₂) (fun _ _ _ => False)
theorem wpIn_depth {F : Fence} {n m : Nat} {P : Program} {a : Act} (hF : F.depth = none) (h : c.wpIn F n P Q a w) : c.wpIn F m P Q a w :=
  fun b k cs hro hb _ => h b k cs hro hb (fun d hd => by rw [hF] at hd; cases hd)
def puts (env : Env) : List Nat → List Value → Env
  | p :: ps, v :: vs => puts ((p, v) :: env) ps vs
  | _, _ => env
theorem EnvOK.puts {k : Kd} : ∀ (ps : List Nat) (vs : List Value) (env : Env) (t : Array Value) (ds : List Deferred), EnvOK k env ⟨t, ds⟩ → (ps.all fun p => Nat.blt p k.n) = true → EnvOK k (puts env ps vs) ⟨((ps.zip vs).foldl (fun t p => t.setIfInBounds p.1 p.2) t), ds⟩
  | [], vs, env, t, ds, h, _ => by cases vs <;> exact h
  | p :: ps, [], env, t, ds, h, _ => h
  | p :: ps, v :: vs, env, t, ds, h, hp => by
    simp only [List.all_cons, Bool.and_eq_true] at hp
    have h1 := EnvOK.put h hp.1 v
    exact EnvOK.puts ps vs ((p, v) :: env) _ ds h1 hp.2
theorem X.rangeF {α ι κ : Type} {g : Operand} {ps : Array Tmp} {assign body : Code} {gf : FuncId} {lb : List Value} {encs : α → List Value} {xs : List α}
    (B : List Assn) (I : List α → ι → Prop) (AA : List α → ι → List Assn) (KX : κ → Prop) (cd : κ → Code) (AX : κ → List Assn) {A' : List Assn} [ht : Takes A B A']
    (hro : C.n.ro = none) (hms : C.n.ms = none) (hg : ev env g = some (.func (.func gf) #[] lb.toArray)) [hent : Enters C.P gf] (hps : ∀ x, (encs x).length = ps.size) (hpn : (ps.toList.all fun p => Nat.blt p C.n.n) = true)
    (i0 : ι) (hI0 : I [] i0) (hB0 : AA [] i0 = B)
    (hseq : ∀ w F, Sep B w F → Frm C A' w F → Conf C (B ++ A') w → Iter C.P gf lb encs xs w F)
    (hround : ∀ (pre : List α) (x : α) (post : List α) (i : ι) (l D : Nat) (r : Loop) (W : World) (F : Nat → Prop) (R : Value → List Assn → Prop), xs = pre ++ x :: post → I pre i → Frm C A' W F → Conf C (objA l (lp r .ready none) :: objA D (.deferred (some [])) :: (AA pre i ++ A')) W →
      (∀ B1, (∃ j, I (pre ++ [x]) j ∧ B1 = objA l (lp r .ready none) :: objA D (.deferred (some [])) :: AA (pre ++ [x]) j) → R (.bool true) B1) →
      (∀ B1, (∃ k, KX k ∧ B1 = objA l (lp r .done (some (cd k))) :: objA D (.deferred (some [])) :: AX k) → R (.bool false) B1) →
      X ⟨C.P, ⟨C.n.n, none, some l⟩, W, F⟩ assign (AQ C.P l body W F R) (puts env ps.toList (encs x)) (objA l (lp r .ready none) :: objA D (.deferred (some [])) :: AA pre i))
    (hdone : ∀ i D, I xs i → N ⟨C.P, ⟨C.n.n, some D, none⟩, C.w0, C.H⟩ Q env (objA D (.deferred (some [])) :: (AA xs i ++ A')))
    (hstop : ∀ k D, KX k → X ⟨C.P, ⟨C.n.n, some D, none⟩, C.w0, C.H⟩ (cd k) Q env (objA D (.deferred (some [])) :: (AX k ++ A'))) : X C (.rangeFunc g ps assign body) Q env A := by
  refine ⟨fun a w he hc0 => ?_⟩
  have hc : Conf C (B ++ A') w := hc0.takes2
  have hfen : fen C.n = Fence.wide := by unfold fen; rw [hro]; rfl
  rw [hfen]
  refine wpIn_rangeFunc fun fn hfn => ?_
  obtain ⟨rec, hrec⟩ : ∃ rec : Loop, rec = { state := .ready, pending := none, fn, tmps := a.tmps, params := ps, assign, body, defers := w.heap.size } := ⟨_, rfl⟩
  have hrec0 : lp rec .ready none = .loop rec := by rw [hrec]; rfl
  obtain ⟨W1, hW1⟩ : ∃ W1, (w.alloc (.deferred (some []))).alloc (.loop rec) = W1 := ⟨_, rfl⟩
  obtain ⟨F, s, hF⟩ := hc.sep
  obtain ⟨F1, F2, s1, s2, hd, hFF⟩ := s.split
  have hd1 : ∀ b, F1 b → b < w.heap.size := fun b hb => Sep.dom s1 hb
  have hd2 : ∀ b, F2 b → b < w.heap.size := fun b hb => Sep.dom s2 hb
  have hF1 : ∀ b, F1 b → C.H b ∨ C.w0.heap.size ≤ b := fun b hb => hF b ((hFF b).2 (.inl hb))
  have hF2 : ∀ b, F2 b → C.H b ∨ C.w0.heap.size ≤ b := fun b hb => hF b ((hFF b).2 (.inr hb))
  have hsz : W1.heap.size = w.heap.size + 2 := by rw [← hW1]; simp
  have hold : ∀ b, b < w.heap.size → W1.heap[b]? = w.heap[b]? := fun b hb => by
    rw [← hW1]; exact (RowKit.Below.heap_alloc _ _ b (by simp; omega)).trans (RowKit.Below.heap_alloc w _ b hb)
  have hL1 : W1.heap[w.heap.size + 1]? = some (.loop rec) := by
    rw [← hW1]; have := World.alloc_heap_new (w.alloc (.deferred (some []))) (.loop rec); rwa [World.size_alloc] at this
  have hD1 : W1.heap[w.heap.size]? = some (.deferred (some [])) := by
    rw [← hW1]; exact (RowKit.Below.heap_alloc _ _ _ (by simp)).trans (World.alloc_heap_new w _)
  have hdr1 : W1.drawn = w.drawn := by rw [← hW1]; rfl
  have hos1 : W1.os = w.os := by rw [← hW1]; rfl
  have hta1 : W1.tape = w.tape := by rw [← hW1]; rfl
  have hou1 : W1.output = w.output := by rw [← hW1]; rfl
  have hle0 : C.w0.heap.size ≤ w.heap.size := hc.size
  -- the state of the loop, as one assertion
  obtain ⟨J, hJ⟩ : ∃ J : List α → Assn, J = fun pre => someA (I pre) (fun i => objA (w.heap.size + 1) (lp rec .ready none) :: objA w.heap.size (.deferred (some [])) :: AA pre i) := ⟨_, rfl⟩
  obtain ⟨Jx, hJx⟩ : ∃ Jx : List α → Assn, Jx = fun _ => someA KX (fun k => objA (w.heap.size + 1) (lp rec .done (some (cd k))) :: objA w.heap.size (.deferred (some [])) :: AX k) := ⟨_, rfl⟩
  obtain ⟨H1, hH1⟩ : ∃ H1 : Nat → Prop, H1 = fun b => b = w.heap.size + 1 ∨ b = w.heap.size ∨ F1 b := ⟨_, rfl⟩
  have hsJ : Sep [J []] W1 H1 := by
    rw [hJ, hH1]
    refine Sep.one ⟨i0, hI0, ?_⟩
    show Sep (objA (w.heap.size + 1) (lp rec .ready none) :: objA w.heap.size (.deferred (some [])) :: AA [] i0) _ _
    rw [hB0, hrec0]
    refine ⟨fun b => b = w.heap.size + 1, fun b => b = w.heap.size ∨ F1 b, ⟨hL1, fun _ => Iff.rfl⟩, ⟨fun b => b = w.heap.size, F1, ⟨hD1, fun _ => Iff.rfl⟩, s1.loc (fun b hb => hold b (hd1 b hb)), ?_, fun _ => Iff.rfl⟩, ?_, fun _ => Iff.rfl⟩
    · intro b hb h1; have := hd1 b h1; omega
    · rintro b hb (h1 | h1)
      · omega
      · have := hd1 b h1; omega
  have hcW : Conf C ([J []] ++ A') W1 := by
    refine ⟨hos1.trans hc.os, hta1.trans hc.tape, hou1.trans hc.output, by omega, trivial, fun b hb hH => (hold b (by omega)).trans (hc.keep b hb hH), fun b => H1 b ∨ F2 b, Sep.append hsJ (s2.loc fun b hb => hold b (hd2 b hb)) ?_, ?_⟩
    · rw [hH1]
      rintro b (rfl | rfl | h1) h2
      · have := hd2 _ h2; omega
      · have := hd2 _ h2; omega
      · exact hd b h1 h2
    · rw [hH1]
      rintro b ((rfl | rfl | h1) | h2)
      · exact .inr (by omega)
      · exact .inr (by omega)
      · exact hF1 b h1
      · exact hF2 b h2
  have hH1o : ∀ b, H1 b → C.H b ∨ C.w0.heap.size ≤ b := by
    rw [hH1]
    rintro b (rfl | rfl | h1)
    · exact .inr (by omega)
    · exact .inr (by omega)
    · exact hF1 b h1
  have hH1d : ∀ b, H1 b → ¬ F2 b := by
    rw [hH1]
    rintro b (rfl | rfl | h1) h2
    · have := hd2 _ h2; omega
    · have := hd2 _ h2; omega
    · exact hd b h1 h2
  have s2W : Sep A' W1 F2 := s2.loc fun b hb => hold b (hd2 b hb)
  have hit := hseq w F1 s1 ⟨hF1, F2, s2, hd⟩ hc (w.heap.size + 1) J Jx W1 H1
    ⟨hos1, hta1, hou1, by show w.heap.size ≤ _; omega, trivial, fun b hb _ => hold b hb, fun _ => False, fun _ h => h, fun _ h => h.elim⟩
    (by
      rw [hH1]
      rintro b (rfl | rfl | h1)
      · exact .inr (by show w.heap.size ≤ _; omega)
      · exact .inr (Nat.le_refl _)
      · exact .inl h1) hsJ ?_
  · refine ⟨w.heap.size + 1, [{ target := .collected w.heap.size, args := #[] }], W1, { target := .fn (.func gf) lb.toArray, args := #[.func (.yield (w.heap.size + 1)) #[] #[]] }, W1, gf,
      #[.func (.yield (w.heap.size + 1)) #[] #[]] ++ lb.toArray, W1, ?_, ?_, ?_, ?_, fun h => (by cases h), ?_⟩
    · rw [← hW1, hrec]; exact run_enterLoop_outer _ _ _ _ _
    · simp only [resolve, he.ev hg]
      simp [go_sem]
    · intro f' _; trivial
    · simp [invoke, go_sem, hent.run]
    · have e1 : (#[Value.func (.yield (w.heap.size + 1)) #[] #[]] ++ lb.toArray) = (Value.func (.yield (w.heap.size + 1)) #[] #[] :: lb).toArray := by simp
      rw [e1]
      refine (callsIn_wide (n := 9 - 1)).2 (Calls.mono hit ?_)
      rintro e W2 ⟨v, AE, rfl, hAE, hce⟩
      have hcx := fun (B2 : List Assn) (h : Conf ⟨C.P, 0, W1, H1⟩ B2 W2) => Conf.behindF (B := [J []]) hcW hH1o hF2 s2W hH1d h
      have hae : EnvOK ⟨C.n.n, some w.heap.size, none⟩ env { a with defers := [{ target := .collected w.heap.size, args := #[] }] ++ a.defers } := ⟨he.size, by show _ ++ a.defers = _; rw [he.defers, hms]; rfl, he.vals⟩
      rcases hAE with rfl | ⟨pre, rfl⟩
      · rw [hJ] at hce
        obtain ⟨i, hi, hce⟩ := hce.someOut
        have hc2 : Conf C (objA (w.heap.size + 1) (lp rec .ready none) :: objA w.heap.size (.deferred (some [])) :: (AA xs i ++ A')) W2 := hcx _ hce
        have hl2 : W2.heap[w.heap.size + 1]? = some (lp rec .ready none) := hce.objAt (i := 0)
        refine ⟨none, _, run_endLoop (by exact hl2) (by simp), ?_⟩
        have hc3 := (Conf.setObj (i := 0) (b := w.heap.size + 1) (o' := lp rec .exhausted none) hc2).drop
        exact (hdone i w.heap.size hi).go _ _ hae hc3.any
      · rw [hJx] at hce
        obtain ⟨k, hk, hce⟩ := hce.someOut
        have hc2 : Conf C (objA (w.heap.size + 1) (lp rec .done (some (cd k))) :: objA w.heap.size (.deferred (some [])) :: (AX k ++ A')) W2 := hcx _ hce
        have hl2 : W2.heap[w.heap.size + 1]? = some (lp rec .done (some (cd k))) := hce.objAt (i := 0)
        refine ⟨some (cd k), _, run_endLoop (by exact hl2) (by simp), ?_⟩
        have hc3 := (Conf.setObj (i := 0) (b := w.heap.size + 1) (o' := lp rec .exhausted (some (cd k))) hc2).drop
        exact (hstop k w.heap.size hk).go _ _ hae hc3.any
  · intro pre x post W F' hxs hsW hF' hcp
    rw [hJ] at hcp hsW
    obtain ⟨i, hi, hsW⟩ := hsW.one'
    have hcC : Conf C (objA (w.heap.size + 1) (lp rec .ready none) :: objA w.heap.size (.deferred (some [])) :: (AA pre i ++ A')) W := by
      refine Conf.behindF (B := [J []]) (B' := objA (w.heap.size + 1) (lp rec .ready none) :: objA w.heap.size (.deferred (some [])) :: AA pre i) hcW hH1o hF2 s2W hH1d (n := 0) ⟨hcp.os, hcp.tape, hcp.output, hcp.size, hcp.drawn, hcp.keep, F', hsW, hF'⟩
    have hlW : W.heap[w.heap.size + 1]? = some (lp rec .ready none) := hcC.objAt (i := 0)
    have hfr : Frm C A' W F' := by
      refine ⟨fun b hb => ?_, F2, s2W.loc (fun b hb => hcp.keep b (Nat.lt_of_lt_of_le (hd2 b hb) (by show w.heap.size ≤ W1.heap.size; omega)) (fun h => hH1d b h hb)), fun b hb h2 => ?_⟩
      · rcases hF' b hb with h1 | h1
        · exact hH1o b h1
        · exact .inr (by omega)
      · rcases hF' b hb with h1 | h1
        · exact hH1d b h1 h2
        · have := hd2 b h2; omega
    have hx := hround pre x post i (w.heap.size + 1) w.heap.size rec W F' (fun v A => (v = .bool true ∧ ∃ j, I (pre ++ [x]) j ∧ A = objA (w.heap.size + 1) (lp rec .ready none) :: objA w.heap.size (.deferred (some [])) :: AA (pre ++ [x]) j) ∨
      (v = .bool false ∧ ∃ k, KX k ∧ A = objA (w.heap.size + 1) (lp rec .done (some (cd k))) :: objA w.heap.size (.deferred (some [])) :: AX k)) hxs hi hfr hcC (fun B1 h => .inl ⟨rfl, h⟩) (fun B1 h => .inr ⟨rfl, h⟩)
    have hround := roundIn_of_wpIn (F := Fence.wide) (n := 8) (f := fn) hfn (wpIn_depth (m := 8) rfl (hx.go _ W (EnvOK.puts ps.toList (encs x) env a.tmps [] ⟨he.size, rfl, he.vals⟩ hpn) (Conf.start hsW)))
    have e2 : (rec.params.zip (encs x).toArray).foldl (fun tmps (t, a) => tmps.setIfInBounds t a) rec.tmps = (ps.toList.zip (encs x)).foldl (fun t p => t.setIfInBounds p.1 p.2) a.tmps := by
      rw [hrec]
      simp only
      rw [← Array.foldl_toList, Array.toList_zip]
    have e3 : (lp rec .ready none) = .loop { rec with state := .ready, pending := none } := rfl
    have hra : rec.assign = assign ∧ rec.body = body ∧ rec.fn = fn := by rw [hrec]; exact ⟨rfl, rfl, rfl⟩
    refine ⟨fn, _, assign, body, ?_, hround.mono ?_⟩
    · rw [← e2]
      obtain ⟨h1, h2, h3⟩ := hra
      have := run_yield (P := C.P) (args := (encs x).toArray) (w := W) (l := w.heap.size + 1) (r := { rec with state := .ready, pending := none }) hlW (by rw [hrec]; simpa using hps x)
      simp only [h1, h2, h3] at this
      exact this
    · rintro e w' ⟨v, A1, rfl, hv, hcf⟩
      rcases hv with ⟨rfl, j, hj, rfl⟩ | ⟨rfl, k, hk, rfl⟩
      · exact ⟨_, _, rfl, .inl ⟨rfl, rfl⟩, by rw [hJ]; exact hcf.someIn hj⟩
      · exact ⟨_, _, rfl, .inr ⟨rfl, rfl⟩, by rw [hJx]; exact hcf.someIn hk⟩
structure Y (C : Cx) (ops : Array Oper) (Q : Exit → Act → World → Prop) (is : List Nat) (env : Env) (A : List Assn) : Prop where
  go : ∀ a w, EnvOK C.n env a → Conf C A w → wpOpsIn (fen C.n) 9 C.P ops Q is a w
theorem X.textY {id : Nat} (h : Y C ops Q (List.range ops.size) env A) : X C (.region id ops false) Q env A := ⟨fun a w he hc => wpIn_region (h.go a w he hc)⟩
theorem Y.nil (h : N C Q env A) : Y C ops Q [] env A := ⟨fun a w he hc => h.go a w he hc⟩
theorem Y.part [NoPanic Q] {is : List Nat} (k i : Nat) (rest : List Nat) (hnd : noDefer ops = true) (e : is = List.range' i k ++ rest) {L : Sd} (hL : Sd.text k i = L)
    (h : XL C ops (Exit.then (wpOpsIn (fen C.n) 9 C.P ops Q rest) Q) (fun _ => True) L env A) : Y C ops Q is env A :=
  ⟨fun a w he hc => by
    rw [e]
    exact wpOpsIn_then hnd rest _ _ _ (wpOps_of_wpT k i a w (by rw [hL]; exact h.go a w he hc))⟩
theorem N.rest {is : List Nat} (h : Y C ops Q is env A) : N C (Exit.then (wpOpsIn (fen C.n) 9 C.P ops Q is) Q) env A := ⟨fun a w he hc => h.go a w he hc⟩
theorem Y.app {is : List Nat} {D : List Assn} [h : App A B D] (k : Y C ops Q is env D) : Y C ops Q is env (A ++ B) := by rw [h.eq]; exact k
theorem RoundIn.anyDepth {P : Program} {l n m : Nat} {f : FuncId} {tmps : Array Value} {assign body : Code} {w : World} {R : Ending → World → Prop} (h : RoundIn Fence.wide n P l f tmps assign body w R) : RoundIn Fence.wide m P l f tmps assign body w R :=
  ⟨h.1, fun c cs _ => h.2 c cs (room_wide _)⟩
theorem Y.yield {l : Nat} {is : List Nat} {fx : Operand} {args : Array Operand} {ats : Array TypeId} {ty : TypeId} {pos : String} {af : Array Edge} {gd : Option (Nat × Bool)} {vs : List Value} {R : Value → List Assn → Prop} (B : List Assn) [NoPanic Q] (hro : C.n.ro = none)
    (ho : ops[i]? = some ⟨some d, .call ⟨.value fx, args, ats⟩, ty, pos, af, gd⟩) (hg : gok ops env ⟨some d, .call ⟨.value fx, args, ats⟩, ty, pos, af, gd⟩ = some true) (hdn : Nat.blt d C.n.n = true)
    (hf : ev env fx = some (.func (.yield l) #[] #[])) (hargs : evs env args.toList = some vs) [ht : Takes A B A']
    (hspec : ∀ w F, Sep B w F → Frm C A' w F → Conf C (B ++ A') w → YieldsTo C.P l vs w F R)
    (k : ∀ v B', R v B' → Y C ops Q is ((d, v) :: env) (B' ++ A')) : Y C ops Q (i :: is) env A := by
  refine ⟨fun a w he hc0 => ?_⟩
  have hc : Conf C (B ++ A') w := hc0.takes2
  have hargs' : args.map a.eval = vs.toArray := by
    apply Array.ext'
    rw [Array.toList_map]
    exact he.evs _ _ hargs
  obtain ⟨F, s, hF⟩ := hc.sep
  obtain ⟨F1, F2, s1, s2, hd, hFF⟩ := s.split
  have hF1 : ∀ b, F1 b → C.H b ∨ C.w0.heap.size ≤ b := fun b hb => hF b ((hFF b).2 (.inl hb))
  obtain ⟨fn, tmps, assign, body, hy, hr⟩ := hspec w F1 s1 ⟨hF1, F2, s2, hd⟩ hc
  have hfen : fen C.n = Fence.wide := by unfold fen; rw [hro]; rfl
  unfold wpOpsIn
  simp only [ho, gok_wanted hg he, if_true]
  rw [hfen]
  refine ⟨fun _ _ => trivial, ?_⟩
  have hrun : (Oper.semAt (none : Option Nat) a.eval ⟨some d, .call ⟨.value fx, args, ats⟩, ty, pos, af, gd⟩).run C.P w = .ok (.round l fn tmps assign body) w := by
    rw [Oper.semAt_none]
    simp [execOp, resolve, he.ev hf, hargs', Deferred.ofValue, invoke, hy]
  have hrun' : (Oper.semAt Fence.wide.round a.eval ⟨some d, .call ⟨.value fx, args, ats⟩, ty, pos, af, gd⟩).run C.P w = .ok (.round l fn tmps assign body) w := hrun
  rw [hrun']
  refine ⟨fun h => (by cases h), (RoundIn.anyDepth hr).mono ?_⟩
  rintro e w' ⟨v, B', rfl, hR, hcf⟩
  have h2 := (k v B' hR).go _ w' (he.put hdn v) (Conf.behindF (B := B) hc hF1 (fun b hb => hF b ((hFF b).2 (.inr hb))) s2 hd hcf)
  rw [hfen] at h2
  exact h2
theorem Rt.doneM {P : Program} {n D j : Nat} {w0 : World} {H : Nat → Prop} {fn : Func} {R : Value → List Assn → Prop} {v : Value} [ho : ObjAt A D (.deferred (some [])) j] [hu : Upd A j (objA D (.deferred none)) A']
    (hv : Res ⟨P, ⟨n, some D, none⟩, w0, H⟩ fn env A' v) (hR : R v B) (hA : ∀ w, Conf ⟨P, ⟨n, some D, none⟩, w0, H⟩ A' w → Conf ⟨P, ⟨n, some D, none⟩, w0, H⟩ B w) : Rt ⟨P, ⟨n, some D, none⟩, w0, H⟩ (Post P fn w0 H R) env A :=
  ⟨fun a w he hc => by
    show LeavesInM _ _ _ _ _ _ a.defers _ _
    rw [he.defers]
    have hc2 := Conf.setObj (b := D) (o' := .deferred none) hc
    exact ⟨by simp, .inl ⟨D, _, rfl, run_takeDeferred (hc.objAt (b := D)), v, hv a _ he hc2, v, B, rfl, hR, (hA _ hc2).any⟩⟩⟩
end Go.Lx
