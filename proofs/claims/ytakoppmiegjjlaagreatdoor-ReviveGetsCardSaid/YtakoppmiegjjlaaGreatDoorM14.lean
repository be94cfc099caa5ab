import Derived.Test.YtakoppmiegjjlaaGreatDoorM4
import Derived.Test.YtakoppmiegjjlaaGreatDoorM11
import Derived.Test.YtakoppmiegjjlaaGreatDoorM13
import Derived.Test.YtakoppmiegjjlaaGreatDoorM1
set_option linter.unusedVariables false
set_option linter.unusedSimpArgs false
set_option maxRecDepth 20000
set_option maxHeartbeats 4000000
namespace Go.Lx
open Go.Proofs
theorem OFixed_spec (w : World) (H : Nat → Prop) (g : Nat) (a : Option Addr) (c : Nat) (l : Bs) (x n : Nat) (hown : Sep [cells g [.slice a (List.length l) c] 244, own 5 1 (.slice a (List.length l) c) (List.length l) (encY l)] w H) (hn : 1 ≤ n ∧ n ≤ 8) (hbd : l.length ≤ 1000000000) : Spec Tryz.prog 151 #[.pointer (some ⟨g, 0, none⟩), .int .u64 x, .int .i64 n] w H (fun v A => ∃ a' c' o, v = .int .i64 0 ∧ o = l ++ fixB x n ∧ A = [cells g [.slice a' (List.length o) c'] 244, own 5 1 (.slice a' (List.length o) c') (List.length o) (encY o)]) := by
  refine Spec.enter (args := [.pointer (some ⟨g, 0, none⟩), .int .u64 x, .int .i64 n]) (A := [cells g [.slice a (List.length l) c] 244, own 5 1 (.slice a (List.length l) c) (List.length l) (encY l)]) Tryz.func151 rfl Tryz.ntmps151 rfl hown ?_
  ((refine Qg (by kernel_rfl) ?_<;>repeat' first|refine Z.p rfl ?_|refine Qf ?_)<;>refine X.seq ?_<;>(refine X.block ?_<;>((refine Qg (by kernel_rfl) ?_<;>repeat' first|refine Z.p rfl ?_|refine Z.eqP rfl rfl rfl ?_|refine Qf ?_)<;>(refine Qj rfl ?_ ?_;rotate_left;(focus (intro hc;first|((refine Qg (by kernel_rfl) ?_<;>repeat' first|refine Z.p rfl ?_|refine Z.cf rfl (by omega) ?_|refine Qf ?_)<;>(refine Qj rfl ?_ ?_;rotate_left;(focus (intro hc;first|(refine X.skip ?_)));rotate_right;(focus (intro hc;first|exact no_ hc rfl))))));rotate_right;(focus (intro hc;first|exact no_ hc rfl))))<;>(first|refine N.block ?_))<;>(first|refine N.next ?_<;>((refine Qg (by kernel_rfl) ?_<;>repeat' first|refine Z.p rfl ?_|(refine XL.at 3 ?_;((refine Qm [cells g [.slice a (List.length l) c] 244, own 5 1 (.slice a (List.length l) c) (List.length l) (encY l)] rfl rfl rfl rfl (fun w F hF hm hw => put_spec w F g a c l x n hF hn.2 hbd) ?_; rintro v B' ⟨a1, c1, o, rfl, ho, rfl⟩; refine Qh ?_)))|refine Qf ?_)<;>(refine Qg (by kernel_rfl) ?_<;>repeat' first|refine Z.p rfl ?_|refine Qf ?_)<;>(apply X.r1 Tryz.results151 (Qi rfl);(focus (exact ⟨a1, c1, o, rfl, ho, rfl⟩));exact fun _=>Conf.takes))))
theorem or_hd : ∀ n : Nat, n < 10 → 1 ≤ n → ∀ v : Nat, v < 2 ^ (8 - n) → n ≤ 8 → v ||| hd n = hd n + v := by decide +kernel
theorem hd_lt (n : Nat) : hd n < 256 := Nat.lt_of_le_of_lt (Nat.sub_le _ _) (by decide)
theorem var_set (l : Bs) {x : Nat} (hx : x < 18446744073709551616) (h8 : vsz x ≤ 8) : (l ++ fixB x (vsz x)).set l.length (UInt8.ofNat (hd (vsz x) + x / 256 ^ (vsz x - 1))) = l ++ varB x := by
  have hb := vsz_bd x
  obtain ⟨m, hm⟩ : ∃ m, vsz x = m + 1 := ⟨vsz x - 1, by omega⟩
  rw [List.set_append_right _ _ (Nat.le_refl _), Nat.sub_self]
  unfold varB
  rw [hm]
  simp [fixB]
theorem var_get (l : Bs) {x : Nat} (hx : x < 18446744073709551616) (h8 : vsz x ≤ 8) : (l ++ fixB x (vsz x))[l.length]? = some (UInt8.ofNat (x / 256 ^ (vsz x - 1))) := by
  have hb := vsz_bd x
  obtain ⟨m, hm⟩ : ∃ m, vsz x = m + 1 := ⟨vsz x - 1, by omega⟩
  rw [List.getElem?_append_right (Nat.le_refl _), Nat.sub_self, hm]
  simp [fixB]
theorem var_9 {x : Nat} (hx : x < 18446744073709551616) (h9 : vsz x = 9) : varB x = 255 :: fixB x 8 := by
  unfold varB
  rw [h9]
  have : x / 256 ^ (9 - 1) = 0 := Nat.div_eq_of_lt hx
  rw [this]
  rfl
theorem OVar_spec (w : World) (H : Nat → Prop) (g : Nat) (a al : Option Addr) (c cl : Nat) (l : Bs) (xs : List Nat) (hown : Sep [cells g [.slice a (List.length l) c] 244, own 5 1 (.slice a (List.length l) c) (List.length l) (encY l)] w H) (hl : RdX w H 1 al xs.length cl (encW xs)) (hx : ∀ x ∈ xs, x < 18446744073709551616) (hbd : l.length + 9 * xs.length ≤ 1000000000) : Spec Tryz.prog 218 #[.pointer (some ⟨g, 0, none⟩), .slice al xs.length cl] w H (fun v A => ∃ a' c' o, v = .tuple #[] ∧ o = l ++ xs.flatMap varB ∧ A = [cells g [.slice a' (List.length o) c'] 244, own 5 1 (.slice a' (List.length o) c') (List.length o) (encY o)]) := by
  refine Spec.enter (args := [.pointer (some ⟨g, 0, none⟩), .slice al xs.length cl]) (A := [cells g [.slice a (List.length l) c] 244, own 5 1 (.slice a (List.length l) c) (List.length l) (encY l)]) Tryz.func218 rfl Tryz.ntmps218 rfl hown ?_
  (refine X.seq ?_<;>((refine Qg (by kernel_rfl) ?_<;>repeat' first|refine Z.p rfl ?_|refine Z.eqP rfl rfl rfl ?_|refine Qf ?_)<;>(refine Qj rfl ?_ ?_;rotate_left;(focus (intro hc;first|(refine X.skip ?_)));rotate_right;(focus (intro hc;first|exact no_ hc rfl))))<;>(first|refine N.next ?_<;>((refine Qg (by kernel_rfl) ?_<;>repeat' first|refine Z.p rfl ?_|refine Z.ln rfl rfl ?_|refine Qf ?_)<;>refine X.block ?_<;>((refine Qu (ι := Nat × Option Addr × Nat × Bs) (fun y => [(0, .pointer (some ⟨g, 0, none⟩)), (10, .slice al xs.length cl), (11, .int .i64 xs.length), (12, .int .i64 y.1)]) (fun y => [cells g [.slice y.2.1 (List.length y.2.2.2) y.2.2.1] 244, own 5 1 (.slice y.2.1 (List.length y.2.2.2) y.2.2.1) (List.length y.2.2.2) (encY y.2.2.2)]) (fun y => y.1 ≤ xs.length ∧ y.2.2.2 = l ++ (xs.take y.1).flatMap varB ∧ y.2.2.2.length ≤ l.length + 9 * y.1) (fun y => xs.length - y.1) ((0, a, c, l)) ?_ ?_ ?_ ?_; (focus (exact ⟨Nat.zero_le _, by simp, by simp⟩)); (focus (repeat (first| exact Sub.nil | refine Sub.cons rfl ?_))); (focus (exact (fun w h => h.takes))); rintro ⟨i, a1, c1, o⟩ ⟨hi, ho, hol⟩; (dsimp only at *)) <;> ((refine Qg (by kernel_rfl) ?_<;>repeat' first|(refine XL.at 0 ?_;(first| refine Ql rfl rfl rfl rfl (D.int rfl rfl rfl) (fun h1 => ?_) (fun h1 => ?_)))|refine Qf ?_)<;>refine X.seq ?_<;>((refine Qj rfl ?_ ?_;rotate_left;(focus (intro hc;first|exact no_ hc rfl|(refine Qs ?_)));rotate_right;(focus (intro hc;first|exact no_ hc rfl|(refine X.skip ?_)))))<;>(first|refine Ex.then ?_|refine N.next ?_<;>(refine X.seq ?_<;>(refine X.block ?_<;>((refine Qg (by kernel_rfl) ?_<;>repeat' first|refine Z.p rfl ?_|(refine XL.at 0 ?_;(have hil : i < xs.length := (by omega); obtain ⟨x, hxi⟩ : ∃ x, xs[i]? = some x := (⟨xs[i], List.getElem?_eq_getElem hil⟩); have hxl := hx x (List.mem_of_getElem? hxi); have hfm : (xs.take (i + 1)).flatMap varB = (xs.take i).flatMap varB ++ varB x := (by rw [List.take_add_one, hxi]; simp); have hvb := vsz_bd x; have hvl := varB_len x; (apply Qk rfl rfl rfl rfl; exact D.indexAddr i rfl rfl rfl hil (hl.rd.sm (by omega)))))|(refine XL.at 1 ?_;((apply XL.detF rfl rfl rfl rfl; exact D.load1 rfl (fun w hw => Rd.wordAt (hl.now hw) hxi))))|refine Qf ?_)<;>(refine Qg (by kernel_rfl) ?_<;>repeat' first|refine Z.p rfl ?_|(refine XL.at 1 ?_;((refine XL.call rfl rfl rfl rfl (fun w hw => Size_spec x hxl w) ?_; rintro v B' ⟨rfl, rfl⟩; refine Qh ?_)))|refine Qf ?_)<;>refine X.seq ?_<;>((refine Qg (by kernel_rfl) ?_<;>repeat' first|refine Z.p rfl ?_|(refine XL.at 1 ?_;(first| refine Ql rfl rfl rfl rfl (D.int rfl rfl rfl) (fun h2 => ?_) (fun h2 => ?_)))|refine Qf ?_)<;>(refine Qj rfl ?_ ?_;rotate_left;(focus (intro hc;first|exact no_ hc rfl|(refine X.skip ?_)));rotate_right;(focus (intro hc;first|exact no_ hc rfl|((refine Qg (by kernel_rfl) ?_<;>repeat' first|refine Z.p rfl ?_|(refine XL.at 5 ?_;(refine XL.slice1 rfl rfl rfl rfl rfl rfl (by intro g; infer_instance) (fun gq => ?_)))|(refine XL.at 6 ?_;((refine XL.append rfl rfl rfl rfl rfl rfl ?_ ?_ (fun a' c' => ?_); (focus (skip; unfold maxLen; omega)); (focus (intro _ _; infer_instance))); rw [show encY o ++ [.int .u8 255] = encY (o ++ [(255 : UInt8)]) from encY_snoc o 255, show o.length + 1 = (o ++ [(255 : UInt8)]).length from (by simp)]))|refine Z.fa rfl rfl rfl ?_|refine Z.l1 rfl rfl rfl ?_|refine Qr rfl rfl rfl rfl rfl ?_|refine Qf ?_)<;>(refine Qg (by kernel_rfl) ?_<;>repeat' first|refine Z.p rfl ?_|(refine XL.at 2 ?_;((refine Qm [cells g [.slice a' (List.length (o ++ [255])) c'] 244, own 5 1 (.slice a' (List.length (o ++ [255])) c') (List.length (o ++ [255])) (encY (o ++ [255]))] rfl rfl rfl rfl (fun w F hF hm hw => put_spec w F g a' c' (o ++ [255]) x 8 hF (by decide) (by simp; omega)) ?_; rintro v B' ⟨a2, c2, o2, rfl, ho2, rfl⟩; refine Qh ?_); have ho2' : o2 = o ++ varB x := (by rw [ho2, var_9 hxl (by omega)]; simp)))|refine Qf ?_)<;>refine Qs ?_)))))<;>(first|refine Ex.then ?_|refine N.next ?_<;>((refine Qg (by kernel_rfl) ?_<;>repeat' first|refine Z.p rfl ?_|refine Z.fa rfl rfl rfl ?_|refine Z.l1 rfl rfl rfl ?_|refine Z.ln rfl rfl ?_|refine Qf ?_)<;>(refine Qg (by kernel_rfl) ?_<;>repeat' first|refine Z.p rfl ?_|(refine XL.at 3 ?_;((refine Qm [cells g [.slice a1 (List.length o) c1] 244, own 5 1 (.slice a1 (List.length o) c1) (List.length o) (encY o)] rfl rfl rfl rfl (fun w F hF hm hw => put_spec w F g a1 c1 o x (vsz x) hF (by omega) (by omega)) ?_; rintro v B' ⟨a2, c2, o2, rfl, ho2, rfl⟩; refine Qh ?_); have h8 : vsz x ≤ 8 := (by omega); have ho2l : o2.length = o.length + vsz x := (by rw [ho2]; simp [fixB_len]); have hget := var_get o hxl h8; rw [← ho2] at hget; have htop := top_lt ⟨hvb.1, h8⟩ ((vsz_le hvb.1 (by omega)).1 (Nat.le_refl (vsz x))); have hpow : 2 ^ (8 - vsz x) ≤ 256 := (by have := hd_le (vsz x) hvb; omega); have hb0 : (UInt8.ofNat (x / 256 ^ (vsz x - 1))).toNat = x / 256 ^ (vsz x - 1) := (by simp; exact Nat.lt_of_lt_of_le htop hpow); have hor := or_hd (vsz x) (by omega) hvb.1 _ htop h8; have hsum : hd (vsz x) + x / 256 ^ (vsz x - 1) < 256 := (Nat.lt_of_lt_of_le (Nat.add_lt_add_left htop _) (hd_le _ hvb)); refine XL.fact (fun w h => (h.rd (a := a2)).sm (by omega)) (fun hsome => ?_)))|refine Qf ?_)<;>refine X.draw (.a 0 (.a 1 (.a 2 (.b 3 (.a 4 (.a 5 (.b 6 (.a 7 (.c 8 (.a 9 (.a 10 (.f 11 .n)))))))))))) mixed (by kernel_rfl) ?_<;>repeat' first|refine Z.p rfl ?_|(refine XL.at 5 ?_;((apply Qq rfl rfl rfl rfl; exact D.indexAddr o.length rfl rfl rfl (by omega) hsome)))|(refine XL.at 6 ?_;((apply XL.det1 rfl rfl rfl rfl; exact D.load1 rfl (fun w hw => Rd.byteAt (hw.rd (a := a2)) hget)); rw [hb0]))|(refine XL.at 8 ?_;((refine XL.call rfl rfl rfl rfl (fun w hw => head_spec (vsz x) hvb w) ?_; rintro v B' ⟨rfl, rfl⟩; refine Qh ?_)))|(refine XL.at 9 ?_;((apply Qq rfl rfl rfl rfl; exact D.orN rfl rfl rfl ⟨Nat.lt_of_lt_of_le htop hpow, hd_lt _⟩); rw [hor, show ((hd (vsz x) + x / 256 ^ (vsz x - 1) : Nat) : Int) = ((UInt8.ofNat (hd (vsz x) + x / 256 ^ (vsz x - 1))).toNat : Int) from (by have : (UInt8.ofNat (hd (vsz x) + x / 256 ^ (vsz x - 1))).toNat = hd (vsz x) + x / 256 ^ (vsz x - 1) := (varB_first hxl).1; rw [this])]))|(refine XL.at 10 ?_;((apply Qq rfl rfl rfl rfl; exact D.indexAddr o.length rfl rfl rfl (by omega) hsome)))|(refine XL.at 11 ?_;((refine XL.storeE (encY (o2.set o.length (UInt8.ofNat (hd (vsz x) + x / 256 ^ (vsz x - 1))))) rfl rfl rfl rfl rfl (by omega) (encY_set o2 o.length _ (by omega)) ?_); obtain ⟨o3, ho3⟩ : ∃ o3, o2.set o.length (UInt8.ofNat (hd (vsz x) + x / 256 ^ (vsz x - 1))) = o3 := (⟨_, rfl⟩); have ho3l : o2.length = o3.length := (by rw [← ho3, List.length_set]); rw [ho3, ho3l]))|refine Z.fa rfl rfl rfl ?_|refine Z.l1 rfl rfl rfl ?_|refine XL.nil ?_)))<;>(first|refine N.block ?_|refine Qo ?_))<;>(first|refine N.next ?_<;>(refine X.tx (by kernel_rfl) ?_<;>repeat' first|refine Z.p rfl ?_|refine Z.g rfl (by omega) ?_|refine XL.nil ?_))))) <;> (first| refine Ex.then ?_ | (first| (refine Qp ((i + 1, a2, c2, o2)) ?_ ?_ ?_ ?_; (focus (exact ⟨by dsimp only; omega, by dsimp only; rw [ho2', ho, hfm, List.append_assoc], by dsimp only; rw [ho2']; simp only [List.length_append]; omega⟩)); (focus (first| omega )); (focus (repeat (first| exact Sub.nil | refine Sub.cons rfl ?_))); exact (fun w h => h.takes)) | (refine Qp ((i + 1, a2, c2, o3)) ?_ ?_ ?_ ?_; (focus (exact ⟨by dsimp only; omega, by dsimp only; rw [← ho3, ho2, var_set o hxl h8, ho, hfm, List.append_assoc], by dsimp only; omega⟩)); (focus (first| omega )); (focus (repeat (first| exact Sub.nil | refine Sub.cons rfl ?_))); exact (fun w h => h.takes)))))<;>(first|refine Qo ?_)))) <;> ((repeat (first| refine Rt.then ?_ )); (first| apply N.done (Res.r0 Tryz.results218 ) ); (focus (exact ⟨a1, c1, o, rfl, by rw [ho, List.take_of_length_le (by omega)], rfl⟩)); exact fun w h => h.takes)
theorem ORaw_spec (w : World) (H : Nat → Prop) (g : Nat) (a al : Option Addr) (c cl : Nat) (l : Bs) (xs : List Bs) (hown : Sep [cells g [.slice a (List.length l) c] 244, own 5 1 (.slice a (List.length l) c) (List.length l) (encY l)] w H) (hl : RdX w H 1 al xs.length cl (encT xs)) (hbd : l.length + xs.flatten.length ≤ 1000000000 ∧ xs.length ≤ 1000000000) : Spec Tryz.prog 150 #[.pointer (some ⟨g, 0, none⟩), .slice al xs.length cl] w H (fun v A => ∃ a' c' o, v = .tuple #[] ∧ o = l ++ xs.flatten ∧ A = [cells g [.slice a' (List.length o) c'] 244, own 5 1 (.slice a' (List.length o) c') (List.length o) (encY o)]) := by
  refine Spec.enter (args := [.pointer (some ⟨g, 0, none⟩), .slice al xs.length cl]) (A := [cells g [.slice a (List.length l) c] 244, own 5 1 (.slice a (List.length l) c) (List.length l) (encY l)]) Tryz.func150 rfl Tryz.ntmps150 rfl hown ?_
  (refine X.seq ?_<;>((refine Qg (by kernel_rfl) ?_<;>repeat' first|refine Z.p rfl ?_|refine Z.eqP rfl rfl rfl ?_|refine Qf ?_)<;>(refine Qj rfl ?_ ?_;rotate_left;(focus (intro hc;first|(refine X.skip ?_)));rotate_right;(focus (intro hc;first|exact no_ hc rfl))))<;>(first|refine N.next ?_<;>((refine Qg (by kernel_rfl) ?_<;>repeat' first|refine Z.p rfl ?_|refine Z.ln rfl rfl ?_|refine Qf ?_)<;>refine X.block ?_<;>((refine Qu (ι := Nat × Option Addr × Nat × Bs) (fun y => [(0, .pointer (some ⟨g, 0, none⟩)), (8, .slice al xs.length cl), (9, .int .i64 xs.length), (10, .int .i64 y.1)]) (fun y => [cells g [.slice y.2.1 (List.length y.2.2.2) y.2.2.1] 244, own 5 1 (.slice y.2.1 (List.length y.2.2.2) y.2.2.1) (List.length y.2.2.2) (encY y.2.2.2)]) (fun y => y.1 ≤ xs.length ∧ y.2.2.2 = l ++ (xs.take y.1).flatten) (fun y => xs.length - y.1) ((0, a, c, l)) ?_ ?_ ?_ ?_; (focus (exact ⟨Nat.zero_le _, by simp⟩)); (focus (repeat (first| exact Sub.nil | refine Sub.cons rfl ?_))); (focus (exact (fun w h => h.takes))); rintro ⟨i, a1, c1, o⟩ ⟨hi, ho⟩; (dsimp only at *)) <;> ((refine Qg (by kernel_rfl) ?_<;>repeat' first|(refine XL.at 0 ?_;(first| refine Ql rfl rfl rfl rfl (D.int rfl rfl rfl) (fun h1 => ?_) (fun h1 => ?_)))|refine Qf ?_)<;>refine X.seq ?_<;>((refine Qj rfl ?_ ?_;rotate_left;(focus (intro hc;first|exact no_ hc rfl|(refine Qs ?_)));rotate_right;(focus (intro hc;first|exact no_ hc rfl|(refine X.skip ?_)))))<;>(first|refine Ex.then ?_|refine N.next ?_<;>(refine X.seq ?_<;>(refine X.block ?_<;>((refine Qg (by kernel_rfl) ?_<;>repeat' first|refine Z.p rfl ?_|(refine XL.at 0 ?_;(have hil : i < xs.length := (by omega); obtain ⟨x, hxi⟩ : ∃ x, xs[i]? = some x := (⟨xs[i], List.getElem?_eq_getElem hil⟩); have hfm : (xs.take (i + 1)).flatten = (xs.take i).flatten ++ x := (by rw [List.take_add_one, hxi]; simp); have hol : o.length + x.length ≤ 1000000000 := (by have e := congrArg (fun z : List Bs => z.flatten.length) (List.take_append_drop (i + 1) xs); rw [List.flatten_append, hfm] at e; simp only [List.length_append] at e; rw [ho]; simp only [List.length_append]; omega); (apply Qk rfl rfl rfl rfl; exact D.indexAddr i rfl rfl rfl hil (hl.rd.sm (by omega)))))|(refine XL.at 1 ?_;((apply XL.detF rfl rfl rfl rfl; exact D.load1 rfl (fun w hw => Rd.strAt (hl.now hw) hxi))))|refine Qf ?_)<;>refine X.tx (by kernel_rfl) ?_<;>repeat' first|refine Z.p rfl ?_|(refine XL.at 6 ?_;((refine XL.appendS x rfl rfl rfl rfl rfl (by omega) (fun _ _ => by infer_instance) (fun a' c' => ?_)); rw [encY_append o x, show o.length + x.length = (o ++ x).length from (by simp)]))|refine Z.fa rfl rfl rfl ?_|refine Z.l1 rfl rfl rfl ?_|refine Qr rfl rfl rfl rfl rfl ?_|refine XL.nil ?_)<;>(first|refine N.block ?_))<;>(first|refine N.next ?_<;>(refine X.tx (by kernel_rfl) ?_<;>repeat' first|refine Z.p rfl ?_|refine Z.g rfl (by omega) ?_|refine XL.nil ?_))))) <;> (first| refine Ex.then ?_ | ((refine Qp ((i + 1, a', c', o ++ x)) ?_ ?_ ?_ ?_; (focus (exact ⟨by dsimp only; omega, by dsimp only; rw [ho, hfm, List.append_assoc]⟩)); (focus (first| omega )); (focus (repeat (first| exact Sub.nil | refine Sub.cons rfl ?_))); exact (fun w h => h.takes)))))<;>(first|refine Qo ?_)))) <;> ((repeat (first| refine Rt.then ?_ )); (first| apply N.done (Res.r0 Tryz.results150 ) ); (focus (exact ⟨a1, c1, o, rfl, by rw [ho, List.take_of_length_le (by omega)], rfl⟩)); exact fun w h => h.takes)
def textB (s : Bs) : Bs := varB s.length ++ s
theorem OText_spec (w : World) (H : Nat → Prop) (g : Nat) (a al : Option Addr) (c cl : Nat) (l : Bs) (x : Bs) (hown : Sep [cells g [.slice a (List.length l) c] 244, own 5 1 (.slice a (List.length l) c) (List.length l) (encY l)] w H) (hl : RdX w H 1 al 1 cl (encT [x])) (hbd : l.length + x.length ≤ 100000000) : Spec Tryz.prog 153 #[.pointer (some ⟨g, 0, none⟩), .slice al (1 : Nat) cl] w H (fun v A => ∃ a' c' o, v = .tuple #[] ∧ o = l ++ textB x ∧ A = [cells g [.slice a' (List.length o) c'] 244, own 5 1 (.slice a' (List.length o) c') (List.length o) (encY o)]) := by
  have hvl := varB_len x.length
  have hvb := vsz_bd x.length
  refine Spec.enter (args := [.pointer (some ⟨g, 0, none⟩), .slice al (1 : Nat) cl]) (A := [cells g [.slice a (List.length l) c] 244, own 5 1 (.slice a (List.length l) c) (List.length l) (encY l)]) Tryz.func153 rfl Tryz.ntmps153 rfl hown ?_
  ((refine Qg (by kernel_rfl) ?_<;>repeat' first|refine Z.p rfl ?_|refine Z.ln rfl rfl ?_|refine Qf ?_)<;>refine X.block ?_<;>((refine Qu (ι := Nat × Option Addr × Nat × Bs) (fun y => [(0, .pointer (some ⟨g, 0, none⟩)), (6, .slice al (1 : Nat) cl), (7, .int .i64 ((1 : Nat) : Int)), (8, .int .i64 y.1)]) (fun y => [cells g [.slice y.2.1 (List.length y.2.2.2) y.2.2.1] 244, own 5 1 (.slice y.2.1 (List.length y.2.2.2) y.2.2.1) (List.length y.2.2.2) (encY y.2.2.2)]) (fun y => y.1 = 0 ∧ y.2.2.2 = l ∨ y.1 = 1 ∧ y.2.2.2 = l ++ textB x) (fun y => 1 - y.1) ((0, a, c, l)) ?_ ?_ ?_ ?_; (focus (exact .inl ⟨rfl, rfl⟩)); (focus (repeat (first| exact Sub.nil | refine Sub.cons rfl ?_))); (focus (exact (fun w h => h.takes))); rintro ⟨i, a1, c1, o⟩ hio; (dsimp only at *)) <;> ((refine Qg (by kernel_rfl) ?_<;>repeat' first|(refine XL.at 0 ?_;(first| refine Ql rfl rfl rfl rfl (D.int rfl rfl rfl) (fun h1 => ?_) (fun h1 => ?_)))|refine Qf ?_)<;>refine X.seq ?_<;>((refine Qj rfl ?_ ?_;rotate_left;(focus (intro hc;first|exact no_ hc rfl|(refine Qs ?_)));rotate_right;(focus (intro hc;first|exact no_ hc rfl|(refine X.skip ?_)))))<;>(first|refine Ex.then ?_|refine N.next ?_<;>(refine X.seq ?_<;>(refine X.block ?_<;>((refine Qg (by kernel_rfl) ?_<;>repeat' first|refine Z.p rfl ?_|(refine XL.at 0 ?_;(obtain ⟨rfl, rfl⟩ : i = 0 ∧ o = l := (by rcases hio with h | h; exact h; omega); (apply Qk rfl rfl rfl rfl; exact D.indexAddr 0 rfl rfl rfl (by decide) (hl.rd.sm (by decide)))))|(refine XL.at 1 ?_;((apply XL.detF rfl rfl rfl rfl; exact D.load1 rfl (fun w hw => Rd.strAt (hl.now hw) (x := x) rfl))))|refine Qf ?_)<;>(refine Qg (by kernel_rfl) ?_<;>repeat' first|refine Z.p rfl ?_|(refine XL.at 3 ?_;((apply Qk rfl rfl rfl rfl; exact D.convN rfl rfl); rw [Nat.mod_eq_of_lt (show x.length < 2 ^ IntKind.u64.bits from Nat.lt_of_le_of_lt (show x.length ≤ 100000000 by omega) (by decide))]))|(refine XL.at 4 ?_;((refine XL.sliceL (fun n : Nat => .int .u64 (n : Int)) encW1 [x.length] (fun _ => rfl) (fun _ => rfl) rfl rfl rfl rfl rfl rfl (fun _ => by infer_instance) (fun gq => ?_))))|(refine XL.at 5 ?_;((refine Qm [cells g [.slice a1 (List.length o) c1] 244, own 5 1 (.slice a1 (List.length o) c1) (List.length o) (encY o)] rfl rfl rfl rfl (fun w F hF hm hw => OVar_spec w F g a1 (some ⟨gq, 0, none⟩) c1 1 o [x.length] hF (hm.own (a := some ⟨gq, 0, none⟩)) (fun z hz => by rw [List.mem_singleton] at hz; omega) (by simp; omega)) ?_; rintro v B' ⟨a2, c2, o2, rfl, ho2, rfl⟩; refine Qh ?_); have ho2l : o2.length = o.length + vsz x.length := (by rw [ho2]; simp [hvl])))|refine Z.lnL rfl rfl ?_|refine Qf ?_)<;>refine X.tx (by kernel_rfl) ?_<;>repeat' first|refine Z.p rfl ?_|(refine XL.at 2 ?_;((refine XL.sliceL (fun s : Bs => .string ⟨s.toArray⟩) encT1 [x] (fun _ => rfl) (fun _ => rfl) rfl rfl rfl rfl rfl rfl (fun _ => by infer_instance) (fun gs => ?_))))|(refine XL.at 3 ?_;((refine Qm [cells g [.slice a2 (List.length o2) c2] 244, own 5 1 (.slice a2 (List.length o2) c2) (List.length o2) (encY o2)] rfl rfl rfl rfl (fun w F hF hm hw => ORaw_spec w F g a2 (some ⟨gs, 0, none⟩) c2 1 o2 [x] hF (hm.own (a := some ⟨gs, 0, none⟩)) ⟨by simp; omega, by simp⟩) ?_; rintro v B' ⟨a3, c3, o3, rfl, ho3, rfl⟩; refine Qh ?_)))|refine XL.nil ?_)<;>(first|refine N.block ?_))<;>(first|refine N.next ?_<;>(refine X.tx (by kernel_rfl) ?_<;>repeat' first|refine Z.p rfl ?_|refine Z.g rfl (by omega) ?_|refine XL.nil ?_))))) <;> (first| refine Ex.then ?_ | ((refine Qp ((1, a3, c3, o3)) ?_ ?_ ?_ ?_; (focus (exact .inr ⟨rfl, by dsimp only; rw [ho3, ho2]; simp [textB]⟩)); (focus (first| omega )); (focus (repeat (first| exact Sub.nil | refine Sub.cons rfl ?_))); exact (fun w h => h.takes)))))<;>(first|refine Qo ?_)) <;> ((repeat (first| refine Rt.then ?_ )); (first| apply N.done (Res.r0 Tryz.results153 ) ); (focus (exact ⟨a1, c1, o, rfl, by rcases hio with h | h; omega; exact h.2, rfl⟩)); exact fun w h => h.takes)
theorem OString_spec (w : World) (g : Nat) (a : Option Addr) (c : Nat) (l : Bs) (hg : w.cell? ⟨g, 0, none⟩ = some (.slice a l.length c)) (hl : Rd w 1 a l.length c (encY l)) : Spec Tryz.prog 155 #[.pointer (some ⟨g, 0, none⟩)] w (fun _ => False) (fun v A => v = .string ⟨List.toArray l⟩ ∧ A = []) := by
  refine Spec.enter (args := [.pointer (some ⟨g, 0, none⟩)]) (A := []) Tryz.func155 rfl Tryz.ntmps155 rfl (fun _ h => h) ?_
  ((refine Qg (by kernel_rfl) ?_<;>repeat' first|refine Z.p rfl ?_|refine Qf ?_)<;>refine X.seq ?_<;>((refine Qg (by kernel_rfl) ?_<;>repeat' first|refine Z.p rfl ?_|refine Z.eqP rfl rfl rfl ?_|refine Qf ?_)<;>(refine Qj rfl ?_ ?_;rotate_left;(focus (intro hc;first|(refine X.skip ?_)));rotate_right;(focus (intro hc;first|exact no_ hc rfl))))<;>(first|refine N.next ?_<;>((refine Qg (by kernel_rfl) ?_<;>repeat' first|refine Z.p rfl ?_|(refine XL.at 3 ?_;((apply XL.detF rfl rfl rfl rfl; exact D.load1 rfl (fun w hw => hw.cell0 hg (fun h => h)))))|(refine XL.at 4 ?_;((apply XL.detF rfl rfl rfl rfl; exact D.toStr l rfl rfl (fun w hw => hl.conf0 hw))))|refine Z.fa rfl rfl rfl ?_|refine Qf ?_)<;>(apply X.r1 Tryz.results155 (Qi rfl);(focus (exact ⟨rfl, rfl⟩));exact fun _=>Conf.takes))))
end Go.Lx
namespace Go.Lx
def RfR {α : Type} (f : Bs → Option (α × Nat)) (d : α) (s : Bs) (ok : Bool) (x : α) (s' : Bs) (ok' : Bool) : Prop :=
  (ok = true ∧ ∃ n, f s = some (x, n) ∧ s' = s.drop n ∧ ok' = true) ∨ ((ok = false ∨ f s = none) ∧ x = d ∧ s' = s ∧ ok' = false)
structure Cod {α : Type} (f : Bs → Option (α × Nat)) (enc : α → Bs) (ok : α → Prop) : Prop where
  back : ∀ {t : Bs} {x : α} {n : Nat}, f t = some (x, n) → n ≤ t.length ∧ t.take n = enc x ∧ ok x
  fwd : ∀ {x : α} (r : Bs), ok x → f (enc x ++ r) = some (x, (enc x).length)
theorem Cod.cut {α : Type} {f : Bs → Option (α × Nat)} {enc : α → Bs} {ok : α → Prop} (c : Cod f enc ok) {t : Bs} {x : α} {n : Nat} (h : f t = some (x, n)) : t = enc x ++ t.drop n ∧ ok x := by
  obtain ⟨_, h2, h3⟩ := c.back h
  exact ⟨by rw [← h2, List.take_append_drop], h3⟩
theorem Cod.inj {α : Type} {f : Bs → Option (α × Nat)} {enc : α → Bs} {ok : α → Prop} (c : Cod f enc ok) {x y : α} {r q : Bs} (hx : ok x) (hy : ok y) (h : enc x ++ r = enc y ++ q) : x = y ∧ r = q := by
  have h1 := c.fwd r hx
  rw [h, c.fwd q hy] at h1
  simp only [Option.some.injEq, Prod.mk.injEq] at h1
  obtain ⟨rfl, _⟩ := h1
  exact ⟨rfl, List.append_cancel_left h⟩
theorem Cod.rdBack {α : Type} {f : Bs → Option (α × Nat)} {enc : α → Bs} {ok : α → Prop} (c : Cod f enc ok) {d : α} {s : Bs} {p : Nat} {e : Int} {x : α} {p' : Nat} {e' : Int} (h : RdR f d s p e x p' e') (he : e' = 0) : e = 0 ∧ ok x ∧ s.drop p = enc x ++ s.drop p' ∧ p' ≤ s.length := by
  obtain ⟨h0, ⟨h1, n, h2, _, h4⟩ | ⟨_, _, h3⟩⟩ := h
  · have := c.cut h2
    rw [h4, ← List.drop_drop]
    exact ⟨h1, this.2, this.1, by omega⟩
  · exact absurd he h3
theorem Cod.rdFwd {α : Type} {f : Bs → Option (α × Nat)} {enc : α → Bs} {ok : α → Prop} (c : Cod f enc ok) {d : α} {s : Bs} {p : Nat} {x x0 : α} {p' : Nat} {e' : Int} {r : Bs} (h : RdR f d s p 0 x p' e') (h0 : ok x0) (hs : s.drop p = enc x0 ++ r) : x = x0 ∧ e' = 0 ∧ s.drop p' = r := by
  have hf := c.fwd r h0
  rw [← hs] at hf
  obtain ⟨_, ⟨_, n, h2, h3, h4⟩ | ⟨h1 | h1, _, _⟩⟩ := h
  · rw [hf] at h2
    simp only [Option.some.injEq, Prod.mk.injEq] at h2
    obtain ⟨rfl, rfl⟩ := h2
    refine ⟨rfl, h3, ?_⟩
    rw [h4, ← List.drop_drop, hs, List.drop_left]
  · exact absurd rfl h1
  · rw [hf] at h1; cases h1
theorem Cod.rfBack {α : Type} {f : Bs → Option (α × Nat)} {enc : α → Bs} {ok : α → Prop} (c : Cod f enc ok) {d : α} {s s' : Bs} {o o' : Bool} {x : α} (h : RfR f d s o x s' o') (he : o' = true) : o = true ∧ ok x ∧ s = enc x ++ s' := by
  rcases h with ⟨h1, n, h2, h3, _⟩ | ⟨_, _, _, h3⟩
  · have := c.cut h2
    rw [h3]
    exact ⟨h1, this.2, this.1⟩
  · rw [h3] at he; cases he
theorem Cod.rfFwd {α : Type} {f : Bs → Option (α × Nat)} {enc : α → Bs} {ok : α → Prop} (c : Cod f enc ok) {d : α} {s s' : Bs} {o' : Bool} {x x0 : α} {r : Bs} (h : RfR f d s true x s' o') (h0 : ok x0) (hs : s = enc x0 ++ r) : x = x0 ∧ o' = true ∧ s' = r := by
  have hf := c.fwd r h0
  rw [← hs] at hf
  rcases h with ⟨_, n, h2, h3, h4⟩ | ⟨h1 | h1, _, _, _⟩
  · rw [hf] at h2
    simp only [Option.some.injEq, Prod.mk.injEq] at h2
    obtain ⟨rfl, rfl⟩ := h2
    refine ⟨rfl, h4, ?_⟩
    rw [h3, hs, List.drop_left]
  · cases h1
  · rw [hf] at h1; cases h1
theorem RfR.len {α : Type} {f : Bs → Option (α × Nat)} {d : α} {s s' : Bs} {o o' : Bool} {x : α} (h : RfR f d s o x s' o') : s'.length ≤ s.length := by
  rcases h with ⟨_, n, _, h3, _⟩ | ⟨_, _, h3, _⟩
  · rw [h3, List.length_drop]; omega
  · rw [h3]; exact Nat.le_refl _
theorem codFew : Cod fewF varB (fun x => x < 18446744073709551616) where
  back h := by
    obtain ⟨h1, h2, _, h4⟩ := fewF_some h
    exact ⟨h1, h4, h2⟩
  fwd r h := by rw [fewF_varB h, varB_len]
theorem codInt (most : Nat) (hm : most < 18446744073709551616) : Cod (intF most) varB (fun x => x ≤ most) where
  back {t x n} h := by
    unfold intF at h
    split at h
    · rename_i y m hy
      split at h
      · rename_i hle
        cases h
        obtain ⟨h1, h2, _⟩ := codFew.back hy
        exact ⟨h1, h2, hle⟩
      · cases h
    · cases h
  fwd {x} r h := by
    unfold intF
    rw [codFew.fwd r (Nat.lt_of_le_of_lt h hm)]
    simp only
    rw [if_pos h]
theorem codFix (n : Nat) : Cod (fixF n) (fun x => fixB x n) (fun x => x < 256 ^ n) where
  back {t x m} h := by
    unfold fixF at h
    split at h
    · cases h
    · rename_i hn
      cases h
      have hl : (t.take n).length = n := by rw [List.length_take]; omega
      refine ⟨by omega, ?_, ?_⟩
      · have := fixB_num (t.take n)
        rw [hl] at this
        exact this.symm
      · have := num_lt (t.take n)
        rw [hl] at this
        exact this
  fwd {x} r h := by
    unfold fixF
    have hl := fixB_len x n
    rw [if_neg (by rw [List.length_append, hl]; omega), List.take_left' hl, num_fixB, Nat.mod_eq_of_lt h, hl]
theorem codText (most : Nat) (hm : most < 18446744073709551616) : Cod (textF most) textB (fun s => s.length ≤ most) where
  back {t x n} h := by
    unfold textF at h
    split at h
    · rename_i y m hy
      split at h
      · rename_i hle
        simp only [Option.some.injEq, Prod.mk.injEq] at h
        obtain ⟨rfl, rfl⟩ := h
        obtain ⟨h1, h2, h3⟩ := (codInt most hm).back hy
        have hlen : ((t.drop m).take y).length = y := by rw [List.length_take, List.length_drop]; omega
        refine ⟨hle, ?_, by rw [hlen]; exact h3⟩
        unfold textB
        rw [hlen, ← h2, List.take_add]
      · cases h
    · cases h
  fwd {x} r h := by
    unfold textF textB
    rw [List.append_assoc, (codInt most hm).fwd _ h]
    simp only
    rw [if_pos (by simp), List.drop_left, List.take_left]
    simp
theorem encs_inj {α : Type} {enc : α → Bs} {ok : α → Prop} (c : ∀ {x y : α} {r q : Bs}, ok x → ok y → enc x ++ r = enc y ++ q → x = y ∧ r = q) : ∀ {l m : List α} {r q : Bs}, (∀ x ∈ l, ok x) → (∀ x ∈ m, ok x) → l.length = m.length → l.flatMap enc ++ r = m.flatMap enc ++ q → l = m ∧ r = q
  | [], [], r, q, _, _, _, h => ⟨rfl, by simpa using h⟩
  | x :: l, y :: m, r, q, hl, hm, hlen, h => by
    simp only [List.flatMap_cons, List.append_assoc] at h
    obtain ⟨rfl, h2⟩ := c (hl x (by simp)) (hm y (by simp)) h
    obtain ⟨rfl, h3⟩ := encs_inj c (fun z hz => hl z (List.mem_cons_of_mem _ hz)) (fun z hz => hm z (List.mem_cons_of_mem _ hz)) (by simpa using hlen) h2
    exact ⟨rfl, h3⟩
  | [], y :: m, _, _, _, _, h, _ => by simp at h
  | x :: l, [], _, _, _, _, h, _ => by simp at h
theorem textB_len (s : Bs) : (textB s).length ≤ s.length + 9 := by
  have := varB_len s.length
  have := vsz_bd s.length
  simp only [textB, List.length_append]
  omega
theorem Qv (x : Nat) : (varB x).length ≤ 9 := by
  have := varB_len x
  have := vsz_bd x
  omega
theorem D.convI {C : Cx} {W : World → Prop} {env : Env} {ty t t2 : TypeId} {pos : String} {af : Array Edge} {gd : Option (Nat × Bool)} {ds : Option Tmp} {x : Operand} {v : Int} [h1 : IntT C.P t .i64] [h2 : IntT C.P t2 .u64] (hx : ev env x = some (.int .i64 v)) (h0 : 0 ≤ v ∧ v < 9223372036854775808) :
    Det C W env ⟨ds, .convert t t2 x, ty, pos, af, gd⟩ (.int .u64 ((v.toNat : Nat) : Int)) := by
  have := D.convN (C := C) (W := W) (ds := ds) (ty := ty) (pos := pos) (af := af) (gd := gd) (t := t) (t2 := t2) (k := .u64) (k' := .i64) (a := v.toNat) rfl (by rw [hx, Int.toNat_of_nonneg h0.1])
  rwa [Nat.mod_eq_of_lt (show v.toNat < 2 ^ IntKind.u64.bits from Nat.lt_of_lt_of_le (show v.toNat < 9223372036854775808 by omega) (by decide))] at this
end Go.Lx
namespace Go.Lx
abbrev Sp := Int × Int
def mayS (x : Int × Int) : Prop := 0 ≤ x.1 ∧ x.1 ≤ 65536 ∧ 1 ≤ x.2 ∧ x.2 ≤ 65536 - x.1
instance (x : Int × Int) : Decidable (mayS x) := by unfold mayS; infer_instance
theorem Qx {α : Type} {l : List α} {k : Nat} (h : k < l.length) : ∃ x, l[k]? = some x := ⟨l[k], List.getElem?_eq_getElem h⟩
theorem lt_of_get {α : Type} {l : List α} {k : Nat} {x : α} (h : l[k]? = some x) : k < l.length := (List.getElem?_eq_some_iff.1 h).1
def SetOK (l : List Sp) (n : Nat) : Prop := ∀ k x, k < n → l[k]? = some x → mayS x ∧ ∀ y, 0 < k → l[k - 1]? = some y → y.1 + y.2 < x.1
theorem SetOK.step {l : List Sp} {k : Nat} {x : Sp} (h : SetOK l k) (hx : l[k]? = some x) (hm : mayS x) (hy : ∀ y, 0 < k → l[k - 1]? = some y → y.1 + y.2 < x.1) : SetOK l (k + 1) := by
  intro j z hj hz
  by_cases e : j = k
  · subst e; rw [hx] at hz; cases hz; exact ⟨hm, hy⟩
  · exact h j z (by omega) hz
theorem SetOK.may {l : List Sp} {n k : Nat} {x : Sp} (h : SetOK l n) (hk : k < n) (hx : l[k]? = some x) : mayS x := (h k x hk hx).1
theorem SetOK.mem {l : List Sp} {n : Nat} {x : Sp} (h : SetOK l n) (hl : l.length = n) (hx : x ∈ l) : mayS x := by
  obtain ⟨k, hk⟩ := List.mem_iff_getElem?.1 hx
  exact h.may (by have := lt_of_get hk; omega) hk
theorem SetOK.nil (n : Nat) : SetOK [] n := fun k x _ h => by cases h
theorem SetOK.lt {l : List Sp} {n : Nat} (h : SetOK l n) : ∀ (k j : Nat) (x y : Sp), j < k → k < n → l[j]? = some x → l[k]? = some y → x.1 + x.2 < y.1
  | 0, j, _, _, hj, _, _, _ => by omega
  | k + 1, j, x, y, hj, hk, hx, hy => by
    have hkl := lt_of_get hy
    obtain ⟨z, hz⟩ := Qx (l := l) (k := k) (by omega)
    have h1 := (h (k + 1) y hk hy).2 z (by omega) (by simpa using hz)
    by_cases e : j = k
    · subst e; rw [hx] at hz; cases hz; exact h1
    · have h2 := SetOK.lt h k j x z (by omega) (by omega) hx hz
      have h3 := h.may (by omega : k < n) hz
      unfold mayS at h3
      omega
theorem SetOK.snoc {o : List Sp} {p : Sp} (h : SetOK o o.length) (he : ∀ x ∈ o, x.1 + x.2 < p.1) (hp : mayS p) : SetOK (o ++ [p]) (o ++ [p]).length := by
  intro k x hk hx
  by_cases hko : k < o.length
  · rw [List.getElem?_append_left hko] at hx
    obtain ⟨h1, h2⟩ := h k x hko hx
    refine ⟨h1, fun y h0 hy => h2 y h0 ?_⟩
    rw [List.getElem?_append_left (by omega)] at hy
    exact hy
  · simp at hk
    obtain rfl : k = o.length := by omega
    simp at hx
    subst hx
    refine ⟨hp, fun y h0 hy => ?_⟩
    rw [List.getElem?_append_left (by omega)] at hy
    exact he y (List.mem_of_getElem? hy)
def inS (l : List Sp) (t : Int) : Prop := ∃ x ∈ l, x.1 ≤ t ∧ t < x.1 + x.2
theorem inS_nil (t : Int) : ¬ inS [] t := fun ⟨_, h, _⟩ => by cases h
theorem inS_append {a b : List Sp} {t : Int} : inS (a ++ b) t ↔ inS a t ∨ inS b t := by
  unfold inS
  constructor
  · rintro ⟨x, hx, h⟩
    rcases List.mem_append.1 hx with h1 | h1
    · exact .inl ⟨x, h1, h⟩
    · exact .inr ⟨x, h1, h⟩
  · rintro (⟨x, hx, h⟩ | ⟨x, hx, h⟩)
    · exact ⟨x, List.mem_append.2 (.inl hx), h⟩
    · exact ⟨x, List.mem_append.2 (.inr hx), h⟩
theorem inS_one {x : Sp} {t : Int} : inS [x] t ↔ x.1 ≤ t ∧ t < x.1 + x.2 := by simp [inS]
def inTo (l : List Sp) (i : Nat) (t : Int) : Prop := ∃ j x, j < i ∧ l[j]? = some x ∧ x.1 ≤ t ∧ t < x.1 + x.2
theorem inTo_all {l : List Sp} {t : Int} : inTo l l.length t ↔ inS l t := by
  constructor
  · rintro ⟨j, x, _, hx, h⟩; exact ⟨x, List.mem_of_getElem? hx, h⟩
  · rintro ⟨x, hx, h⟩
    obtain ⟨j, hj⟩ := List.mem_iff_getElem?.1 hx
    exact ⟨j, x, lt_of_get hj, hj, h⟩
theorem inTo_succ {l : List Sp} {i : Nat} {s : Sp} {t : Int} (hs : l[i]? = some s) : inTo l (i + 1) t ↔ inTo l i t ∨ (s.1 ≤ t ∧ t < s.1 + s.2) := by
  constructor
  · rintro ⟨j, x, hj, hx, h⟩
    by_cases e : j = i
    · subst e; rw [hs] at hx; cases hx; exact .inr h
    · exact .inl ⟨j, x, by omega, hx, h⟩
  · rintro (⟨j, x, hj, hx, h⟩ | h)
    · exact ⟨j, x, by omega, hx, h⟩
    · exact ⟨i, s, by omega, hs, h⟩
structure OutI (l off : List Sp) (i k : Nat) (o : List Sp) : Prop where
  hi : i ≤ l.length
  hk : k ≤ off.length
  len : o.length ≤ i + k
  set : SetOK o o.length
  ends : ∀ x ∈ o, ∀ y, l[i]? = some y → x.1 + x.2 < y.1
  mem : ∀ t, inS o t ↔ inTo l i t ∧ ¬ inS off t
  past : ∀ j x y, j < k → off[j]? = some x → l[i]? = some y → x.1 + x.2 ≤ y.1
structure InI (l off : List Sp) (i k : Nat) (o : List Sp) (s : Sp) (at_ : Int) (e : Nat) : Prop where
  hs : l[i]? = some s
  hk : k ≤ off.length
  len : o.length ≤ i + k + e
  set : SetOK o o.length
  ends : ∀ x ∈ o, x.1 + x.2 < at_ ∨ (e = 1 ∧ x.1 + x.2 ≤ at_)
  lo : s.1 ≤ at_
  hi : at_ ≤ s.1 + s.2
  mem : ∀ t, inS o t ↔ (inTo l i t ∨ (s.1 ≤ t ∧ t < at_)) ∧ ¬ inS off t
  past : ∀ j x, j < k → off[j]? = some x → x.1 + x.2 ≤ at_
variable {l off o : List Sp} {i k : Nat} {s x : Sp} {at_ : Int}
theorem OutI.start : OutI l off 0 0 [] := ⟨Nat.zero_le _, Nat.zero_le _, by simp, SetOK.nil _, fun _ h => (by cases h), fun t => ⟨fun h => absurd h (inS_nil t), fun ⟨⟨j, _, hj, _⟩, _⟩ => absurd hj (Nat.not_lt_zero j)⟩, fun j _ _ hj => absurd hj (Nat.not_lt_zero j)⟩
theorem OutI.enter (h : OutI l off i k o) (hl : SetOK l l.length) (hs : l[i]? = some s) : InI l off i k o s s.1 0 := by
  have hm := hl.may (lt_of_get hs) hs
  unfold mayS at hm
  refine ⟨hs, h.hk, h.len, h.set, fun x hx => .inl (h.ends x hx s hs), Int.le_refl _, by omega, fun t => ?_, fun j x hj hx => h.past j x s hj hx hs⟩
  rw [h.mem t]
  constructor
  · rintro ⟨h1, h2⟩; exact ⟨.inl h1, h2⟩
  · rintro ⟨h1 | h1, h2⟩
    · exact ⟨h1, h2⟩
    · omega
theorem InI.skip (h : InI l off i k o s at_ 0) (hx : off[k]? = some x) (hle : x.1 + x.2 ≤ at_) : InI l off i (k + 1) o s at_ 0 :=
  ⟨h.hs, lt_of_get hx, by have := h.len; omega, h.set, h.ends, h.lo, h.hi, h.mem, fun j y hj hy => by
    by_cases e : j = k
    · subst e; rw [hx] at hy; cases hy; exact hle
    · exact h.past j y (by omega) hy⟩
theorem not_in_off (ho : SetOK off off.length) {lo hi : Int} (hpast : ∀ j y, j < k → off[j]? = some y → y.1 + y.2 ≤ lo) (hnext : ∀ y, off[k]? = some y → hi ≤ y.1) : ∀ t, lo ≤ t → t < hi → ¬ inS off t := by
  rintro t h1 h2 ⟨y, hy, h3, h4⟩
  obtain ⟨j, hj⟩ := List.mem_iff_getElem?.1 hy
  have hjl := lt_of_get hj
  rcases Nat.lt_trichotomy j k with h | h | h
  · have := hpast j y h hj; omega
  · subst h; have := hnext y hj; omega
  · obtain ⟨z, hz⟩ := Qx (l := off) (k := k) (by omega)
    have a1 := hnext z hz
    have a2 := ho.lt j k z y h hjl hz hj
    have a3 := ho.may (by omega : k < off.length) hz
    unfold mayS at a3
    omega
theorem InI.cutAt (h : InI l off i k o s at_ 0) (ho : SetOK off off.length) (hs' : mayS s) (hx : off[k]? = some x) (h1 : x.1 < s.1 + s.2) (h2 : at_ < x.1 + x.2) (h3 : at_ < x.1) :
    InI l off i k (o ++ [(at_, x.1 - at_)]) s (min (x.1 + x.2) (s.1 + s.2)) 1 ∧ (x.1 + x.2 ≤ s.1 + s.2 → InI l off i (k + 1) (o ++ [(at_, x.1 - at_)]) s (min (x.1 + x.2) (s.1 + s.2)) 0) := by
  have hxm := ho.may (lt_of_get hx) hx
  have hno := not_in_off (k := k) (lo := at_) (hi := x.1) ho (fun j y hj hy => h.past j y hj hy) (fun y hy => by rw [hx] at hy; cases hy; omega)
  have hset : SetOK (o ++ [(at_, x.1 - at_)]) (o ++ [(at_, x.1 - at_)]).length := h.set.snoc (fun y hy => by have := h.ends y hy; dsimp only; omega) (by
    have := h.lo; unfold mayS at *; dsimp only; omega)
  have hends : ∀ y ∈ o ++ [(at_, x.1 - at_)], y.1 + y.2 ≤ x.1 := by
    intro y hy
    rcases List.mem_append.1 hy with hy | hy
    · have := h.ends y hy; omega
    · simp at hy; subst hy; dsimp only; omega
  unfold mayS at hxm hs'
  have hlo := h.lo
  have hmem : ∀ m : Int, m ≤ x.1 + x.2 → x.1 < m → m ≤ s.1 + s.2 → ∀ t, inS (o ++ [(at_, x.1 - at_)]) t ↔ (inTo l i t ∨ (s.1 ≤ t ∧ t < m)) ∧ ¬ inS off t := by
    intro m hm hm2 hm3 t
    rw [inS_append, h.mem t, inS_one]
    dsimp only
    constructor
    · rintro (⟨h4, h5⟩ | h4)
      · exact ⟨h4.imp id (fun h => by omega), h5⟩
      · exact ⟨.inr (by omega), hno t (by omega) (by omega)⟩
    · rintro ⟨h4 | h4, h5⟩
      · exact .inl ⟨.inl h4, h5⟩
      · by_cases q : t < at_
        · exact .inl ⟨.inr (by omega), h5⟩
        · refine .inr ⟨by omega, ?_⟩
          rcases Int.lt_or_le t x.1 with q2 | q2
          · omega
          · exact absurd ⟨x, List.mem_of_getElem? hx, q2, by omega⟩ h5
  have hl := h.len
  refine ⟨⟨h.hs, h.hk, by simp; omega, hset, fun y hy => ?_, by omega, by omega, hmem _ (by omega) (by omega) (by omega), fun j y hj hy => by have := h.past j y hj hy; omega⟩, fun hle => ⟨h.hs, lt_of_get hx, by simp; omega, hset, fun y hy => ?_, by omega, by omega, hmem _ (by omega) (by omega) (by omega), fun j y hj hy => ?_⟩⟩
  · have := hends y hy; omega
  · have := hends y hy; omega
  · by_cases e : j = k
    · subst e; rw [hx] at hy; cases hy; omega
    · have := h.past j y (by omega) hy; omega
theorem InI.cutIn (h : InI l off i k o s at_ 0) (ho : SetOK off off.length) (hs' : mayS s) (hx : off[k]? = some x) (h1 : x.1 < s.1 + s.2) (h2 : at_ < x.1 + x.2) (h3 : x.1 ≤ at_) :
    InI l off i k o s (min (x.1 + x.2) (s.1 + s.2)) 1 ∧ (x.1 + x.2 ≤ s.1 + s.2 → InI l off i (k + 1) o s (min (x.1 + x.2) (s.1 + s.2)) 0) := by
  have hxm := ho.may (lt_of_get hx) hx
  unfold mayS at hxm hs'
  have hlo := h.lo
  have hhi := h.hi
  have hmem : ∀ m : Int, m ≤ x.1 + x.2 → at_ ≤ m → ∀ t, inS o t ↔ (inTo l i t ∨ (s.1 ≤ t ∧ t < m)) ∧ ¬ inS off t := by
    intro m hm hm2 t
    rw [h.mem t]
    constructor
    · rintro ⟨h4, h5⟩
      exact ⟨h4.imp id (fun h => by omega), h5⟩
    · rintro ⟨h4 | h4, h5⟩
      · exact ⟨.inl h4, h5⟩
      · by_cases q : t < at_
        · exact ⟨.inr (by omega), h5⟩
        · exact absurd ⟨x, List.mem_of_getElem? hx, by omega, by omega⟩ h5
  have hl := h.len
  refine ⟨⟨h.hs, h.hk, by omega, h.set, fun y hy => ?_, by omega, by omega, hmem _ (by omega) (by omega), fun j y hj hy => by have := h.past j y hj hy; omega⟩, fun hle => ⟨h.hs, lt_of_get hx, by omega, h.set, fun y hy => ?_, by omega, by omega, hmem _ (by omega) (by omega), fun j y hj hy => ?_⟩⟩
  · have := h.ends y hy; omega
  · have := h.ends y hy; omega
  · by_cases e : j = k
    · subst e; rw [hx] at hy; cases hy; omega
    · have := h.past j y (by omega) hy; omega
theorem InI.next0 {e : Nat} (h : InI l off i k o s at_ e) (he : e ≤ 1) (hl : SetOK l l.length) (ha : s.1 + s.2 ≤ at_) : OutI l off (i + 1) k o := by
  have hi := h.hi
  have hlen := h.len
  refine ⟨lt_of_get h.hs, h.hk, by omega, h.set, fun x hx y hy => ?_, fun t => ?_, fun j x y hj hx hy => ?_⟩
  · have a1 := hl.lt (i + 1) i s y (by omega) (lt_of_get hy) h.hs hy
    have := h.ends x hx
    omega
  · rw [h.mem t, inTo_succ h.hs]
    have : at_ = s.1 + s.2 := by omega
    rw [this]
  · have a1 := hl.lt (i + 1) i s y (by omega) (lt_of_get hy) h.hs hy
    have := h.past j x hj hx
    omega
theorem InI.next1 (h : InI l off i k o s at_ 0) (hl : SetOK l l.length) (ho : SetOK off off.length) (ha : at_ < s.1 + s.2) (hend : ∀ y, off[k]? = some y → s.1 + s.2 ≤ y.1) : OutI l off (i + 1) k (o ++ [(at_, s.1 + s.2 - at_)]) := by
  have hno := not_in_off (k := k) (lo := at_) (hi := s.1 + s.2) ho (fun j y hj hy => h.past j y hj hy) hend
  have hlo := h.lo
  have hlen := h.len
  have hm := hl.may (lt_of_get h.hs) h.hs
  unfold mayS at hm
  refine ⟨lt_of_get h.hs, h.hk, by simp; omega, h.set.snoc (fun y hy => by have := h.ends y hy; dsimp only; omega) (by unfold mayS; dsimp only; omega), fun x hx y hy => ?_, fun t => ?_, fun j x y hj hx hy => ?_⟩
  · have a1 := hl.lt (i + 1) i s y (by omega) (lt_of_get hy) h.hs hy
    rcases List.mem_append.1 hx with hx | hx
    · have := h.ends x hx; omega
    · simp at hx; subst hx; dsimp only; omega
  · rw [inS_append, h.mem t, inS_one, inTo_succ h.hs]
    dsimp only
    constructor
    · rintro (⟨h4, h5⟩ | h4)
      · exact ⟨h4.imp id (fun h => by omega), h5⟩
      · exact ⟨.inr (by omega), hno t (by omega) (by omega)⟩
    · rintro ⟨h4 | h4, h5⟩
      · exact .inl ⟨.inl h4, h5⟩
      · by_cases q : t < at_
        · exact .inl ⟨.inr (by omega), h5⟩
        · exact .inr (by omega)
  · have a1 := hl.lt (i + 1) i s y (by omega) (lt_of_get hy) h.hs hy
    have := h.past j x hj hx
    omega
end Go.Lx
