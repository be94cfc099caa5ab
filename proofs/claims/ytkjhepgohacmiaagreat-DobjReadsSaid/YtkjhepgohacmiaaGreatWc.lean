/- Package wire's walks: what is written. -/
import Derived.Test.YtkjhepgohacmiaaGreatWb
namespace Go.Lx
open Go.Proofs
set_option linter.unusedVariables false
set_option linter.unusedSimpArgs false
set_option maxRecDepth 20000
set_option maxHeartbeats 4000000

theorem OFixed_spec (w : World) (H : Nat → Prop) (g : Nat) (a : Option Addr) (c : Nat) (l : Bs) (x n : Nat) (hown : Sep [cells g [.slice a (List.length l) c] 148, own 5 1 (.slice a (List.length l) c) (List.length l) (encY l)] w H) (hn : 1 ≤ n ∧ n ≤ 8) (hbd : l.length ≤ 1000000000) : Spec Tryz.prog 95 #[.pointer (some ⟨g, 0, none⟩), .int .u64 x, .int .i64 n] w H (fun v A => ∃ a' c' o, v = .int .i64 0 ∧ o = l ++ fixB x n ∧ A = [cells g [.slice a' (List.length o) c'] 148, own 5 1 (.slice a' (List.length o) c') (List.length o) (encY o)]) := by
  refine Spec.enter (args := [.pointer (some ⟨g, 0, none⟩), .int .u64 x, .int .i64 n]) (A := [cells g [.slice a (List.length l) c] 148, own 5 1 (.slice a (List.length l) c) (List.length l) (encY l)]) Tryz.func95 rfl Tryz.ntmps95 rfl hown ?_
  (refine X.seq ?_ <;> (refine X.text (L := (.op .fin 0 .nil)) rfl (by kernel_rfl) ?_ <;>
    ((apply XL.det0F rfl rfl rfl rfl; exact D.assign rfl)) <;>
    (refine XL.nil ?_)) <;> (first | refine Ex.then ?_ | (refine N.next ?_ <;> (refine X.seq ?_ <;> (refine X.block ?_ <;> (refine X.seq ?_ <;> (refine X.text (L := (.op .fin 0 (.op .fin 1 (.op .fin 2 .nil)))) rfl (by kernel_rfl) ?_ <;>
    ((apply XL.det0F rfl rfl rfl rfl; exact D.move rfl)) <;>
    (first | refine XL.cmpTF rfl rfl rfl rfl (D.int rfl rfl rfl) (by omega) ?_ | refine XL.cmpFF rfl rfl rfl rfl (D.int rfl rfl rfl) (by omega) ?_ | refine XL.splitF rfl rfl rfl rfl (D.int rfl rfl rfl) (fun _ => ?_) (fun _ => ?_) | refine XL.cmpTF rfl rfl rfl rfl (D.eqS2 rfl rfl) (by omega) ?_ | refine XL.cmpFF rfl rfl rfl rfl (D.eqS2 rfl rfl) (by omega) ?_ | refine XL.splitF rfl rfl rfl rfl (D.eqS2 rfl rfl) (fun _ => ?_) (fun _ => ?_) | (apply XL.det0F rfl rfl rfl rfl; first | exact D.eqNilS rfl rfl | exact D.boolEq rfl rfl | exact D.eqNilP rfl rfl)) <;>
    ((apply XL.det0F rfl rfl rfl rfl; exact D.assign rfl)) <;>
    (refine XL.nil ?_)) <;> (first | refine Ex.then ?_ | (refine N.next ?_ <;> ((
    refine X.cond rfl ?_ ?_; rotate_left; (focus (
    intro hc; first | exact absurd hc (by decide) | (cases hc; done) | (refine X.seq ?_ <;> (refine X.text (L := (.op .fin 0 (.op .fin 1 (.op .fin 2 (.op .fin 3 (.op .fin 4 (.op .fin 5 (.op .fin 6 .nil)))))))) rfl (by kernel_rfl) ?_ <;>
    ((apply XL.det0F rfl rfl rfl rfl; exact D.move rfl)) <;>
    (first | refine XL.cmpTF rfl rfl rfl rfl (D.int rfl rfl rfl) (by omega) ?_ | refine XL.cmpFF rfl rfl rfl rfl (D.int rfl rfl rfl) (by omega) ?_ | refine XL.splitF rfl rfl rfl rfl (D.int rfl rfl rfl) (fun _ => ?_) (fun _ => ?_)) <;>
    ((apply XL.det0F rfl rfl rfl rfl; exact D.move rfl)) <;>
    (first | refine XL.skipF rfl rfl rfl rfl ?_ | ((apply XL.det0F rfl rfl rfl rfl; exact D.move rfl))) <;>
    (first | refine XL.skipF rfl rfl rfl rfl ?_ | (first | refine XL.cmpTF rfl rfl rfl rfl (D.int rfl rfl rfl) (by omega) ?_ | refine XL.cmpFF rfl rfl rfl rfl (D.int rfl rfl rfl) (by omega) ?_ | refine XL.splitF rfl rfl rfl rfl (D.int rfl rfl rfl) (fun _ => ?_) (fun _ => ?_))) <;>
    ((apply XL.det0F rfl rfl rfl rfl; first | exact D.pickT rfl rfl | exact D.pickF rfl rfl | exact D.pick rfl rfl rfl)) <;>
    ((apply XL.det0F rfl rfl rfl rfl; exact D.assign rfl)) <;>
    (refine XL.nil ?_)) <;> (first | refine Ex.then ?_ | (refine N.next ?_ <;> ((
    refine X.cond rfl ?_ ?_; rotate_left; (focus (
    intro hc; first | exact absurd hc (by decide) | (cases hc; done) | (refine X.skip ?_))); rotate_right; (focus (
    intro hc; first | exact absurd hc (by decide) | (cases hc; done) | (refine X.seq ?_ <;> (refine X.text (L := (.op .fin 0 .nil)) rfl (by kernel_rfl) ?_ <;>
    ((apply XL.det0F rfl rfl rfl rfl; exact D.assign rfl)) <;>
    (refine XL.nil ?_)) <;> (first | refine Ex.then ?_ | (refine N.next ?_ <;> ((refine X.ret ?_; (repeat (first | refine Rt.then ?_ | refine Rt.block ?_ | refine Rt.scope ?_)); (first | apply Rt.done (Res.r1 Tryz.results95 (RV.tmp rfl)) | apply Rt.doneM (Res.r1 Tryz.results95 (RV.tmp rfl))); (focus (exact ⟨a1, c1, o, rfl, ho, rfl⟩)); exact fun w h => h.takes)))))))))))))); rotate_right; (focus (
    intro hc; first | exact absurd hc (by decide) | (cases hc; done) | (refine X.seq ?_ <;> (refine X.text (L := (.op .fin 0 .nil)) rfl (by kernel_rfl) ?_ <;>
    ((apply XL.det0F rfl rfl rfl rfl; exact D.assign rfl)) <;>
    (refine XL.nil ?_)) <;> (first | refine Ex.then ?_ | (refine N.next ?_ <;> ((refine X.ret ?_; (repeat (first | refine Rt.then ?_ | refine Rt.block ?_ | refine Rt.scope ?_)); (first | apply Rt.done (Res.r1 Tryz.results95 (RV.tmp rfl)) | apply Rt.doneM (Res.r1 Tryz.results95 (RV.tmp rfl))); (focus (exact ⟨a1, c1, o, rfl, ho, rfl⟩)); exact fun w h => h.takes)))))))))))) <;> (first | refine N.block ?_ | refine Ex.here ?_ | refine Ex.out rfl ?_)) <;> (first | refine Ex.then ?_ | (refine N.next ?_ <;> (refine X.seq ?_ <;> (refine X.text (L := (.op .fin 0 (.op .fin 1 (.op .fin 2 (.op .fin 3 .nil))))) rfl (by kernel_rfl) ?_ <;>
    ((apply XL.det0F rfl rfl rfl rfl; exact D.move rfl)) <;>
    ((apply XL.det0F rfl rfl rfl rfl; exact D.move rfl)) <;>
    ((apply XL.det0F rfl rfl rfl rfl; exact D.move rfl)) <;>
    ((refine XL.callF [cells g [.slice a (List.length l) c] 148, own 5 1 (.slice a (List.length l) c) (List.length l) (encY l)] rfl rfl rfl rfl (fun w F hF hm hw => put_spec w F g a c l x n hF hn.2 hbd) ?_; rintro v B' ⟨a1, c1, o, rfl, ho, rfl⟩; refine XL.both ?_)) <;>
    (refine XL.nil ?_)) <;> (first | refine Ex.then ?_ | (refine N.next ?_ <;> (refine X.seq ?_ <;> (refine X.text (L := (.op .fin 0 .nil)) rfl (by kernel_rfl) ?_ <;>
    ((apply XL.det0F rfl rfl rfl rfl; exact D.assign rfl)) <;>
    (refine XL.nil ?_)) <;> (first | refine Ex.then ?_ | (refine N.next ?_ <;> ((refine X.ret ?_; (repeat (first | refine Rt.then ?_ | refine Rt.block ?_ | refine Rt.scope ?_)); (first | apply Rt.done (Res.r1 Tryz.results95 (RV.tmp rfl)) | apply Rt.doneM (Res.r1 Tryz.results95 (RV.tmp rfl))); (focus (exact ⟨a1, c1, o, rfl, ho, rfl⟩)); exact fun w h => h.takes))))))))))))))
theorem or_hd : ∀ n : Nat, n < 10 → 1 ≤ n → ∀ v : Nat, v < 2 ^ (8 - n) → n ≤ 8 → v ||| hd n = hd n + v := by decide +kernel
theorem hd_lt (n : Nat) : hd n < 256 := Nat.lt_of_le_of_lt (Nat.sub_le _ _) (by decide)
theorem var_set (l : Bs) {x : Nat} (hx : x < 18446744073709551616) (h8 : vsz x ≤ 8) : (l ++ fixB x (vsz x)).set l.length (UInt8.ofNat (hd (vsz x) + x / 256 ^ (vsz x - 1))) = l ++ varB x := by
  have hb := vsz_bd x
  obtain ⟨m, hm⟩ : ∃ m, vsz x = m + 1 := ⟨vsz x - 1, by omega⟩
  rw [List.set_append_right _ _ (Nat.le_refl _), Nat.sub_self]
  unfold varB
  rw [hm]
  simp [fixB]
theorem var_get (l : Bs) {x : Nat} (hx : x < 18446744073709551616) (h8 : vsz x ≤ 8) : (l ++ fixB x (vsz x))[l.length]? = some (UInt8.ofNat (x / 256 ^ (vsz x - 1))) := by
  have hb := vsz_bd x
  obtain ⟨m, hm⟩ : ∃ m, vsz x = m + 1 := ⟨vsz x - 1, by omega⟩
  rw [List.getElem?_append_right (Nat.le_refl _), Nat.sub_self, hm]
  simp [fixB]
theorem var_9 {x : Nat} (hx : x < 18446744073709551616) (h9 : vsz x = 9) : varB x = 255 :: fixB x 8 := by
  unfold varB
  rw [h9]
  have : x / 256 ^ (9 - 1) = 0 := Nat.div_eq_of_lt hx
  rw [this]
  rfl
theorem OVar_spec (w : World) (H : Nat → Prop) (g : Nat) (a al : Option Addr) (c cl : Nat) (l : Bs) (xs : List Nat) (hown : Sep [cells g [.slice a (List.length l) c] 148, own 5 1 (.slice a (List.length l) c) (List.length l) (encY l)] w H) (hl : RdX w H 1 al xs.length cl (encW xs)) (hx : ∀ x ∈ xs, x < 18446744073709551616) (hbd : l.length + 9 * xs.length ≤ 1000000000) : Spec Tryz.prog 126 #[.pointer (some ⟨g, 0, none⟩), .slice al xs.length cl] w H (fun v A => ∃ a' c' o, v = .tuple #[] ∧ o = l ++ xs.flatMap varB ∧ A = [cells g [.slice a' (List.length o) c'] 148, own 5 1 (.slice a' (List.length o) c') (List.length o) (encY o)]) := by
  refine Spec.enter (args := [.pointer (some ⟨g, 0, none⟩), .slice al xs.length cl]) (A := [cells g [.slice a (List.length l) c] 148, own 5 1 (.slice a (List.length l) c) (List.length l) (encY l)]) Tryz.func126 rfl Tryz.ntmps126 rfl hown ?_
  (refine X.seq ?_ <;> (refine X.seq ?_ <;> (refine X.text (L := (.op .fin 0 (.op .fin 1 .nil))) rfl (by kernel_rfl) ?_ <;>
    ((apply XL.det0F rfl rfl rfl rfl; exact D.move rfl)) <;>
    (first | refine XL.cmpTF rfl rfl rfl rfl (D.int rfl rfl rfl) (by omega) ?_ | refine XL.cmpFF rfl rfl rfl rfl (D.int rfl rfl rfl) (by omega) ?_ | refine XL.splitF rfl rfl rfl rfl (D.int rfl rfl rfl) (fun _ => ?_) (fun _ => ?_) | refine XL.cmpTF rfl rfl rfl rfl (D.eqS2 rfl rfl) (by omega) ?_ | refine XL.cmpFF rfl rfl rfl rfl (D.eqS2 rfl rfl) (by omega) ?_ | refine XL.splitF rfl rfl rfl rfl (D.eqS2 rfl rfl) (fun _ => ?_) (fun _ => ?_) | (apply XL.det0F rfl rfl rfl rfl; first | exact D.eqNilS rfl rfl | exact D.boolEq rfl rfl | exact D.eqNilP rfl rfl)) <;>
    (refine XL.nil ?_)) <;> (first | refine Ex.then ?_ | (refine N.next ?_ <;> ((
    refine X.cond rfl ?_ ?_; rotate_left; (focus (
    intro hc; first | exact absurd hc (by decide) | (cases hc; done) | (refine X.skip ?_))); rotate_right; (focus (
    intro hc; first | exact absurd hc (by decide) | (cases hc; done) | ((refine X.ret ?_; (repeat (first | refine Rt.then ?_ | refine Rt.block ?_ | refine Rt.scope ?_)); (first | apply Rt.done (Res.r0 Tryz.results126 ) | apply Rt.doneM (Res.r0 Tryz.results126 )); (focus (exact ⟨a1, c1, o, rfl, by rw [ho, List.take_of_length_le (by omega)], rfl⟩)); exact fun w h => h.takes))))))))) <;> (first | refine Ex.then ?_ | (refine N.next ?_ <;> (refine X.seq ?_ <;> (refine X.text (L := (.op .fin 0 (.op .fin 1 (.op .fin 2 .nil)))) rfl (by kernel_rfl) ?_ <;>
    ((apply XL.det0F rfl rfl rfl rfl; exact D.move rfl)) <;>
    ((apply XL.det0F rfl rfl rfl rfl; first | exact D.len rfl | exact D.lenL rfl | exact D.lenS rfl)) <;>
    ((apply XL.det0F rfl rfl rfl rfl; exact D.move rfl)) <;>
    (refine XL.nil ?_)) <;> (first | refine Ex.then ?_ | (refine N.next ?_ <;> (refine X.block ?_ <;> ((refine X.loop (ι := Nat × Option Addr × Nat × Bs) (fun y => [(0, .pointer (some ⟨g, 0, none⟩)), (10, .slice al xs.length cl), (11, .int .i64 xs.length), (12, .int .i64 y.1)]) (fun y => [cells g [.slice y.2.1 (List.length y.2.2.2) y.2.2.1] 148, own 5 1 (.slice y.2.1 (List.length y.2.2.2) y.2.2.1) (List.length y.2.2.2) (encY y.2.2.2)]) (fun y => y.1 ≤ xs.length ∧ y.2.2.2 = l ++ (xs.take y.1).flatMap varB ∧ y.2.2.2.length ≤ l.length + 9 * y.1) (fun y => xs.length - y.1) ((0, a, c, l)) ?_ ?_ ?_ ?_; (focus (exact ⟨Nat.zero_le _, by simp, by simp⟩)); (focus (repeat (first | exact Sub.nil | refine Sub.cons rfl ?_))); (focus (exact (fun w h => h.takes))); rintro ⟨i, a1, c1, o⟩ ⟨hi, ho, hol⟩; (dsimp only at *)) <;> (refine X.seq ?_ <;> (refine X.text (L := (.op .fin 0 .nil)) rfl (by kernel_rfl) ?_ <;>
    (first | refine XL.splitF rfl rfl rfl rfl (D.int rfl rfl rfl) (fun h1 => ?_) (fun h1 => ?_)) <;>
    (refine XL.nil ?_)) <;> (first | refine Ex.then ?_ | (refine N.next ?_ <;> (refine X.seq ?_ <;> ((
    refine X.cond rfl ?_ ?_; rotate_left; (focus (
    intro hc; first | exact absurd hc (by decide) | (cases hc; done) | (refine X.exit ?_))); rotate_right; (focus (
    intro hc; first | exact absurd hc (by decide) | (cases hc; done) | (refine X.skip ?_))))) <;> (first | refine Ex.then ?_ | (refine N.next ?_ <;> (refine X.seq ?_ <;> (refine X.block ?_ <;> (refine X.seq ?_ <;> (refine X.text (L := (.op .fin 0 (.op .fin 1 (.op .fin 2 .nil)))) rfl (by kernel_rfl) ?_ <;>
    (have hil : i < xs.length := (by omega); obtain ⟨x, hxi⟩ : ∃ x, xs[i]? = some x := (⟨xs[i], List.getElem?_eq_getElem hil⟩); have hxl := hx x (List.mem_of_getElem? hxi); have hfm : (xs.take (i + 1)).flatMap varB = (xs.take i).flatMap varB ++ varB x := (by rw [List.take_add_one, hxi]; simp); have hvb := vsz_bd x; have hvl := varB_len x; (apply XL.det0F rfl rfl rfl rfl; exact D.indexAddr i rfl rfl rfl hil (hl.rd.sm (by omega)))) <;>
    ((apply XL.detF rfl rfl rfl rfl; exact D.load1 rfl (fun w hw => Rd.wordAt (hl.now hw) hxi))) <;>
    ((apply XL.det0F rfl rfl rfl rfl; exact D.assign rfl)) <;>
    (refine XL.nil ?_)) <;> (first | refine Ex.then ?_ | (refine N.next ?_ <;> (refine X.seq ?_ <;> (refine X.text (L := (.op .fin 0 (.op .fin 1 (.op .fin 2 .nil)))) rfl (by kernel_rfl) ?_ <;>
    ((apply XL.det0F rfl rfl rfl rfl; exact D.move rfl)) <;>
    ((refine XL.call rfl rfl rfl rfl (fun w hw => Size_spec x hxl w) ?_; rintro v B' ⟨rfl, rfl⟩; refine XL.both ?_)) <;>
    ((apply XL.det0F rfl rfl rfl rfl; exact D.assign rfl)) <;>
    (refine XL.nil ?_)) <;> (first | refine Ex.then ?_ | (refine N.next ?_ <;> (refine X.seq ?_ <;> (refine X.seq ?_ <;> (refine X.text (L := (.op .fin 0 (.op .fin 1 .nil))) rfl (by kernel_rfl) ?_ <;>
    ((apply XL.det0F rfl rfl rfl rfl; exact D.move rfl)) <;>
    (first | refine XL.splitF rfl rfl rfl rfl (D.int rfl rfl rfl) (fun h2 => ?_) (fun h2 => ?_)) <;>
    (refine XL.nil ?_)) <;> (first | refine Ex.then ?_ | (refine N.next ?_ <;> ((
    refine X.cond rfl ?_ ?_; rotate_left; (focus (
    intro hc; first | exact absurd hc (by decide) | (cases hc; done) | (refine X.skip ?_))); rotate_right; (focus (
    intro hc; first | exact absurd hc (by decide) | (cases hc; done) | (refine X.seq ?_ <;> (refine X.text (L := (.op .fin 0 (.op .fin 1 (.op .fin 2 (.op .fin 3 (.op .fin 4 (.op .fin 5 (.op .fin 6 (.op .fin 7 (.op .fin 8 (.op .fin 9 .nil))))))))))) rfl (by kernel_rfl) ?_ <;>
    ((apply XL.det0F rfl rfl rfl rfl; exact D.move rfl)) <;>
    ((apply XL.det0F rfl rfl rfl rfl; exact D.move rfl)) <;>
    ((apply XL.det0F rfl rfl rfl rfl; exact D.nilCheck rfl)) <;>
    ((apply XL.det0F rfl rfl rfl rfl; first | exact D.fieldAddrB0 rfl rfl | exact D.fieldAddrB rfl rfl | exact D.fieldAddrE0 rfl rfl | exact D.fieldAddrE rfl rfl)) <;>
    ((apply XL.detF rfl rfl rfl rfl; first | exact D.load1 rfl (fun w h => h.cellAt (Loc.at_) rfl) | exact D.loadN rfl rfl (fun w h j u hu => by rw [at_add, Nat.zero_add]; exact h.cellAt (Loc.at_) hu) | exact D.loadP rfl rfl)) <;>
    (refine XL.slice1 rfl rfl rfl rfl rfl rfl (by intro g; infer_instance) (fun gq => ?_)) <;>
    ((refine XL.append rfl rfl rfl rfl rfl rfl ?_ ?_ (fun a' c' => ?_); (focus (skip; unfold maxLen; omega)); (focus (intro _ _; infer_instance))); rw [show encY o ++ [.int .u8 255] = encY (o ++ [(255 : UInt8)]) from encY_snoc o 255, show o.length + 1 = (o ++ [(255 : UInt8)]).length from (by simp)]) <;>
    ((apply XL.det0F rfl rfl rfl rfl; exact D.nilCheck rfl)) <;>
    ((apply XL.det0F rfl rfl rfl rfl; first | exact D.fieldAddrB0 rfl rfl | exact D.fieldAddrB rfl rfl | exact D.fieldAddrE0 rfl rfl | exact D.fieldAddrE rfl rfl)) <;>
    (first | refine XL.store1 rfl rfl rfl rfl rfl ?_ | refine XL.storeN rfl rfl rfl rfl rfl rfl ?_ | refine XL.storeP rfl rfl rfl rfl rfl rfl ?_) <;>
    (refine XL.nil ?_)) <;> (first | refine Ex.then ?_ | (refine N.next ?_ <;> (refine X.seq ?_ <;> (refine X.text (L := (.op .fin 0 (.op .fin 1 (.op .fin 2 .nil)))) rfl (by kernel_rfl) ?_ <;>
    ((apply XL.det0F rfl rfl rfl rfl; exact D.move rfl)) <;>
    ((apply XL.det0F rfl rfl rfl rfl; exact D.move rfl)) <;>
    ((refine XL.callF [cells g [.slice a' (List.length (o ++ [255])) c'] 148, own 5 1 (.slice a' (List.length (o ++ [255])) c') (List.length (o ++ [255])) (encY (o ++ [255]))] rfl rfl rfl rfl (fun w F hF hm hw => put_spec w F g a' c' (o ++ [255]) x 8 hF (by decide) (by simp; omega)) ?_; rintro v B' ⟨a2, c2, o2, rfl, ho2, rfl⟩; refine XL.both ?_); have ho2' : o2 = o ++ varB x := (by rw [ho2, var_9 hxl (by omega)]; simp)) <;>
    (refine XL.nil ?_)) <;> (first | refine Ex.then ?_ | (refine N.next ?_ <;> (refine X.exit ?_)))))))))))))) <;> (first | refine Ex.then ?_ | (refine N.next ?_ <;> (refine X.seq ?_ <;> (refine X.text (L := (.op .fin 0 (.op .fin 1 (.op .fin 2 (.op .fin 3 (.op .fin 4 (.op .fin 5 .nil))))))) rfl (by kernel_rfl) ?_ <;>
    ((apply XL.det0F rfl rfl rfl rfl; exact D.move rfl)) <;>
    ((apply XL.det0F rfl rfl rfl rfl; exact D.nilCheck rfl)) <;>
    ((apply XL.det0F rfl rfl rfl rfl; first | exact D.fieldAddrB0 rfl rfl | exact D.fieldAddrB rfl rfl | exact D.fieldAddrE0 rfl rfl | exact D.fieldAddrE rfl rfl)) <;>
    ((apply XL.detF rfl rfl rfl rfl; first | exact D.load1 rfl (fun w h => h.cellAt (Loc.at_) rfl) | exact D.loadN rfl rfl (fun w h j u hu => by rw [at_add, Nat.zero_add]; exact h.cellAt (Loc.at_) hu) | exact D.loadP rfl rfl)) <;>
    ((apply XL.det0F rfl rfl rfl rfl; first | exact D.len rfl | exact D.lenL rfl | exact D.lenS rfl)) <;>
    ((apply XL.det0F rfl rfl rfl rfl; exact D.assign rfl)) <;>
    (refine XL.nil ?_)) <;> (first | refine Ex.then ?_ | (refine N.next ?_ <;> (refine X.seq ?_ <;> (refine X.text (L := (.op .fin 0 (.op .fin 1 (.op .fin 2 (.op .fin 3 .nil))))) rfl (by kernel_rfl) ?_ <;>
    ((apply XL.det0F rfl rfl rfl rfl; exact D.move rfl)) <;>
    ((apply XL.det0F rfl rfl rfl rfl; exact D.move rfl)) <;>
    ((apply XL.det0F rfl rfl rfl rfl; exact D.move rfl)) <;>
    ((refine XL.callF [cells g [.slice a1 (List.length o) c1] 148, own 5 1 (.slice a1 (List.length o) c1) (List.length o) (encY o)] rfl rfl rfl rfl (fun w F hF hm hw => put_spec w F g a1 c1 o x (vsz x) hF (by omega) (by omega)) ?_; rintro v B' ⟨a2, c2, o2, rfl, ho2, rfl⟩; refine XL.both ?_); have h8 : vsz x ≤ 8 := (by omega); have ho2l : o2.length = o.length + vsz x := (by rw [ho2]; simp [fixB_len]); have hget := var_get o hxl h8; rw [← ho2] at hget; have htop := top_lt ⟨hvb.1, h8⟩ ((vsz_le hvb.1 (by omega)).1 (Nat.le_refl (vsz x))); have hpow : 2 ^ (8 - vsz x) ≤ 256 := (by have := hd_le (vsz x) hvb; omega); have hb0 : (UInt8.ofNat (x / 256 ^ (vsz x - 1))).toNat = x / 256 ^ (vsz x - 1) := (by simp; exact Nat.lt_of_lt_of_le htop hpow); have hor := or_hd (vsz x) (by omega) hvb.1 _ htop h8; have hsum : hd (vsz x) + x / 256 ^ (vsz x - 1) < 256 := (Nat.lt_of_lt_of_le (Nat.add_lt_add_left htop _) (hd_le _ hvb)); refine XL.fact (fun w h => (h.rd (a := a2)).sm (by omega)) (fun hsome => ?_)) <;>
    (refine XL.nil ?_)) <;> (first | refine Ex.then ?_ | (refine N.next ?_ <;> (refine X.draw (.op .v0 0 (.op .v0 1 (.op .v0 2 (.op .v1 3 (.op .v0 4 (.op .v0 5 (.op .v1 6 (.op .v0 7 (.op .ch 8 (.op .v0 9 (.op .v0 10 (.op .fin 11 .nil)))))))))))) mixed (by kernel_rfl) ?_ <;>
    ((apply XL.det0 rfl rfl rfl rfl; exact D.move rfl)) <;>
    ((apply XL.det0 rfl rfl rfl rfl; exact D.nilCheck rfl)) <;>
    ((apply XL.det0 rfl rfl rfl rfl; first | exact D.fieldAddrB0 rfl rfl | exact D.fieldAddrB rfl rfl | exact D.fieldAddrE0 rfl rfl | exact D.fieldAddrE rfl rfl)) <;>
    ((apply XL.det1 rfl rfl rfl rfl; first | exact D.load1 rfl (fun w h => h.cellAt (Loc.at_) rfl) | exact D.loadN rfl rfl (fun w h j u hu => by rw [at_add, Nat.zero_add]; exact h.cellAt (Loc.at_) hu) | exact D.loadP rfl rfl)) <;>
    ((apply XL.det0 rfl rfl rfl rfl; exact D.move rfl)) <;>
    ((apply XL.det0 rfl rfl rfl rfl; exact D.indexAddr o.length rfl rfl rfl (by omega) hsome)) <;>
    ((apply XL.det1 rfl rfl rfl rfl; exact D.load1 rfl (fun w hw => Rd.byteAt (hw.rd (a := a2)) hget)); rw [hb0]) <;>
    ((apply XL.det0 rfl rfl rfl rfl; exact D.move rfl)) <;>
    ((refine XL.call rfl rfl rfl rfl (fun w hw => head_spec (vsz x) hvb w) ?_; rintro v B' ⟨rfl, rfl⟩; refine XL.both ?_)) <;>
    ((apply XL.det0 rfl rfl rfl rfl; exact D.orN rfl rfl rfl ⟨Nat.lt_of_lt_of_le htop hpow, hd_lt _⟩); rw [hor, show ((hd (vsz x) + x / 256 ^ (vsz x - 1) : Nat) : Int) = ((UInt8.ofNat (hd (vsz x) + x / 256 ^ (vsz x - 1))).toNat : Int) from (by have : (UInt8.ofNat (hd (vsz x) + x / 256 ^ (vsz x - 1))).toNat = hd (vsz x) + x / 256 ^ (vsz x - 1) := (varB_first hxl).1; rw [this])]) <;>
    ((apply XL.det0 rfl rfl rfl rfl; exact D.indexAddr o.length rfl rfl rfl (by omega) hsome)) <;>
    ((refine XL.storeE (encY (o2.set o.length (UInt8.ofNat (hd (vsz x) + x / 256 ^ (vsz x - 1))))) rfl rfl rfl rfl rfl (by omega) (encY_set o2 o.length _ (by omega)) ?_); obtain ⟨o3, ho3⟩ : ∃ o3, o2.set o.length (UInt8.ofNat (hd (vsz x) + x / 256 ^ (vsz x - 1))) = o3 := (⟨_, rfl⟩); have ho3l : o2.length = o3.length := (by rw [← ho3, List.length_set]); rw [ho3, ho3l]) <;>
    (refine XL.nil ?_))))))))))))))))) <;> (first | refine N.block ?_ | refine Ex.here ?_ | refine Ex.out rfl ?_)) <;> (first | refine Ex.then ?_ | (refine N.next ?_ <;> (refine X.text (L := (.op .fin 0 (.op .fin 1 .nil))) rfl (by kernel_rfl) ?_ <;>
    ((apply XL.det0F rfl rfl rfl rfl; first | exact D.add64 rfl rfl (by omega) | exact D.int rfl rfl rfl)) <;>
    ((apply XL.det0F rfl rfl rfl rfl; exact D.move rfl)) <;>
    (refine XL.nil ?_))))))))))) <;> (first | refine Ex.then ?_ | (first | (refine N.again ((i + 1, a2, c2, o2)) ?_ ?_ ?_ ?_; (focus (exact ⟨by dsimp only; omega, by dsimp only; rw [ho2', ho, hfm, List.append_assoc], by dsimp only; rw [ho2']; simp only [List.length_append]; omega⟩)); (focus (first | omega | (dsimp only; omega))); (focus (repeat (first | exact Sub.nil | refine Sub.cons rfl ?_))); exact (fun w h => h.takes)) | (refine N.again ((i + 1, a2, c2, o3)) ?_ ?_ ?_ ?_; (focus (exact ⟨by dsimp only; omega, by dsimp only; rw [← ho3, ho2, var_set o hxl h8, ho, hfm, List.append_assoc], by dsimp only; omega⟩)); (focus (first | omega | (dsimp only; omega))); (focus (repeat (first | exact Sub.nil | refine Sub.cons rfl ?_))); exact (fun w h => h.takes))))) <;> (first | refine N.block ?_ | refine Ex.here ?_ | refine Ex.out rfl ?_)))))))) <;> ((repeat (first | refine Rt.then ?_ | refine Rt.block ?_ | refine Rt.scope ?_)); (first | apply N.done (Res.r0 Tryz.results126 ) | apply N.doneM (Res.r0 Tryz.results126 )); (focus (exact ⟨a1, c1, o, rfl, by rw [ho, List.take_of_length_le (by omega)], rfl⟩)); exact fun w h => h.takes)
theorem ORaw_spec (w : World) (H : Nat → Prop) (g : Nat) (a al : Option Addr) (c cl : Nat) (l : Bs) (xs : List Bs) (hown : Sep [cells g [.slice a (List.length l) c] 148, own 5 1 (.slice a (List.length l) c) (List.length l) (encY l)] w H) (hl : RdX w H 1 al xs.length cl (encT xs)) (hbd : l.length + xs.flatten.length ≤ 1000000000 ∧ xs.length ≤ 1000000000) : Spec Tryz.prog 94 #[.pointer (some ⟨g, 0, none⟩), .slice al xs.length cl] w H (fun v A => ∃ a' c' o, v = .tuple #[] ∧ o = l ++ xs.flatten ∧ A = [cells g [.slice a' (List.length o) c'] 148, own 5 1 (.slice a' (List.length o) c') (List.length o) (encY o)]) := by
  refine Spec.enter (args := [.pointer (some ⟨g, 0, none⟩), .slice al xs.length cl]) (A := [cells g [.slice a (List.length l) c] 148, own 5 1 (.slice a (List.length l) c) (List.length l) (encY l)]) Tryz.func94 rfl Tryz.ntmps94 rfl hown ?_
  (refine X.seq ?_ <;> (refine X.seq ?_ <;> (refine X.text (L := (.op .fin 0 (.op .fin 1 .nil))) rfl (by kernel_rfl) ?_ <;>
    ((apply XL.det0F rfl rfl rfl rfl; exact D.move rfl)) <;>
    (first | refine XL.cmpTF rfl rfl rfl rfl (D.int rfl rfl rfl) (by omega) ?_ | refine XL.cmpFF rfl rfl rfl rfl (D.int rfl rfl rfl) (by omega) ?_ | refine XL.splitF rfl rfl rfl rfl (D.int rfl rfl rfl) (fun _ => ?_) (fun _ => ?_) | refine XL.cmpTF rfl rfl rfl rfl (D.eqS2 rfl rfl) (by omega) ?_ | refine XL.cmpFF rfl rfl rfl rfl (D.eqS2 rfl rfl) (by omega) ?_ | refine XL.splitF rfl rfl rfl rfl (D.eqS2 rfl rfl) (fun _ => ?_) (fun _ => ?_) | (apply XL.det0F rfl rfl rfl rfl; first | exact D.eqNilS rfl rfl | exact D.boolEq rfl rfl | exact D.eqNilP rfl rfl)) <;>
    (refine XL.nil ?_)) <;> (first | refine Ex.then ?_ | (refine N.next ?_ <;> ((
    refine X.cond rfl ?_ ?_; rotate_left; (focus (
    intro hc; first | exact absurd hc (by decide) | (cases hc; done) | (refine X.skip ?_))); rotate_right; (focus (
    intro hc; first | exact absurd hc (by decide) | (cases hc; done) | ((refine X.ret ?_; (repeat (first | refine Rt.then ?_ | refine Rt.block ?_ | refine Rt.scope ?_)); (first | apply Rt.done (Res.r0 Tryz.results94 ) | apply Rt.doneM (Res.r0 Tryz.results94 )); (focus (exact ⟨a1, c1, o, rfl, by rw [ho, List.take_of_length_le (by omega)], rfl⟩)); exact fun w h => h.takes))))))))) <;> (first | refine Ex.then ?_ | (refine N.next ?_ <;> (refine X.seq ?_ <;> (refine X.text (L := (.op .fin 0 (.op .fin 1 (.op .fin 2 .nil)))) rfl (by kernel_rfl) ?_ <;>
    ((apply XL.det0F rfl rfl rfl rfl; exact D.move rfl)) <;>
    ((apply XL.det0F rfl rfl rfl rfl; first | exact D.len rfl | exact D.lenL rfl | exact D.lenS rfl)) <;>
    ((apply XL.det0F rfl rfl rfl rfl; exact D.move rfl)) <;>
    (refine XL.nil ?_)) <;> (first | refine Ex.then ?_ | (refine N.next ?_ <;> (refine X.block ?_ <;> ((refine X.loop (ι := Nat × Option Addr × Nat × Bs) (fun y => [(0, .pointer (some ⟨g, 0, none⟩)), (8, .slice al xs.length cl), (9, .int .i64 xs.length), (10, .int .i64 y.1)]) (fun y => [cells g [.slice y.2.1 (List.length y.2.2.2) y.2.2.1] 148, own 5 1 (.slice y.2.1 (List.length y.2.2.2) y.2.2.1) (List.length y.2.2.2) (encY y.2.2.2)]) (fun y => y.1 ≤ xs.length ∧ y.2.2.2 = l ++ (xs.take y.1).flatten) (fun y => xs.length - y.1) ((0, a, c, l)) ?_ ?_ ?_ ?_; (focus (exact ⟨Nat.zero_le _, by simp⟩)); (focus (repeat (first | exact Sub.nil | refine Sub.cons rfl ?_))); (focus (exact (fun w h => h.takes))); rintro ⟨i, a1, c1, o⟩ ⟨hi, ho⟩; (dsimp only at *)) <;> (refine X.seq ?_ <;> (refine X.text (L := (.op .fin 0 .nil)) rfl (by kernel_rfl) ?_ <;>
    (first | refine XL.splitF rfl rfl rfl rfl (D.int rfl rfl rfl) (fun h1 => ?_) (fun h1 => ?_)) <;>
    (refine XL.nil ?_)) <;> (first | refine Ex.then ?_ | (refine N.next ?_ <;> (refine X.seq ?_ <;> ((
    refine X.cond rfl ?_ ?_; rotate_left; (focus (
    intro hc; first | exact absurd hc (by decide) | (cases hc; done) | (refine X.exit ?_))); rotate_right; (focus (
    intro hc; first | exact absurd hc (by decide) | (cases hc; done) | (refine X.skip ?_))))) <;> (first | refine Ex.then ?_ | (refine N.next ?_ <;> (refine X.seq ?_ <;> (refine X.block ?_ <;> (refine X.seq ?_ <;> (refine X.text (L := (.op .fin 0 (.op .fin 1 (.op .fin 2 .nil)))) rfl (by kernel_rfl) ?_ <;>
    (have hil : i < xs.length := (by omega); obtain ⟨x, hxi⟩ : ∃ x, xs[i]? = some x := (⟨xs[i], List.getElem?_eq_getElem hil⟩); have hfm : (xs.take (i + 1)).flatten = (xs.take i).flatten ++ x := (by rw [List.take_add_one, hxi]; simp); have hol : o.length + x.length ≤ 1000000000 := (by have e := congrArg (fun z : List Bs => z.flatten.length) (List.take_append_drop (i + 1) xs); rw [List.flatten_append, hfm] at e; simp only [List.length_append] at e; rw [ho]; simp only [List.length_append]; omega); (apply XL.det0F rfl rfl rfl rfl; exact D.indexAddr i rfl rfl rfl hil (hl.rd.sm (by omega)))) <;>
    ((apply XL.detF rfl rfl rfl rfl; exact D.load1 rfl (fun w hw => Rd.strAt (hl.now hw) hxi))) <;>
    ((apply XL.det0F rfl rfl rfl rfl; exact D.assign rfl)) <;>
    (refine XL.nil ?_)) <;> (first | refine Ex.then ?_ | (refine N.next ?_ <;> (refine X.text (L := (.op .fin 0 (.op .fin 1 (.op .fin 2 (.op .fin 3 (.op .fin 4 (.op .fin 5 (.op .fin 6 (.op .fin 7 (.op .fin 8 (.op .fin 9 .nil))))))))))) rfl (by kernel_rfl) ?_ <;>
    ((apply XL.det0F rfl rfl rfl rfl; exact D.move rfl)) <;>
    ((apply XL.det0F rfl rfl rfl rfl; exact D.move rfl)) <;>
    ((apply XL.det0F rfl rfl rfl rfl; exact D.nilCheck rfl)) <;>
    ((apply XL.det0F rfl rfl rfl rfl; first | exact D.fieldAddrB0 rfl rfl | exact D.fieldAddrB rfl rfl | exact D.fieldAddrE0 rfl rfl | exact D.fieldAddrE rfl rfl)) <;>
    ((apply XL.detF rfl rfl rfl rfl; first | exact D.load1 rfl (fun w h => h.cellAt (Loc.at_) rfl) | exact D.loadN rfl rfl (fun w h j u hu => by rw [at_add, Nat.zero_add]; exact h.cellAt (Loc.at_) hu) | exact D.loadP rfl rfl)) <;>
    ((apply XL.det0F rfl rfl rfl rfl; exact D.move rfl)) <;>
    ((refine XL.appendS x rfl rfl rfl rfl rfl (by omega) (fun _ _ => by infer_instance) (fun a' c' => ?_)); rw [encY_append o x, show o.length + x.length = (o ++ x).length from (by simp)]) <;>
    ((apply XL.det0F rfl rfl rfl rfl; exact D.nilCheck rfl)) <;>
    ((apply XL.det0F rfl rfl rfl rfl; first | exact D.fieldAddrB0 rfl rfl | exact D.fieldAddrB rfl rfl | exact D.fieldAddrE0 rfl rfl | exact D.fieldAddrE rfl rfl)) <;>
    (first | refine XL.store1 rfl rfl rfl rfl rfl ?_ | refine XL.storeN rfl rfl rfl rfl rfl rfl ?_ | refine XL.storeP rfl rfl rfl rfl rfl rfl ?_) <;>
    (refine XL.nil ?_))))) <;> (first | refine N.block ?_ | refine Ex.here ?_ | refine Ex.out rfl ?_)) <;> (first | refine Ex.then ?_ | (refine N.next ?_ <;> (refine X.text (L := (.op .fin 0 (.op .fin 1 .nil))) rfl (by kernel_rfl) ?_ <;>
    ((apply XL.det0F rfl rfl rfl rfl; first | exact D.add64 rfl rfl (by omega) | exact D.int rfl rfl rfl)) <;>
    ((apply XL.det0F rfl rfl rfl rfl; exact D.move rfl)) <;>
    (refine XL.nil ?_))))))))))) <;> (first | refine Ex.then ?_ | ((refine N.again ((i + 1, a', c', o ++ x)) ?_ ?_ ?_ ?_; (focus (exact ⟨by dsimp only; omega, by dsimp only; rw [ho, hfm, List.append_assoc]⟩)); (focus (first | omega | (dsimp only; omega))); (focus (repeat (first | exact Sub.nil | refine Sub.cons rfl ?_))); exact (fun w h => h.takes))))) <;> (first | refine N.block ?_ | refine Ex.here ?_ | refine Ex.out rfl ?_)))))))) <;> ((repeat (first | refine Rt.then ?_ | refine Rt.block ?_ | refine Rt.scope ?_)); (first | apply N.done (Res.r0 Tryz.results94 ) | apply N.doneM (Res.r0 Tryz.results94 )); (focus (exact ⟨a1, c1, o, rfl, by rw [ho, List.take_of_length_le (by omega)], rfl⟩)); exact fun w h => h.takes)
def textB (s : Bs) : Bs := varB s.length ++ s

theorem OString_spec (w : World) (g : Nat) (a : Option Addr) (c : Nat) (l : Bs) (hg : w.cell? ⟨g, 0, none⟩ = some (.slice a l.length c)) (hl : Rd w 1 a l.length c (encY l)) : Spec Tryz.prog 96 #[.pointer (some ⟨g, 0, none⟩)] w (fun _ => False) (fun v A => v = .string ⟨List.toArray l⟩ ∧ A = []) := by
  refine Spec.enter (args := [.pointer (some ⟨g, 0, none⟩)]) (A := []) Tryz.func96 rfl Tryz.ntmps96 rfl (fun _ h => h) ?_
  (refine X.seq ?_ <;> (refine X.text (L := (.op .fin 0 .nil)) rfl (by kernel_rfl) ?_ <;>
    ((apply XL.det0F rfl rfl rfl rfl; exact D.assign rfl)) <;>
    (refine XL.nil ?_)) <;> (first | refine Ex.then ?_ | (refine N.next ?_ <;> (refine X.seq ?_ <;> (refine X.seq ?_ <;> (refine X.text (L := (.op .fin 0 (.op .fin 1 .nil))) rfl (by kernel_rfl) ?_ <;>
    ((apply XL.det0F rfl rfl rfl rfl; exact D.move rfl)) <;>
    (first | refine XL.cmpTF rfl rfl rfl rfl (D.int rfl rfl rfl) (by omega) ?_ | refine XL.cmpFF rfl rfl rfl rfl (D.int rfl rfl rfl) (by omega) ?_ | refine XL.splitF rfl rfl rfl rfl (D.int rfl rfl rfl) (fun _ => ?_) (fun _ => ?_) | refine XL.cmpTF rfl rfl rfl rfl (D.eqS2 rfl rfl) (by omega) ?_ | refine XL.cmpFF rfl rfl rfl rfl (D.eqS2 rfl rfl) (by omega) ?_ | refine XL.splitF rfl rfl rfl rfl (D.eqS2 rfl rfl) (fun _ => ?_) (fun _ => ?_) | (apply XL.det0F rfl rfl rfl rfl; first | exact D.eqNilS rfl rfl | exact D.boolEq rfl rfl | exact D.eqNilP rfl rfl)) <;>
    (refine XL.nil ?_)) <;> (first | refine Ex.then ?_ | (refine N.next ?_ <;> ((
    refine X.cond rfl ?_ ?_; rotate_left; (focus (
    intro hc; first | exact absurd hc (by decide) | (cases hc; done) | (refine X.skip ?_))); rotate_right; (focus (
    intro hc; first | exact absurd hc (by decide) | (cases hc; done) | (refine X.seq ?_ <;> (refine X.text (L := (.op .fin 0 .nil)) rfl (by kernel_rfl) ?_ <;>
    ((apply XL.det0F rfl rfl rfl rfl; exact D.assign rfl)) <;>
    (refine XL.nil ?_)) <;> (first | refine Ex.then ?_ | (refine N.next ?_ <;> ((refine X.ret ?_; (repeat (first | refine Rt.then ?_ | refine Rt.block ?_ | refine Rt.scope ?_)); (first | apply Rt.done (Res.r1 Tryz.results96 (RV.tmp rfl)) | apply Rt.doneM (Res.r1 Tryz.results96 (RV.tmp rfl))); (focus (exact ⟨rfl, rfl⟩)); exact fun w h => h.takes)))))))))))) <;> (first | refine Ex.then ?_ | (refine N.next ?_ <;> (refine X.seq ?_ <;> (refine X.text (L := (.op .fin 0 (.op .fin 1 (.op .fin 2 (.op .fin 3 (.op .fin 4 (.op .fin 5 .nil))))))) rfl (by kernel_rfl) ?_ <;>
    ((apply XL.det0F rfl rfl rfl rfl; exact D.move rfl)) <;>
    ((apply XL.det0F rfl rfl rfl rfl; exact D.nilCheck rfl)) <;>
    ((apply XL.det0F rfl rfl rfl rfl; first | exact D.fieldAddrB0 rfl rfl | exact D.fieldAddrB rfl rfl | exact D.fieldAddrE0 rfl rfl | exact D.fieldAddrE rfl rfl)) <;>
    ((apply XL.detF rfl rfl rfl rfl; exact D.load1 rfl (fun w hw => hw.cell0 hg (fun h => h)))) <;>
    ((apply XL.detF rfl rfl rfl rfl; exact D.toStr l rfl rfl (fun w hw => hl.conf0 hw))) <;>
    ((apply XL.det0F rfl rfl rfl rfl; exact D.assign rfl)) <;>
    (refine XL.nil ?_)) <;> (first | refine Ex.then ?_ | (refine N.next ?_ <;> ((refine X.ret ?_; (repeat (first | refine Rt.then ?_ | refine Rt.block ?_ | refine Rt.scope ?_)); (first | apply Rt.done (Res.r1 Tryz.results96 (RV.tmp rfl)) | apply Rt.doneM (Res.r1 Tryz.results96 (RV.tmp rfl))); (focus (exact ⟨rfl, rfl⟩)); exact fun w h => h.takes)))))))))))
end Go.Lx
