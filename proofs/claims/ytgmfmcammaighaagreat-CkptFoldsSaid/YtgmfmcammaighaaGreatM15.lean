/- Texts Ea Eb Ec, merged: a claim has at most 60 files. -/
import Derived.Test.YtgmfmcammaighaaGreatM4
import Derived.Test.YtgmfmcammaighaaGreatM10
import Derived.Test.YtgmfmcammaighaaGreatM2
import Derived.Test.YtgmfmcammaighaaGreatM9
import Derived.Test.YtgmfmcammaighaaGreatM3
/- Package extmap's walks, part a: extents. -/
namespace Go.Lx
open Go.Proofs
set_option linter.unusedVariables false
set_option linter.unusedSimpArgs false
set_option maxRecDepth 20000

theorem Rd.extE {w : World} {a : Option Addr} {n c m : Nat} {xs : List Ext} {x : Ext} (h : Rd w 4 a n c (encE xs)) (hx : xs[m]? = some x) : ∀ j u, [Value.int .i64 x.a, .int .i64 x.n, .int .i64 x.q, .int .i64 x.p][j]? = some u → w.cell? ((el a (m * 4)).add j) = some u := Rd.elem (f := encE1) h (fun _ => rfl) hx
theorem Rd.extLen {w : World} {a : Option Addr} {n c : Nat} {xs : List Ext} (h : Rd w 4 a n c (encE xs)) : xs.length = n := by
  have := h.len
  rw [encE, flat_len encE1 4 (fun _ => rfl)] at this
  omega
theorem encE_snoc (o : List Ext) (a n q p : Int) : encE o ++ [.int .i64 a, .int .i64 n, .int .i64 q, .int .i64 p] = encE (o ++ [⟨a, n, q, p⟩]) := by simp [encE, encE1]
theorem encE_one (l : List Ext) : ∀ u ∈ encE l, u.oneCell' = true := by
  intro u hu
  simp only [encE, List.mem_flatMap] at hu
  obtain ⟨x, _, hx⟩ := hu
  simp [encE1] at hx
  rcases hx with rfl | rfl | rfl | rfl <;> rfl
theorem encE_len (o : List Ext) : (encE o).length = o.length * 4 := flat_len encE1 4 (fun _ => rfl) o

theorem place_spec (q p : Int) (w : World) : Spec Tryz.prog 107 #[.agg #[.int .i64 q, .int .i64 p]] w (fun _ => False) (fun v A => v = .bool (decide (plS q p)) ∧ A = []) := by
  refine Spec.enter (args := [.agg #[.int .i64 q, .int .i64 p]]) (A := []) Tryz.func107 rfl Tryz.ntmps107 rfl (fun _ h => h) ?_
  ((refine X.st (by kernel_rfl) ?_<;>repeat' first|refine Z.p rfl ?_|refine XL.boxN rfl rfl rfl rfl (by intro g; infer_instance) (fun g => ?_)|refine XL.box1 rfl rfl rfl rfl rfl (by intro g; infer_instance) (fun g => ?_)|refine XL.nn ?_)<;>(refine X.st (by kernel_rfl) ?_<;>repeat' first|refine Z.p rfl ?_|refine Z.fa rfl rfl rfl ?_|refine Z.l1 rfl rfl rfl ?_|refine Z.lN rfl rfl rfl ?_|refine Z.lP rfl rfl rfl ?_|refine Z.ct rfl (by omega) ?_|refine Z.cf rfl (by omega) ?_|refine Z.cs rfl (fun _=>?_) (fun _=>?_)|refine Z.pk rfl rfl rfl rfl ?_|refine XL.nn ?_)<;>(apply X.r1 Tryz.results107 (RV.tmp rfl);(focus (refine ⟨congrArg Value.bool ?_, rfl⟩; first | rw [decide_eq_true (by unfold plS; omega)] | rw [decide_eq_false (by unfold plS; omega)]));exact fun _=>Conf.takes))
theorem mayE_spec (x : Ext) (w : World) : Spec Tryz.prog 82 #[.agg #[.int .i64 x.a, .int .i64 x.n, .int .i64 x.q, .int .i64 x.p]] w (fun _ => False) (fun v A => v = .int .i64 (if mayE x then 0 else 1) ∧ A = []) := by
  refine Spec.enter (args := [.agg #[.int .i64 x.a, .int .i64 x.n, .int .i64 x.q, .int .i64 x.p]]) (A := []) Tryz.func82 rfl Tryz.ntmps82 rfl (fun _ h => h) ?_
  ((refine X.st (by kernel_rfl) ?_<;>repeat' first|refine Z.p rfl ?_|refine XL.boxN rfl rfl rfl rfl (by intro g; infer_instance) (fun g => ?_)|refine XL.box1 rfl rfl rfl rfl rfl (by intro g; infer_instance) (fun g => ?_)|refine XL.nn ?_)<;>refine X.seq ?_<;>((refine X.st (by kernel_rfl) ?_<;>repeat' first|refine Z.p rfl ?_|(refine XL.at 2 ?_;((refine XL.call rfl rfl rfl rfl (fun w hw => May_spec _ _ w) ?_; rintro v B' ⟨rfl, rfl⟩; refine XL.both ?_); (by_cases hm : mayS (x.a, x.n) <;> first | rw [if_pos hm] | rw [if_neg hm])))|(refine XL.at 7 ?_;((refine XL.call rfl rfl rfl rfl (fun w hw => place_spec _ _ w) ?_; rintro v B' ⟨rfl, rfl⟩; refine XL.both ?_); (by_cases hp : plS x.q x.p <;> first | rw [decide_eq_true hp] | rw [decide_eq_false hp])))|refine Z.fa rfl rfl rfl ?_|refine Z.l1 rfl rfl rfl ?_|refine Z.lN rfl rfl rfl ?_|refine Z.lP rfl rfl rfl ?_|refine Z.ct rfl (by omega) ?_|refine Z.cf rfl (by omega) ?_|refine Z.cs rfl (fun _=>?_) (fun _=>?_)|refine Z.pk rfl rfl rfl rfl ?_|refine XL.nn ?_)<;>(refine X.cond rfl ?_ ?_;rotate_left;(focus (intro hc;first|exact no_ hc rfl|(refine X.skip ?_)));rotate_right;(focus (intro hc;first|exact no_ hc rfl|((refine X.st (by kernel_rfl) ?_<;>repeat' first|refine Z.p rfl ?_|refine XL.nn ?_)<;>(apply X.r1 Tryz.results82 (RV.tmp rfl);(focus (refine ⟨congrArg (Value.int IntKind.i64) ?_, rfl⟩; first | simp [mayE, hm, hp] | simp [mayE, hm]));exact fun _=>Conf.takes))))))<;>(first|refine Ex.then ?_|refine N.next ?_<;>((refine X.st (by kernel_rfl) ?_<;>repeat' first|refine Z.p rfl ?_|refine XL.nn ?_)<;>(apply X.r1 Tryz.results82 (RV.tmp rfl);(focus (refine ⟨congrArg (Value.int IntKind.i64) ?_, rfl⟩; first | simp [mayE, hm, hp] | simp [mayE, hm]));exact fun _=>Conf.takes))))
theorem part_spec (x : Ext) (f t : Int) (hb : inE x ∧ 0 ≤ f ∧ f ≤ 65536 ∧ 0 ≤ t ∧ t ≤ 65536) (w : World) : Spec Tryz.prog 108 #[.agg #[.int .i64 x.a, .int .i64 x.n, .int .i64 x.q, .int .i64 x.p], .int .i64 f, .int .i64 t] w (fun _ => False) (fun v A => v = .agg #[.int .i64 f, .int .i64 (t - f), .int .i64 x.q, .int .i64 (x.p + f - x.a)] ∧ A = []) := by
  have hx := hb.1
  unfold inE at hx
  refine Spec.enter (args := [.agg #[.int .i64 x.a, .int .i64 x.n, .int .i64 x.q, .int .i64 x.p], .int .i64 f, .int .i64 t]) (A := []) Tryz.func108 rfl Tryz.ntmps108 rfl (fun _ h => h) ?_
  ((refine X.st (by kernel_rfl) ?_<;>repeat' first|refine XL.boxN rfl rfl rfl rfl (by intro g; infer_instance) (fun g => ?_)|refine XL.box1 rfl rfl rfl rfl rfl (by intro g; infer_instance) (fun g => ?_)|refine XL.alloc rfl rfl rfl (by intro g; infer_instance) (fun g => ?_)|refine XL.nn ?_)<;>(refine X.st (by kernel_rfl) ?_<;>repeat' first|refine Z.p rfl ?_|refine Z.g rfl (by omega) ?_|refine Z.w rfl ?_|refine Z.bd rfl rfl ?_|refine Z.fa rfl rfl rfl ?_|refine Z.l1 rfl rfl rfl ?_|refine Z.lN rfl rfl rfl ?_|refine Z.lP rfl rfl rfl ?_|refine XL.store1 rfl rfl rfl rfl rfl ?_|refine XL.storeN rfl rfl rfl rfl rfl rfl ?_|refine XL.storeP rfl rfl rfl rfl rfl rfl ?_|refine XL.nn ?_)<;>(apply X.r1 Tryz.results108 (RV.of rfl);(focus (exact ⟨rfl, rfl⟩));exact fun _=>Conf.takes))
theorem follows_spec (x y : Ext) (hx : inE x) (hy : inE y) (w : World) : Spec Tryz.prog 167 #[.agg #[.int .i64 x.a, .int .i64 x.n, .int .i64 x.q, .int .i64 x.p], .agg #[.int .i64 y.a, .int .i64 y.n, .int .i64 y.q, .int .i64 y.p]] w (fun _ => False) (fun v A => v = .bool (decide (Fol x y)) ∧ A = []) := by
  have hx' := hx
  have hy' := hy
  unfold inE at hx' hy'
  refine Spec.enter (args := [.agg #[.int .i64 x.a, .int .i64 x.n, .int .i64 x.q, .int .i64 x.p], .agg #[.int .i64 y.a, .int .i64 y.n, .int .i64 y.q, .int .i64 y.p]]) (A := []) Tryz.func167 rfl Tryz.ntmps167 rfl (fun _ h => h) ?_
  ((refine X.st (by kernel_rfl) ?_<;>repeat' first|refine Z.p rfl ?_|refine XL.boxN rfl rfl rfl rfl (by intro g; infer_instance) (fun g => ?_)|refine XL.box1 rfl rfl rfl rfl rfl (by intro g; infer_instance) (fun g => ?_)|refine XL.nn ?_)<;>(refine X.sd (.a 0 (.b 1 (.a 3 (.a 4 (.b 5 (.c 2 (.a 6 (.a 7 (.a 8 (.a 9 (.b 10 (.a 11 (.a 12 (.b 13 (.a 14 (.a 15 (.a 16 (.a 17 (.a 18 (.b 19 (.a 20 (.a 21 (.b 22 (.a 23 (.a 24 (.a 25 (.b 26 (.a 27 (.a 28 (.a 29 .n)))))))))))))))))))))))))))))) mixed (by kernel_rfl) ?_<;>repeat' first|refine Z.p rfl ?_|(refine XL.at 2 ?_;((refine XL.call rfl rfl rfl rfl (fun w hw => End_spec _ _ w) ?_; rintro v B' ⟨rfl, rfl⟩; refine XL.both ?_); rw [D.wrap64_fit (by omega)]))|refine Z.fa rfl rfl rfl ?_|refine Z.l1 rfl rfl rfl ?_|refine Z.lN rfl rfl rfl ?_|refine Z.lP rfl rfl rfl ?_|refine Z.ct rfl (by omega) ?_|refine Z.cf rfl (by omega) ?_|refine Z.cs rfl (fun _=>?_) (fun _=>?_)|refine Z.pk rfl rfl rfl rfl ?_|refine Z.g rfl (by omega) ?_|refine Z.w rfl ?_|refine XL.nn ?_)<;>(apply X.r1 Tryz.results167 (RV.tmp rfl);(focus (refine ⟨congrArg Value.bool ?_, rfl⟩; first | rw [decide_eq_true (by unfold Fol; omega)] | rw [decide_eq_false (by unfold Fol; omega)]));exact fun _=>Conf.takes))
end Go.Lx

/- Package extmap's walks, part b: extents that rise are joined. -/
namespace Go.Lx
open Go.Proofs
set_option linter.unusedVariables false
set_option linter.unusedSimpArgs false
set_option maxRecDepth 20000

theorem encE_setn (o : List Ext) (k : Nat) (y : Ext) (n : Int) (h : o[k]? = some y) : putAt (encE o) (k * 4 + 1) [.int .i64 n] = encE (o.set k ⟨y.a, n, y.q, y.p⟩) := by
  have hk := (List.getElem?_eq_some_iff.1 h).1
  rw [putAt_one' _ _ _ (by rw [encE_len]; omega)]
  exact set_flat' encE1 4 (fun _ => rfl) 1 (by omega) (.int .i64 n) ⟨y.a, n, y.q, y.p⟩ y rfl o k h
where
  putAt_one' (xs : List Value) (k : Nat) (v : Value) (h : k < xs.length) : putAt xs k [v] = xs.set k v := by
    unfold putAt
    exact list_set_parts xs k v h
  set_flat' {α : Type} (f : α → List Value) (sz : Nat) (hf : ∀ x, (f x).length = sz) (j : Nat) (hj : j < sz) (v : Value) (x y : α) (hxy : (f y).set j v = f x) : ∀ (l : List α) (k : Nat), l[k]? = some y → (l.flatMap f).set (k * sz + j) v = (l.set k x).flatMap f
    | [], k, h => by cases h
    | z :: l, 0, h => by
      simp at h
      subst h
      rw [Nat.zero_mul, Nat.zero_add, List.flatMap_cons, List.set_append_left _ _ (by rw [hf]; exact hj), hxy, List.set_cons_zero, List.flatMap_cons]
    | z :: l, k + 1, h => by
      have ih := set_flat' f sz hf j hj v x y hxy l k (by simpa using h)
      rw [List.flatMap_cons, List.set_cons_succ, List.flatMap_cons, ← ih]
      have e : (k + 1) * sz + j = (f z).length + (k * sz + j) := by rw [hf, Nat.add_mul]; omega
      rw [e, List.set_append_right _ _ (Nat.le_add_right _ _)]
      congr 2
      omega

def Jn (o : List Ext) (x : Ext) (o' : List Ext) : Prop := (∃ y, o[o.length - 1]? = some y ∧ Fol y x ∧ o' = o.set (o.length - 1) ⟨y.a, y.n + x.n, y.q, y.p⟩) ∨ ((∀ y, o[o.length - 1]? = some y → ¬ Fol y x) ∧ o' = o ++ [x])
theorem join_spec (w : World) (H : Nat → Prop) (a : Option Addr) (c : Nat) (o : List Ext) (x : Ext) (hown : Sep [own 63 4 (.slice a o.length c) o.length (encE o)] w H) (ho : ∀ y ∈ o, inE y) (hx : inE x) (hbd : o.length ≤ 1000000) :
    Spec Tryz.prog 154 #[.slice a o.length c, .agg #[.int .i64 x.a, .int .i64 x.n, .int .i64 x.q, .int .i64 x.p]] w H (fun v A => ∃ a' c' o', v = .slice a' (List.length o') c' ∧ Jn o x o' ∧ A = [own 63 4 (.slice a' o'.length c') o'.length (encE o')]) := by
  have hx' := hx
  unfold inE at hx'
  refine Spec.enter (args := [.slice a o.length c, .agg #[.int .i64 x.a, .int .i64 x.n, .int .i64 x.q, .int .i64 x.p]]) (A := [own 63 4 (.slice a o.length c) o.length (encE o)]) Tryz.func154 rfl Tryz.ntmps154 rfl hown ?_
  ((refine X.st (by kernel_rfl) ?_<;>repeat' first|refine Z.p rfl ?_|refine XL.boxN rfl rfl rfl rfl (by intro g; infer_instance) (fun g => ?_)|refine XL.box1 rfl rfl rfl rfl rfl (by intro g; infer_instance) (fun g => ?_)|refine XL.nn ?_)<;>(refine X.st (by kernel_rfl) ?_<;>repeat' first|refine Z.p rfl ?_|refine Z.ln rfl rfl ?_|refine Z.lnL rfl rfl ?_|refine Z.lnS rfl rfl ?_|refine Z.g rfl (by omega) ?_|refine Z.w rfl ?_|refine XL.nn ?_)<;>refine X.seq ?_<;>((refine X.sd (.a 0 (.a 1 (.a 2 (.a 3 (.a 4 (.a 5 (.b 6 (.b 7 (.c 8 (.a 9 .n)))))))))) mixed (by kernel_rfl) ?_<;>repeat' first|refine XL.skipC rfl rfl rfl rfl ?_|refine Z.p rfl ?_|(refine XL.at 1 ?_;(first | refine XL.split0 rfl rfl rfl rfl (D.int rfl rfl rfl) (fun h1 => ?_) (fun h1 => ?_)))|(refine XL.at 5 ?_;(have hol : o.length - 1 < o.length := (by omega); obtain ⟨y, hy⟩ := get_lt hol; have hyi := ho y (List.mem_of_getElem? hy); have hyi' := hyi; unfold inE at hyi'; refine XL.fact (fun w h => (h.rd (a := a)).sm (by omega)) (fun hsome => ?_); (apply XL.det0 rfl rfl rfl rfl; exact D.indexAddr (o.length - 1) rfl rfl (by omega) hol hsome)))|(refine XL.at 6 ?_;((apply XL.det1 rfl rfl rfl rfl; exact D.loadN rfl rfl (fun w hw j u hu => Rd.extE (hw.rd (a := a)) hy j u hu))))|(refine XL.at 8 ?_;((refine XL.call rfl rfl rfl rfl (fun w hw => follows_spec y x hyi hx w) ?_; rintro v B' ⟨rfl, rfl⟩; refine XL.both ?_); (by_cases hf : Fol y x <;> first | rw [decide_eq_true hf] | rw [decide_eq_false hf])))|refine Z.l1 rfl rfl rfl ?_|refine Z.lN rfl rfl rfl ?_|refine Z.lP rfl rfl rfl ?_|refine Z.pk rfl rfl rfl rfl ?_|refine XL.nn ?_)<;>(refine X.cond rfl ?_ ?_;rotate_left;(focus (intro hc;first|exact no_ hc rfl|(refine X.skip ?_)));rotate_right;(focus (intro hc;first|exact no_ hc rfl|((refine X.sd (.a 0 (.a 1 (.a 2 (.a 3 (.a 4 (.b 5 (.a 6 (.a 7 (.b 8 (.a 9 (.a 10 (.a 11 (.a 12 (.f 13 .n)))))))))))))) mixed (by kernel_rfl) ?_<;>repeat' first|refine Z.p rfl ?_|(refine XL.at 2 ?_;((apply XL.det0 rfl rfl rfl rfl; exact D.indexAddr (o.length - 1) rfl rfl (by omega) hol hsome)))|(refine XL.at 5 ?_;((apply XL.det1 rfl rfl rfl rfl; exact D.load1 rfl (fun w hw => by have := Rd.extE (hw.rd (a := a)) hy 1 _ rfl; simpa [el_add] using this))))|(refine XL.at 10 ?_;((apply XL.det0 rfl rfl rfl rfl; exact D.indexAddr (o.length - 1) rfl rfl (by omega) hol hsome)))|(refine XL.at 13 ?_;((refine XL.storeE (encE (o.set (o.length - 1) ⟨y.a, y.n + x.n, y.q, y.p⟩)) rfl rfl rfl rfl rfl (by omega) (encE_setn o (o.length - 1) y (y.n + x.n) hy) ?_)))|refine Z.fa rfl rfl rfl ?_|refine Z.l1 rfl rfl rfl ?_|refine Z.lN rfl rfl rfl ?_|refine Z.lP rfl rfl rfl ?_|refine Z.g rfl (by omega) ?_|refine Z.w rfl ?_|refine XL.nn ?_)<;>(refine X.st (by kernel_rfl) ?_<;>repeat' first|refine Z.p rfl ?_|refine XL.nn ?_)<;>(apply X.r1 Tryz.results154 (RV.tmp rfl);(focus (first | (exact ⟨_, _, o ++ [x], rfl, .inr ⟨fun z hz => by rw [hy] at hz; cases hz; exact hf, rfl⟩, rfl⟩) | (exact ⟨_, _, o ++ [x], rfl, .inr ⟨fun z hz => by have := (List.getElem?_eq_some_iff.1 hz).1; omega, rfl⟩, rfl⟩) | (exact ⟨a, c, o.set (o.length - 1) ⟨y.a, y.n + x.n, y.q, y.p⟩, by rw [List.length_set], .inl ⟨y, hy, hf, rfl⟩, by rw [List.length_set]⟩)));exact fun _=>Conf.takes))))))<;>(first|refine Ex.then ?_|refine N.next ?_<;>((refine X.st (by kernel_rfl) ?_<;>repeat' first|refine Z.p rfl ?_|(refine XL.at 3 ?_;((refine XL.append rfl rfl rfl rfl rfl rfl ?_ ?_ (fun a' c' => ?_); (focus (skip; unfold maxLen; omega)); (focus (intro _ _; infer_instance))); rw [encE_snoc o x.a x.n x.q x.p, show o.length + 1 = (o ++ [(⟨x.a, x.n, x.q, x.p⟩ : Ext)]).length from (by simp)]))|refine Z.l1 rfl rfl rfl ?_|refine Z.lN rfl rfl rfl ?_|refine Z.lP rfl rfl rfl ?_|refine XL.slice1 rfl rfl rfl rfl rfl rfl (by intro g; infer_instance) (fun g_ => ?_)|refine XL.nn ?_)<;>(apply X.r1 Tryz.results154 (RV.tmp rfl);(focus (first | (exact ⟨_, _, o ++ [x], rfl, .inr ⟨fun z hz => by rw [hy] at hz; cases hz; exact hf, rfl⟩, rfl⟩) | (exact ⟨_, _, o ++ [x], rfl, .inr ⟨fun z hz => by have := (List.getElem?_eq_some_iff.1 hz).1; omega, rfl⟩, rfl⟩) | (exact ⟨a, c, o.set (o.length - 1) ⟨y.a, y.n + x.n, y.q, y.p⟩, by rw [List.length_set], .inl ⟨y, hy, hf, rfl⟩, by rw [List.length_set]⟩)));exact fun _=>Conf.takes))))

theorem Jn.step {lo : Int} {l o o' : List Ext} {i : Nat} {x : Ext} (h : Jn o x o') (hJ : JnI lo l i o) (hl : Rise lo l) (hx : l[i]? = some x) : JnI lo l (i + 1) o' := by
  rcases h with ⟨y, hy, hf, rfl⟩ | ⟨hn, rfl⟩
  · exact hJ.merge hl hx hy hf
  · exact hJ.push hl hx hn

theorem joinedE_spec (w : World) (a : Option Addr) (c : Nat) (l : List Ext) (lo : Int) (hl : Rd w 4 a l.length c (encE l)) (hr : Rise lo l) (hbd : l.length ≤ 1000000) :
    Spec Tryz.prog 129 #[.slice a l.length c] w (fun _ => False) (fun v A => ∃ a' c' o, v = .slice a' (List.length o) c' ∧ JnI lo l l.length o ∧ A = [own 63 4 (.slice a' o.length c') o.length (encE o)]) := by
  refine Spec.enter (args := [.slice a l.length c]) (A := []) Tryz.func129 rfl Tryz.ntmps129 rfl (fun _ h => h) ?_
  refine X.mem (B := [own 63 4 (.slice none ([] : List Ext).length 0) ([] : List Ext).length (encE [])]) (fun w h => h.nilOwn 63 4) ?_
  ((refine X.st (by kernel_rfl) ?_<;>repeat' first|refine Z.p rfl ?_|refine XL.nn ?_)<;>(refine X.st (by kernel_rfl) ?_<;>repeat' first|refine Z.p rfl ?_|refine XL.nn ?_)<;>refine X.seq ?_<;>((refine X.st (by kernel_rfl) ?_<;>repeat' first|refine Z.p rfl ?_|refine Z.ln rfl rfl ?_|refine Z.lnL rfl rfl ?_|refine Z.lnS rfl rfl ?_|refine XL.nn ?_)<;>refine X.block ?_<;>((refine X.loop (ι := Nat × List Ext × Option Addr × Nat) (fun x => [(3, .slice x.2.2.1 x.2.1.length x.2.2.2), (6, .slice a l.length c), (7, .int .i64 l.length), (8, .int .i64 x.1)]) (fun x => [own 63 4 (.slice x.2.2.1 x.2.1.length x.2.2.2) x.2.1.length (encE x.2.1)]) (fun x => JnI lo l x.1 x.2.1) (fun x => l.length - x.1) ((0, [], none, 0)) ?_ ?_ ?_ ?_; (focus (exact JnI.start)); (focus (repeat (first | exact Sub.nil | refine Sub.cons rfl ?_))); (focus (exact (fun w h => h.takes))); rintro ⟨i, o, a', c'⟩ hJ; (dsimp only at *; have hi := hJ.hi; have hol := hJ.len)) <;> ((refine X.st (by kernel_rfl) ?_<;>repeat' first|(refine XL.at 0 ?_;(first | refine XL.splitF rfl rfl rfl rfl (D.int rfl rfl rfl) (fun h0 => ?_) (fun h0 => ?_)))|refine XL.nn ?_)<;>refine X.seq ?_<;>((refine X.cond rfl ?_ ?_;rotate_left;(focus (intro hc;first|exact no_ hc rfl|(refine X.exit ?_)));rotate_right;(focus (intro hc;first|exact no_ hc rfl|(refine X.skip ?_)))))<;>(first|refine Ex.then ?_|refine N.next ?_<;>(refine X.seq ?_<;>(refine X.block ?_<;>((refine X.st (by kernel_rfl) ?_<;>repeat' first|(refine XL.at 0 ?_;(have hil : i < l.length := (by omega); obtain ⟨x, hx⟩ := get_lt hil; have hxi := (hr.at_i hx).2; (apply XL.detF rfl rfl rfl rfl; exact D.indexAddr i rfl rfl rfl hil (hl.sm (by omega)))))|(refine XL.at 1 ?_;((apply XL.detF rfl rfl rfl rfl; exact D.loadN rfl rfl (fun w hw j u hu => Rd.extE (Rd.conf0 hl hw) hx j u hu))))|refine XL.alloc rfl rfl rfl (by intro g; infer_instance) (fun g => ?_)|refine XL.store1 rfl rfl rfl rfl rfl ?_|refine XL.storeN rfl rfl rfl rfl rfl rfl ?_|refine XL.storeP rfl rfl rfl rfl rfl rfl ?_|refine XL.nn ?_)<;>refine X.tx (by kernel_rfl) ?_<;>repeat' first|refine Z.p rfl ?_|(refine XL.at 2 ?_;((refine XL.callH [own 63 4 (.slice a' o.length c') o.length (encE o)] rfl rfl rfl rfl (fun w F hF hw => join_spec w F a' c' o x hF (fun y hy => (hJ.rise.mem hy).1) hxi (by omega)) ?_; rintro v B' ⟨a2, c2, o2, rfl, hj, rfl⟩; refine XL.both ?_)))|refine Z.l1 rfl rfl rfl ?_|refine Z.lN rfl rfl rfl ?_|refine Z.lP rfl rfl rfl ?_|refine XL.nil ?_)<;>(first|refine N.block ?_|refine Ex.here ?_|refine Ex.out rfl ?_))<;>(first|refine Ex.then ?_|refine N.next ?_<;>(refine X.tx (by kernel_rfl) ?_<;>repeat' first|refine Z.p rfl ?_|refine Z.g rfl (by omega) ?_|refine Z.w rfl ?_|refine XL.nil ?_))))) <;> (first | refine Ex.then ?_ | ((refine N.again ((i + 1, o2, a2, c2)) ?_ ?_ ?_ ?_; (focus (exact hj.step hJ hr hx)); (focus (first | omega | (dsimp only; omega))); (focus (repeat (first | exact Sub.nil | refine Sub.cons rfl ?_))); exact (fun w h => h.takes)))))<;>(first|refine N.block ?_|refine Ex.here ?_|refine Ex.out rfl ?_))<;>(first|refine Ex.then ?_|refine N.next ?_<;>((refine X.st (by kernel_rfl) ?_<;>repeat' first|refine Z.p rfl ?_|refine XL.nn ?_)<;>(apply X.r1 Tryz.results129 (RV.tmp rfl);(focus ((obtain rfl : i = l.length := by omega); exact ⟨a', c', o, rfl, hJ, rfl⟩));exact fun _=>Conf.takes))))
end Go.Lx

/- Package extmap's walks, part c: the library's search, growth and joining of slices of extents. -/
namespace Go.Lx
open Go.Proofs
set_option linter.unusedVariables false
set_option linter.unusedSimpArgs false
set_option maxRecDepth 20000

theorem subA_zero (a : Option Addr) (sz m : Nat) : subA a sz 0 m = a := by
  unfold subA
  split
  · rfl
  · cases a with
    | none => rfl
    | some p => simp [Addr.add]
theorem half (n : Nat) (h : n ≤ 4000000) : IntKind.i64.wrap ((IntKind.u64.wrap (n : Int)).fdiv (2 ^ (min (Int.toNat 1) IntKind.u64.bits))) = ((n / 2 : Nat) : Int) := by
  have e1 : IntKind.u64.wrap (n : Int) = n := by
    have h1 : (n : Int) % 2 ^ 64 = n := by omega
    simp only [IntKind.wrap, IntKind.bits, IntKind.signed, h1]
    simp
  rw [e1]
  have e2 : (2 : Int) ^ (min (Int.toNat 1) IntKind.u64.bits) = 2 := by decide
  rw [e2, Int.fdiv_eq_ediv_of_nonneg _ (by decide)]
  have e3 : (n : Int) / 2 = ((n / 2 : Nat) : Int) := by omega
  rw [e3]
  exact D.wrap64_fit (by omega)
theorem rise_idx : ∀ (l : List Ext) (lo : Int) (i j : Nat) (x y : Ext), Rise lo l → i < j → l[i]? = some x → l[j]? = some y → x.a + x.n ≤ y.a := by
  intro l
  induction l with
  | nil => intro lo i j x y _ _ hx; cases hx
  | cons z l ih =>
    intro lo i j x y h hij hx hy
    cases j with
    | zero => omega
    | succ j =>
      rw [List.getElem?_cons_succ] at hy
      cases i with
      | zero =>
        rw [List.getElem?_cons_zero] at hx
        cases hx
        exact (h.2.2.mem (List.mem_of_getElem? hy)).2
      | succ i =>
        rw [List.getElem?_cons_succ] at hx
        exact ih _ i j x y h.2.2 (by omega) hx hy
theorem Rise.idx {lo : Int} {l : List Ext} {i j : Nat} {x y : Ext} (h : Rise lo l) (hij : i < j) (hx : l[i]? = some x) (hy : l[j]? = some y) : x.a + x.n ≤ y.a := rise_idx l lo i j x y h hij hx hy

theorem around1_spec (x : Ext) (hx : inE x) (t : Int) (ht : 0 ≤ t ∧ t ≤ 65536) (w : World) : Spec Tryz.prog 111 #[.agg #[.int .i64 x.a, .int .i64 x.n, .int .i64 x.q, .int .i64 x.p], .int .i64 t] w (fun _ => False) (fun v A => v = .int .i64 (x.a + x.n - t - 1) ∧ A = []) := by
  have hx' := hx
  unfold inE at hx'
  refine Spec.enter (args := [.agg #[.int .i64 x.a, .int .i64 x.n, .int .i64 x.q, .int .i64 x.p], .int .i64 t]) (A := []) Tryz.func111 rfl Tryz.ntmps111 rfl (fun _ h => h) ?_
  ((refine X.st (by kernel_rfl) ?_<;>repeat' first|refine Z.p rfl ?_|refine XL.boxN rfl rfl rfl rfl (by intro g; infer_instance) (fun g => ?_)|refine XL.box1 rfl rfl rfl rfl rfl (by intro g; infer_instance) (fun g => ?_)|refine XL.nn ?_)<;>(refine X.st (by kernel_rfl) ?_<;>repeat' first|refine Z.p rfl ?_|(refine XL.at 2 ?_;((refine XL.call rfl rfl rfl rfl (fun w hw => End_spec _ _ w) ?_; rintro v B' ⟨rfl, rfl⟩; refine XL.both ?_); rw [D.wrap64_fit (by omega)]))|refine Z.fa rfl rfl rfl ?_|refine Z.l1 rfl rfl rfl ?_|refine Z.lN rfl rfl rfl ?_|refine Z.lP rfl rfl rfl ?_|refine Z.g rfl (by omega) ?_|refine Z.w rfl ?_|refine XL.nn ?_)<;>(apply X.r1 Tryz.results111 (RV.tmp rfl);(focus (exact ⟨rfl, rfl⟩));exact fun _=>Conf.takes))

theorem Search_spec (w : World) (a : Option Addr) (c : Nat) (l : List Ext) (lo t : Int) (ht : 0 ≤ t ∧ t ≤ 65536) (hl : Rd w 4 a l.length c (encE l)) (hr : Rise lo l) (hbd : l.length ≤ 1000000) :
    Spec Tryz.prog 110 #[.slice a l.length c, .int .i64 t, .func (.func 111) #[] #[]] w (fun _ => False) (fun v A => ∃ (k : Nat) (b : Bool), v = .tuple #[.int .i64 k, .bool b] ∧ k ≤ l.length ∧ (∀ j x, j < k → l[j]? = some x → x.a + x.n ≤ t) ∧ (∀ j x, k ≤ j → l[j]? = some x → t < x.a + x.n) ∧ A = []) := by
  refine Spec.enter (args := [.slice a l.length c, .int .i64 t, .func (.func 111) #[] #[]]) (A := []) Tryz.func110 rfl Tryz.ntmps110 rfl (fun _ h => h) ?_
  ((refine X.st (by kernel_rfl) ?_<;>repeat' first|refine Z.p rfl ?_|refine XL.nn ?_)<;>(refine X.st (by kernel_rfl) ?_<;>repeat' first|refine Z.p rfl ?_|refine Z.ln rfl rfl ?_|refine Z.lnL rfl rfl ?_|refine Z.lnS rfl rfl ?_|refine XL.nn ?_)<;>(refine X.st (by kernel_rfl) ?_<;>repeat' first|refine Z.p rfl ?_|refine XL.nn ?_)<;>refine X.seq ?_<;>(refine X.block ?_<;>((refine X.loop (ι := Nat × Nat) (fun x => [(0, .slice a l.length c), (1, .int .i64 t), (2, .func (.func 111) #[] #[]), (8, .int .i64 l.length), (9, .int .i64 x.1), (10, .int .i64 x.2)]) (fun _ => []) (fun x => x.1 ≤ x.2 ∧ x.2 ≤ l.length ∧ (∀ j y, j < x.1 → l[j]? = some y → y.a + y.n ≤ t) ∧ (∀ j y, x.2 ≤ j → l[j]? = some y → t < y.a + y.n)) (fun x => x.2 - x.1) ((0, l.length)) ?_ ?_ ?_ ?_; (focus (exact ⟨Nat.zero_le _, Nat.le_refl _, fun j y hj => absurd hj (Nat.not_lt_zero j), fun j y hj hy => by have := (List.getElem?_eq_some_iff.1 hy).1; dsimp only at hj; omega⟩)); (focus (repeat (first | exact Sub.nil | refine Sub.cons rfl ?_))); (focus (exact (fun w h => h.takes))); rintro ⟨i, j⟩ ⟨h1, h2, h3, h4⟩; (dsimp only at *)) <;> (refine X.seq ?_<;>((refine X.st (by kernel_rfl) ?_<;>repeat' first|refine Z.p rfl ?_|(refine XL.at 2 ?_;(first | refine XL.splitF rfl rfl rfl rfl (D.int rfl rfl rfl) (fun h0 => ?_) (fun h0 => ?_)))|refine XL.nn ?_)<;>(refine X.cond rfl ?_ ?_;rotate_left;(focus (intro hc;first|exact no_ hc rfl|(refine X.exit ?_)));rotate_right;(focus (intro hc;first|exact no_ hc rfl|(refine X.skip ?_)))))<;>(first|refine Ex.then ?_|refine N.next ?_<;>(refine X.block ?_<;>((refine X.st (by kernel_rfl) ?_<;>repeat' first|refine Z.p rfl ?_|(refine XL.at 4 ?_;((apply XL.det0F rfl rfl rfl rfl; exact D.shr rfl rfl (by decide))))|(refine XL.at 5 ?_;((apply XL.det0F rfl rfl rfl rfl; exact D.conv rfl); rw [show ((i : Int) + (j : Int)) = ((i + j : Nat) : Int) from (by omega), half (i + j) (by omega)]; obtain ⟨m, hm⟩ : ∃ m, (i + j) / 2 = m := (⟨_, rfl⟩); rw [hm]; have hmi : i ≤ m ∧ m < j := (by omega)))|refine Z.g rfl (by omega) ?_|refine Z.w rfl ?_|refine Z.cv rfl rfl ?_|refine XL.nn ?_)<;>(refine X.st (by kernel_rfl) ?_<;>repeat' first|refine Z.p rfl ?_|(refine XL.at 3 ?_;(have hml : m < l.length := (by omega); obtain ⟨y, hy⟩ := get_lt hml; have hyi := (hr.mem (List.mem_of_getElem? hy)).1; have hyi' := hyi; unfold inE at hyi'; (apply XL.det0F rfl rfl rfl rfl; exact D.indexAddr m rfl rfl rfl hml (hl.sm (by omega)))))|(refine XL.at 4 ?_;((apply XL.detF rfl rfl rfl rfl; exact D.loadN rfl rfl (fun w hw j u hu => Rd.extE (Rd.conf0 hl hw) hy j u hu))))|(refine XL.at 6 ?_;((refine XL.callV (fs := []) (cps := []) rfl rfl rfl rfl rfl (fun w hw => around1_spec y hyi t ht w) ?_; rintro v B' ⟨rfl, rfl⟩; refine XL.both ?_)))|(refine XL.at 7 ?_;(first | refine XL.splitF rfl rfl rfl rfl (D.int rfl rfl rfl) (fun h5 => ?_) (fun h5 => ?_)))|refine XL.nn ?_)<;>(refine X.cond rfl ?_ ?_;rotate_left;(focus (intro hc;first|exact no_ hc rfl|(refine X.tx (by kernel_rfl) ?_<;>repeat' first|refine Z.p rfl ?_|refine XL.nil ?_)));rotate_right;(focus (intro hc;first|exact no_ hc rfl|(refine X.tx (by kernel_rfl) ?_<;>repeat' first|refine Z.p rfl ?_|refine Z.g rfl (by omega) ?_|refine Z.w rfl ?_|refine XL.nil ?_)))))<;>(first|refine N.block ?_|refine Ex.here ?_|refine Ex.out rfl ?_)))) <;> (first | refine Ex.then ?_ | (first | (refine N.again ((m + 1, j)) ?_ ?_ ?_ ?_; (focus (exact ⟨by dsimp only; omega, h2, fun k z hk hz => by dsimp only at hk; by_cases e : k = m; subst e; rw [hy] at hz; cases hz; omega; have := hr.idx (by omega : k < m) hz hy; omega, h4⟩)); (focus (first | omega | (dsimp only; omega))); (focus (repeat (first | exact Sub.nil | refine Sub.cons rfl ?_))); exact (fun w h => h.takes)) | (refine N.again ((i, m)) ?_ ?_ ?_ ?_; (focus (exact ⟨hmi.1, by dsimp only; omega, h3, fun k z hk hz => by dsimp only at hk; by_cases e : k = m; subst e; rw [hy] at hz; cases hz; omega; have := hr.idx (by omega : m < k) hy hz; have hzi := (hr.mem (List.mem_of_getElem? hz)).1; unfold inE at hzi; omega⟩)); (focus (first | omega | (dsimp only; omega))); (focus (repeat (first | exact Sub.nil | refine Sub.cons rfl ?_))); exact (fun w h => h.takes)))))<;>(first|refine N.block ?_|refine Ex.here ?_|refine Ex.out rfl ?_))<;>(first|refine Ex.then ?_|refine N.next ?_<;>((refine X.st (by kernel_rfl) ?_<;>repeat' first|refine Z.p rfl ?_|(refine XL.at 3 ?_;(first | refine XL.splitF rfl rfl rfl rfl (D.int rfl rfl rfl) (fun h6 => ?_) (fun h6 => ?_)))|(refine XL.at 8 ?_;(have hil : i < l.length := (by omega); obtain ⟨y, hy⟩ := get_lt hil; have hyi := (hr.mem (List.mem_of_getElem? hy)).1; (apply XL.det0F rfl rfl rfl rfl; exact D.indexAddr i rfl rfl rfl hil (hl.sm (by omega)))))|(refine XL.at 9 ?_;((apply XL.detF rfl rfl rfl rfl; exact D.loadN rfl rfl (fun w hw j u hu => Rd.extE (Rd.conf0 hl hw) hy j u hu))))|(refine XL.at 11 ?_;((refine XL.callV (fs := []) (cps := []) rfl rfl rfl rfl rfl (fun w hw => around1_spec y hyi t ht w) ?_; rintro v B' ⟨rfl, rfl⟩; refine XL.both ?_)))|refine Z.ct rfl (by omega) ?_|refine Z.cf rfl (by omega) ?_|refine Z.cs rfl (fun _=>?_) (fun _=>?_)|refine Z.pk rfl rfl rfl rfl ?_|refine XL.nn ?_)<;>(apply X.r2 Tryz.results110 (RV.tmp rfl) (RV.tmp rfl);(focus (exact ⟨i, _, rfl, by omega, h3, fun k z hk hz => h4 k z (by omega) hz, rfl⟩));exact fun _=>Conf.takes))))

theorem Grow_spec (w : World) (n : Nat) (hn : n ≤ 1000000) : Spec Tryz.prog 142 #[.slice none 0 0, .int .i64 n] w (fun _ => False) (fun v A => ∃ a' c', v = .slice a' 0 c' ∧ A = [own 63 4 (.slice a' 0 c') 0 []]) := by
  refine Spec.enter (args := [.slice none 0 0, .int .i64 n]) (A := []) Tryz.func142 rfl Tryz.ntmps142 rfl (fun _ h => h) ?_
  refine X.mem (B := [own 63 4 (.slice none 0 0) 0 []]) (fun w h => h.nilOwn 63 4) ?_
  ((refine X.st (by kernel_rfl) ?_<;>repeat' first|refine Z.p rfl ?_|refine XL.nn ?_)<;>refine X.seq ?_<;>((refine X.st (by kernel_rfl) ?_<;>repeat' first|refine Z.p rfl ?_|refine Z.ct rfl (by omega) ?_|refine Z.cf rfl (by omega) ?_|refine Z.cs rfl (fun _=>?_) (fun _=>?_)|refine XL.nn ?_)<;>(refine X.cond rfl ?_ ?_;rotate_left;(focus (intro hc;first|exact no_ hc rfl|(refine X.skip ?_)));rotate_right;(focus (intro hc;first|exact no_ hc rfl|(refine X.tx (by kernel_rfl) ?_<;>repeat' first|fail "op makeInterface"|fail "op panic"|refine XL.nil ?_)))))<;>(first|refine Ex.then ?_|refine N.next ?_<;>(refine X.seq ?_<;>((refine X.st (by kernel_rfl) ?_<;>repeat' first|refine Z.p rfl ?_|(refine XL.at 6 ?_;((apply XL.det0F rfl rfl rfl rfl; exact D.sub64 rfl rfl (by omega)); rw [show (n : Int) - (((0 : Nat) : Int) - ((0 : Nat) : Int)) = (n : Int) from (by omega)]))|refine Z.cap rfl rfl ?_|refine Z.ln rfl rfl ?_|refine Z.lnL rfl rfl ?_|refine Z.lnS rfl rfl ?_|refine Z.g rfl (by omega) ?_|refine Z.w rfl ?_|refine XL.nn ?_)<;>(refine X.st (by kernel_rfl) ?_<;>repeat' first|refine Z.p rfl ?_|refine Z.ct rfl (by omega) ?_|refine Z.cf rfl (by omega) ?_|refine Z.cs rfl (fun _=>?_) (fun _=>?_)|refine XL.nn ?_)<;>(refine X.cond rfl ?_ ?_;rotate_left;(focus (intro hc;first|exact no_ hc rfl|(refine X.skip ?_)));rotate_right;(focus (intro hc;first|exact no_ hc rfl|(refine X.tx (by kernel_rfl) ?_<;>repeat' first|refine Z.p rfl ?_|(refine XL.at 3 ?_;((apply XL.det0F rfl rfl rfl rfl; exact D.sliceH (h := 0) rfl rfl (by omega)); rw [subA_zero]))|(refine XL.at 5 ?_;((refine XL.appendZ rfl rfl rfl rfl rfl (by omega) (by unfold maxLen; omega) (fun _ _ => by infer_instance) (fun g c' hc' => ?_))))|(refine XL.at 8 ?_;((apply XL.det0F rfl rfl rfl rfl; exact D.sliceH (h := 0) rfl rfl (by omega)); rw [subA_zero]))|refine Z.cap rfl rfl ?_|refine Z.ln rfl rfl ?_|refine Z.lnL rfl rfl ?_|refine Z.lnS rfl rfl ?_|refine XL.nil ?_)))))<;>(first|refine Ex.then ?_|refine N.next ?_<;>((refine X.st (by kernel_rfl) ?_<;>repeat' first|refine Z.p rfl ?_|refine XL.nn ?_)<;>(apply X.r1 Tryz.results142 (RV.tmp rfl);(focus (exact ⟨_, _, rfl, rfl⟩));exact fun _=>Conf.takes))))))
end Go.Lx
