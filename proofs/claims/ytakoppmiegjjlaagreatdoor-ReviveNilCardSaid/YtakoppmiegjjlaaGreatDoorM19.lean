/- Texts Eb Ec Ed, merged: a claim has at most 60 files. -/
import Derived.Test.YtakoppmiegjjlaaGreatDoorM4
import Derived.Test.YtakoppmiegjjlaaGreatDoorM18
import Derived.Test.YtakoppmiegjjlaaGreatDoorM3
/- Package extmap's walks, part b: extents that rise are joined. -/
namespace Go.Lx
open Go.Proofs
set_option linter.unusedVariables false
set_option linter.unusedSimpArgs false
set_option maxRecDepth 20000

theorem encE_setn (o : List Ext) (k : Nat) (y : Ext) (n : Int) (h : o[k]? = some y) : putAt (encE o) (k * 4 + 1) [.int .i64 n] = encE (o.set k ⟨y.a, n, y.q, y.p⟩) := by
  have hk := (List.getElem?_eq_some_iff.1 h).1
  rw [putAt_one' _ _ _ (by rw [encE_len]; omega)]
  exact set_flat' encE1 4 (fun _ => rfl) 1 (by omega) (.int .i64 n) ⟨y.a, n, y.q, y.p⟩ y rfl o k h
where
  putAt_one' (xs : List Value) (k : Nat) (v : Value) (h : k < xs.length) : putAt xs k [v] = xs.set k v := by
    unfold putAt
    exact list_set_parts xs k v h
  set_flat' {α : Type} (f : α → List Value) (sz : Nat) (hf : ∀ x, (f x).length = sz) (j : Nat) (hj : j < sz) (v : Value) (x y : α) (hxy : (f y).set j v = f x) : ∀ (l : List α) (k : Nat), l[k]? = some y → (l.flatMap f).set (k * sz + j) v = (l.set k x).flatMap f
    | [], k, h => by cases h
    | z :: l, 0, h => by
      simp at h
      subst h
      rw [Nat.zero_mul, Nat.zero_add, List.flatMap_cons, List.set_append_left _ _ (by rw [hf]; exact hj), hxy, List.set_cons_zero, List.flatMap_cons]
    | z :: l, k + 1, h => by
      have ih := set_flat' f sz hf j hj v x y hxy l k (by simpa using h)
      rw [List.flatMap_cons, List.set_cons_succ, List.flatMap_cons, ← ih]
      have e : (k + 1) * sz + j = (f z).length + (k * sz + j) := by rw [hf, Nat.add_mul]; omega
      rw [e, List.set_append_right _ _ (Nat.le_add_right _ _)]
      congr 2
      omega

def Jn (o : List Ext) (x : Ext) (o' : List Ext) : Prop := (∃ y, o[o.length - 1]? = some y ∧ Fol y x ∧ o' = o.set (o.length - 1) ⟨y.a, y.n + x.n, y.q, y.p⟩) ∨ ((∀ y, o[o.length - 1]? = some y → ¬ Fol y x) ∧ o' = o ++ [x])
theorem join_spec (w : World) (H : Nat → Prop) (a : Option Addr) (c : Nat) (o : List Ext) (x : Ext) (hown : Sep [own 105 4 (.slice a o.length c) o.length (encE o)] w H) (ho : ∀ y ∈ o, inE y) (hx : inE x) (hbd : o.length ≤ 1000000) :
    Spec Tryz.prog 258 #[.slice a o.length c, .agg #[.int .i64 x.a, .int .i64 x.n, .int .i64 x.q, .int .i64 x.p]] w H (fun v A => ∃ a' c' o', v = .slice a' (List.length o') c' ∧ Jn o x o' ∧ A = [own 105 4 (.slice a' o'.length c') o'.length (encE o')]) := by
  have hx' := hx
  unfold inE at hx'
  refine Spec.enter (args := [.slice a o.length c, .agg #[.int .i64 x.a, .int .i64 x.n, .int .i64 x.q, .int .i64 x.p]]) (A := [own 105 4 (.slice a o.length c) o.length (encE o)]) Tryz.func258 rfl Tryz.ntmps258 rfl hown ?_
  ((refine X.st (by kernel_rfl) ?_<;>repeat' first|refine Z.p rfl ?_|refine XL.boxN rfl rfl rfl rfl (by intro g; infer_instance) (fun g => ?_)|refine XL.box1 rfl rfl rfl rfl rfl (by intro g; infer_instance) (fun g => ?_)|refine XL.nn ?_)<;>(refine X.st (by kernel_rfl) ?_<;>repeat' first|refine Z.p rfl ?_|refine Z.ln rfl rfl ?_|refine Z.lnL rfl rfl ?_|refine Z.lnS rfl rfl ?_|refine Z.g rfl (by omega) ?_|refine Z.w rfl ?_|refine XL.nn ?_)<;>refine X.seq ?_<;>((refine X.sd (.a 0 (.a 1 (.a 2 (.a 3 (.a 4 (.a 5 (.b 6 (.b 7 (.c 8 (.a 9 .n)))))))))) mixed (by kernel_rfl) ?_<;>repeat' first|refine XL.skipC rfl rfl rfl rfl ?_|refine Z.p rfl ?_|(refine XL.at 1 ?_;(first | refine XL.split0 rfl rfl rfl rfl (D.int rfl rfl rfl) (fun h1 => ?_) (fun h1 => ?_)))|(refine XL.at 5 ?_;(have hol : o.length - 1 < o.length := (by omega); obtain ⟨y, hy⟩ := get_lt hol; have hyi := ho y (List.mem_of_getElem? hy); have hyi' := hyi; unfold inE at hyi'; refine XL.fact (fun w h => (h.rd (a := a)).sm (by omega)) (fun hsome => ?_); (apply XL.det0 rfl rfl rfl rfl; exact D.indexAddr (o.length - 1) rfl rfl (by omega) hol hsome)))|(refine XL.at 6 ?_;((apply XL.det1 rfl rfl rfl rfl; exact D.loadN rfl rfl (fun w hw j u hu => Rd.extE (hw.rd (a := a)) hy j u hu))))|(refine XL.at 8 ?_;((refine XL.call rfl rfl rfl rfl (fun w hw => follows_spec y x hyi hx w) ?_; rintro v B' ⟨rfl, rfl⟩; refine XL.both ?_); (by_cases hf : Fol y x <;> first | rw [decide_eq_true hf] | rw [decide_eq_false hf])))|refine Z.l1 rfl rfl rfl ?_|refine Z.lN rfl rfl rfl ?_|refine Z.lP rfl rfl rfl ?_|refine Z.pk rfl rfl rfl rfl ?_|refine XL.nn ?_)<;>(refine X.cond rfl ?_ ?_;rotate_left;(focus (intro hc;first|exact no_ hc rfl|(refine X.skip ?_)));rotate_right;(focus (intro hc;first|exact no_ hc rfl|((refine X.sd (.a 0 (.a 1 (.a 2 (.a 3 (.a 4 (.b 5 (.a 6 (.a 7 (.b 8 (.a 9 (.a 10 (.a 11 (.a 12 (.f 13 .n)))))))))))))) mixed (by kernel_rfl) ?_<;>repeat' first|refine Z.p rfl ?_|(refine XL.at 2 ?_;((apply XL.det0 rfl rfl rfl rfl; exact D.indexAddr (o.length - 1) rfl rfl (by omega) hol hsome)))|(refine XL.at 5 ?_;((apply XL.det1 rfl rfl rfl rfl; exact D.load1 rfl (fun w hw => by have := Rd.extE (hw.rd (a := a)) hy 1 _ rfl; simpa [el_add] using this))))|(refine XL.at 10 ?_;((apply XL.det0 rfl rfl rfl rfl; exact D.indexAddr (o.length - 1) rfl rfl (by omega) hol hsome)))|(refine XL.at 13 ?_;((refine XL.storeE (encE (o.set (o.length - 1) ⟨y.a, y.n + x.n, y.q, y.p⟩)) rfl rfl rfl rfl rfl (by omega) (encE_setn o (o.length - 1) y (y.n + x.n) hy) ?_)))|refine Z.fa rfl rfl rfl ?_|refine Z.l1 rfl rfl rfl ?_|refine Z.lN rfl rfl rfl ?_|refine Z.lP rfl rfl rfl ?_|refine Z.g rfl (by omega) ?_|refine Z.w rfl ?_|refine XL.nn ?_)<;>(refine X.st (by kernel_rfl) ?_<;>repeat' first|refine Z.p rfl ?_|refine XL.nn ?_)<;>(apply X.r1 Tryz.results258 (RV.tmp rfl);(focus (first | (exact ⟨_, _, o ++ [x], rfl, .inr ⟨fun z hz => by rw [hy] at hz; cases hz; exact hf, rfl⟩, rfl⟩) | (exact ⟨_, _, o ++ [x], rfl, .inr ⟨fun z hz => by have := (List.getElem?_eq_some_iff.1 hz).1; omega, rfl⟩, rfl⟩) | (exact ⟨a, c, o.set (o.length - 1) ⟨y.a, y.n + x.n, y.q, y.p⟩, by rw [List.length_set], .inl ⟨y, hy, hf, rfl⟩, by rw [List.length_set]⟩)));exact fun _=>Conf.takes))))))<;>(first|refine Ex.then ?_|refine N.next ?_<;>((refine X.st (by kernel_rfl) ?_<;>repeat' first|refine Z.p rfl ?_|(refine XL.at 3 ?_;((refine XL.append rfl rfl rfl rfl rfl rfl ?_ ?_ (fun a' c' => ?_); (focus (skip; unfold maxLen; omega)); (focus (intro _ _; infer_instance))); rw [encE_snoc o x.a x.n x.q x.p, show o.length + 1 = (o ++ [(⟨x.a, x.n, x.q, x.p⟩ : Ext)]).length from (by simp)]))|refine Z.l1 rfl rfl rfl ?_|refine Z.lN rfl rfl rfl ?_|refine Z.lP rfl rfl rfl ?_|refine XL.slice1 rfl rfl rfl rfl rfl rfl (by intro g; infer_instance) (fun g_ => ?_)|refine XL.nn ?_)<;>(apply X.r1 Tryz.results258 (RV.tmp rfl);(focus (first | (exact ⟨_, _, o ++ [x], rfl, .inr ⟨fun z hz => by rw [hy] at hz; cases hz; exact hf, rfl⟩, rfl⟩) | (exact ⟨_, _, o ++ [x], rfl, .inr ⟨fun z hz => by have := (List.getElem?_eq_some_iff.1 hz).1; omega, rfl⟩, rfl⟩) | (exact ⟨a, c, o.set (o.length - 1) ⟨y.a, y.n + x.n, y.q, y.p⟩, by rw [List.length_set], .inl ⟨y, hy, hf, rfl⟩, by rw [List.length_set]⟩)));exact fun _=>Conf.takes))))

theorem Jn.step {lo : Int} {l o o' : List Ext} {i : Nat} {x : Ext} (h : Jn o x o') (hJ : JnI lo l i o) (hl : Rise lo l) (hx : l[i]? = some x) : JnI lo l (i + 1) o' := by
  rcases h with ⟨y, hy, hf, rfl⟩ | ⟨hn, rfl⟩
  · exact hJ.merge hl hx hy hf
  · exact hJ.push hl hx hn

theorem joinedE_spec (w : World) (a : Option Addr) (c : Nat) (l : List Ext) (lo : Int) (hl : Rd w 4 a l.length c (encE l)) (hr : Rise lo l) (hbd : l.length ≤ 1000000) :
    Spec Tryz.prog 209 #[.slice a l.length c] w (fun _ => False) (fun v A => ∃ a' c' o, v = .slice a' (List.length o) c' ∧ JnI lo l l.length o ∧ A = [own 105 4 (.slice a' o.length c') o.length (encE o)]) := by
  refine Spec.enter (args := [.slice a l.length c]) (A := []) Tryz.func209 rfl Tryz.ntmps209 rfl (fun _ h => h) ?_
  refine X.mem (B := [own 105 4 (.slice none ([] : List Ext).length 0) ([] : List Ext).length (encE [])]) (fun w h => h.nilOwn 105 4) ?_
  ((refine X.st (by kernel_rfl) ?_<;>repeat' first|refine Z.p rfl ?_|refine XL.nn ?_)<;>(refine X.st (by kernel_rfl) ?_<;>repeat' first|refine Z.p rfl ?_|refine XL.nn ?_)<;>refine X.seq ?_<;>((refine X.st (by kernel_rfl) ?_<;>repeat' first|refine Z.p rfl ?_|refine Z.ln rfl rfl ?_|refine Z.lnL rfl rfl ?_|refine Z.lnS rfl rfl ?_|refine XL.nn ?_)<;>refine X.block ?_<;>((refine X.loop (ι := Nat × List Ext × Option Addr × Nat) (fun x => [(3, .slice x.2.2.1 x.2.1.length x.2.2.2), (6, .slice a l.length c), (7, .int .i64 l.length), (8, .int .i64 x.1)]) (fun x => [own 105 4 (.slice x.2.2.1 x.2.1.length x.2.2.2) x.2.1.length (encE x.2.1)]) (fun x => JnI lo l x.1 x.2.1) (fun x => l.length - x.1) ((0, [], none, 0)) ?_ ?_ ?_ ?_; (focus (exact JnI.start)); (focus (repeat (first | exact Sub.nil | refine Sub.cons rfl ?_))); (focus (exact (fun w h => h.takes))); rintro ⟨i, o, a', c'⟩ hJ; (dsimp only at *; have hi := hJ.hi; have hol := hJ.len)) <;> ((refine X.st (by kernel_rfl) ?_<;>repeat' first|(refine XL.at 0 ?_;(first | refine XL.splitF rfl rfl rfl rfl (D.int rfl rfl rfl) (fun h0 => ?_) (fun h0 => ?_)))|refine XL.nn ?_)<;>refine X.seq ?_<;>((refine X.cond rfl ?_ ?_;rotate_left;(focus (intro hc;first|exact no_ hc rfl|(refine X.exit ?_)));rotate_right;(focus (intro hc;first|exact no_ hc rfl|(refine X.skip ?_)))))<;>(first|refine Ex.then ?_|refine N.next ?_<;>(refine X.seq ?_<;>(refine X.block ?_<;>((refine X.st (by kernel_rfl) ?_<;>repeat' first|(refine XL.at 0 ?_;(have hil : i < l.length := (by omega); obtain ⟨x, hx⟩ := get_lt hil; have hxi := (hr.at_i hx).2; (apply XL.detF rfl rfl rfl rfl; exact D.indexAddr i rfl rfl rfl hil (hl.sm (by omega)))))|(refine XL.at 1 ?_;((apply XL.detF rfl rfl rfl rfl; exact D.loadN rfl rfl (fun w hw j u hu => Rd.extE (Rd.conf0 hl hw) hx j u hu))))|refine XL.alloc rfl rfl rfl (by intro g; infer_instance) (fun g => ?_)|refine XL.store1 rfl rfl rfl rfl rfl ?_|refine XL.storeN rfl rfl rfl rfl rfl rfl ?_|refine XL.storeP rfl rfl rfl rfl rfl rfl ?_|refine XL.nn ?_)<;>refine X.tx (by kernel_rfl) ?_<;>repeat' first|refine Z.p rfl ?_|(refine XL.at 2 ?_;((refine XL.callH [own 105 4 (.slice a' o.length c') o.length (encE o)] rfl rfl rfl rfl (fun w F hF hw => join_spec w F a' c' o x hF (fun y hy => (hJ.rise.mem hy).1) hxi (by omega)) ?_; rintro v B' ⟨a2, c2, o2, rfl, hj, rfl⟩; refine XL.both ?_)))|refine Z.l1 rfl rfl rfl ?_|refine Z.lN rfl rfl rfl ?_|refine Z.lP rfl rfl rfl ?_|refine XL.nil ?_)<;>(first|refine N.block ?_|refine Ex.here ?_|refine Ex.out rfl ?_))<;>(first|refine Ex.then ?_|refine N.next ?_<;>(refine X.tx (by kernel_rfl) ?_<;>repeat' first|refine Z.p rfl ?_|refine Z.g rfl (by omega) ?_|refine Z.w rfl ?_|refine XL.nil ?_))))) <;> (first | refine Ex.then ?_ | ((refine N.again ((i + 1, o2, a2, c2)) ?_ ?_ ?_ ?_; (focus (exact hj.step hJ hr hx)); (focus (first | omega | (dsimp only; omega))); (focus (repeat (first | exact Sub.nil | refine Sub.cons rfl ?_))); exact (fun w h => h.takes)))))<;>(first|refine N.block ?_|refine Ex.here ?_|refine Ex.out rfl ?_))<;>(first|refine Ex.then ?_|refine N.next ?_<;>((refine X.st (by kernel_rfl) ?_<;>repeat' first|refine Z.p rfl ?_|refine XL.nn ?_)<;>(apply X.r1 Tryz.results209 (RV.tmp rfl);(focus ((obtain rfl : i = l.length := by omega); exact ⟨a', c', o, rfl, hJ, rfl⟩));exact fun _=>Conf.takes))))
end Go.Lx

/- Package extmap's walks, part c: the library's search, growth and joining of slices of extents. -/
namespace Go.Lx
open Go.Proofs
set_option linter.unusedVariables false
set_option linter.unusedSimpArgs false
set_option maxRecDepth 20000

theorem rise_idx : ∀ (l : List Ext) (lo : Int) (i j : Nat) (x y : Ext), Rise lo l → i < j → l[i]? = some x → l[j]? = some y → x.a + x.n ≤ y.a := by
  intro l
  induction l with
  | nil => intro lo i j x y _ _ hx; cases hx
  | cons z l ih =>
    intro lo i j x y h hij hx hy
    cases j with
    | zero => omega
    | succ j =>
      rw [List.getElem?_cons_succ] at hy
      cases i with
      | zero =>
        rw [List.getElem?_cons_zero] at hx
        cases hx
        exact (h.2.2.mem (List.mem_of_getElem? hy)).2
      | succ i =>
        rw [List.getElem?_cons_succ] at hx
        exact ih _ i j x y h.2.2 (by omega) hx hy
theorem Rise.idx {lo : Int} {l : List Ext} {i j : Nat} {x y : Ext} (h : Rise lo l) (hij : i < j) (hx : l[i]? = some x) (hy : l[j]? = some y) : x.a + x.n ≤ y.a := rise_idx l lo i j x y h hij hx hy

end Go.Lx

/- Package extmap's walks, part d: slices of extents, one behind the other. -/
namespace Go.Lx
open Go.Proofs
set_option linter.unusedVariables false
set_option linter.unusedSimpArgs false
set_option maxRecDepth 20000

/-- A slice of extents, and what it holds. -/
structure Sle where
  a : Option Addr
  c : Nat
  l : List Ext
  deriving Inhabited
end Go.Lx
