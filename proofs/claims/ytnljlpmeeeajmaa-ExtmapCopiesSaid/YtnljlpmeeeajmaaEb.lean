/- Package extmap's walks, part b: extents that rise are joined. -/
import Derived.Test.YtnljlpmeeeajmaaEa
import Derived.Test.YtnljlpmeeeajmaaXg
namespace Go.Lx
open Go.Proofs
set_option linter.unusedVariables false
set_option linter.unusedSimpArgs false
set_option maxRecDepth 20000

theorem encE_setn (o : List Ext) (k : Nat) (y : Ext) (n : Int) (h : o[k]? = some y) : putAt (encE o) (k * 4 + 1) [.int .i64 n] = encE (o.set k ⟨y.a, n, y.q, y.p⟩) := by
  have hk := (List.getElem?_eq_some_iff.1 h).1
  rw [putAt_one' _ _ _ (by rw [encE_len]; omega)]
  exact set_flat' encE1 4 (fun _ => rfl) 1 (by omega) (.int .i64 n) ⟨y.a, n, y.q, y.p⟩ y rfl o k h
where
  putAt_one' (xs : List Value) (k : Nat) (v : Value) (h : k < xs.length) : putAt xs k [v] = xs.set k v := by
    unfold putAt
    exact list_set_parts xs k v h
  set_flat' {α : Type} (f : α → List Value) (sz : Nat) (hf : ∀ x, (f x).length = sz) (j : Nat) (hj : j < sz) (v : Value) (x y : α) (hxy : (f y).set j v = f x) : ∀ (l : List α) (k : Nat), l[k]? = some y → (l.flatMap f).set (k * sz + j) v = (l.set k x).flatMap f
    | [], k, h => by cases h
    | z :: l, 0, h => by
      simp at h
      subst h
      rw [Nat.zero_mul, Nat.zero_add, List.flatMap_cons, List.set_append_left _ _ (by rw [hf]; exact hj), hxy, List.set_cons_zero, List.flatMap_cons]
    | z :: l, k + 1, h => by
      have ih := set_flat' f sz hf j hj v x y hxy l k (by simpa using h)
      rw [List.flatMap_cons, List.set_cons_succ, List.flatMap_cons, ← ih]
      have e : (k + 1) * sz + j = (f z).length + (k * sz + j) := by rw [hf, Nat.add_mul]; omega
      rw [e, List.set_append_right _ _ (Nat.le_add_right _ _)]
      congr 2
      omega

def Jn (o : List Ext) (x : Ext) (o' : List Ext) : Prop := (∃ y, o[o.length - 1]? = some y ∧ Fol y x ∧ o' = o.set (o.length - 1) ⟨y.a, y.n + x.n, y.q, y.p⟩) ∨ ((∀ y, o[o.length - 1]? = some y → ¬ Fol y x) ∧ o' = o ++ [x])
theorem join_spec (w : World) (H : Nat → Prop) (a : Option Addr) (c : Nat) (o : List Ext) (x : Ext) (hown : Sep [own 30 4 (.slice a o.length c) o.length (encE o)] w H) (ho : ∀ y ∈ o, inE y) (hx : inE x) (hbd : o.length ≤ 1000000) :
    Spec Try.prog 53 #[.slice a o.length c, .agg #[.int .i64 x.a, .int .i64 x.n, .int .i64 x.q, .int .i64 x.p]] w H (fun v A => ∃ a' c' o', v = .slice a' (List.length o') c' ∧ Jn o x o' ∧ A = [own 30 4 (.slice a' o'.length c') o'.length (encE o')]) := by
  have hx' := hx
  unfold inE at hx'
  refine Spec.enter (args := [.slice a o.length c, .agg #[.int .i64 x.a, .int .i64 x.n, .int .i64 x.q, .int .i64 x.p]]) (A := [own 30 4 (.slice a o.length c) o.length (encE o)]) Try.func53 rfl Try.ntmps53 rfl hown ?_
  (refine X.seq ?_ <;> (refine X.text (L := (.op .fin 0 (.op .fin 1 .nil))) rfl ?_ <;>
    (first | refine XL.boxN rfl rfl rfl rfl (by intro g; infer_instance) (fun g => ?_) | refine XL.box1 rfl rfl rfl rfl rfl (by intro g; infer_instance) (fun g => ?_)) <;>
    ((apply XL.det0F rfl rfl rfl rfl; exact D.assign rfl)) <;>
    (refine XL.nil ?_)) <;> (first | refine Ex.then ?_ | (refine N.next ?_ <;> (refine X.seq ?_ <;> (refine X.text (L := (.op .fin 0 (.op .fin 1 (.op .fin 2 (.op .fin 3 .nil))))) rfl ?_ <;>
    ((apply XL.det0F rfl rfl rfl rfl; exact D.move rfl)) <;>
    ((apply XL.det0F rfl rfl rfl rfl; first | exact D.len rfl | exact D.lenS rfl)) <;>
    ((apply XL.det0F rfl rfl rfl rfl; first | exact D.sub64 rfl rfl (by omega) | exact D.int rfl rfl rfl)) <;>
    ((apply XL.det0F rfl rfl rfl rfl; exact D.assign rfl)) <;>
    (refine XL.nil ?_)) <;> (first | refine Ex.then ?_ | (refine N.next ?_ <;> (refine X.seq ?_ <;> (refine X.seq ?_ <;> (refine X.draw (.op .v0 0 (.op .v0 1 (.op .v0 2 (.op .v0 3 (.op .v0 4 (.op .v0 5 (.op .v1 6 (.op .v1 7 (.op .ch 8 (.op .v0 9 .nil)))))))))) mixed (by kernel_rfl) ?_ <;>
    ((apply XL.det0 rfl rfl rfl rfl; exact D.move rfl)) <;>
    (first | refine XL.split0 rfl rfl rfl rfl (D.int rfl rfl rfl) (fun h1 => ?_) (fun h1 => ?_)) <;>
    ((apply XL.det0 rfl rfl rfl rfl; exact D.move rfl)) <;>
    (first | refine XL.skip0 rfl rfl rfl rfl ?_ | ((apply XL.det0 rfl rfl rfl rfl; exact D.move rfl))) <;>
    (first | refine XL.skip0 rfl rfl rfl rfl ?_ | ((apply XL.det0 rfl rfl rfl rfl; exact D.move rfl))) <;>
    (first | refine XL.skip0 rfl rfl rfl rfl ?_ | (have hol : o.length - 1 < o.length := (by omega); obtain ⟨y, hy⟩ := get_lt hol; have hyi := ho y (List.mem_of_getElem? hy); have hyi' := hyi; unfold inE at hyi'; refine XL.fact (fun w h => (h.rd (a := a)).sm (by omega)) (fun hsome => ?_); (apply XL.det0 rfl rfl rfl rfl; exact D.indexAddr (o.length - 1) rfl rfl (by omega) hol hsome))) <;>
    (first | refine XL.skip1 rfl rfl rfl rfl ?_ | ((apply XL.det1 rfl rfl rfl rfl; exact D.loadN rfl rfl (fun w hw j u hu => Rd.ext (hw.rd (a := a)) hy j u hu)))) <;>
    (first | refine XL.skip1 rfl rfl rfl rfl ?_ | ((apply XL.det1 rfl rfl rfl rfl; first | exact D.load1 rfl (fun w h => h.cellAt (Loc.at_) rfl) | exact D.loadN rfl rfl (fun w h j u hu => by rw [at_add, Nat.zero_add]; exact h.cellAt (Loc.at_) hu) | exact D.loadP rfl rfl))) <;>
    (first | refine XL.skipC rfl rfl rfl rfl ?_ | ((refine XL.call rfl rfl rfl rfl (fun w hw => follows_spec y x hyi hx w) ?_; rintro v B' ⟨rfl, rfl⟩; refine XL.both ?_); (by_cases hf : Fol y x <;> first | rw [decide_eq_true hf] | rw [decide_eq_false hf]))) <;>
    ((apply XL.det0 rfl rfl rfl rfl; first | exact D.pickT rfl rfl | exact D.pickF rfl rfl | exact D.pick rfl rfl rfl)) <;>
    (refine XL.nil ?_)) <;> (first | refine Ex.then ?_ | (refine N.next ?_ <;> ((
    refine X.cond rfl ?_ ?_; rotate_left; (focus (
    intro hc; first | exact absurd hc (by decide) | (cases hc; done) | (refine X.skip ?_))); rotate_right; (focus (
    intro hc; first | exact absurd hc (by decide) | (cases hc; done) | (refine X.seq ?_ <;> (refine X.draw (.op .v0 0 (.op .v0 1 (.op .v0 2 (.op .v0 3 (.op .v0 4 (.op .v1 5 (.op .v0 6 (.op .v0 7 (.op .v1 8 (.op .v0 9 (.op .v0 10 (.op .v0 11 (.op .v0 12 (.op .fin 13 .nil)))))))))))))) mixed (by kernel_rfl) ?_ <;>
    ((apply XL.det0 rfl rfl rfl rfl; exact D.move rfl)) <;>
    ((apply XL.det0 rfl rfl rfl rfl; exact D.move rfl)) <;>
    ((apply XL.det0 rfl rfl rfl rfl; exact D.indexAddr (o.length - 1) rfl rfl (by omega) hol hsome)) <;>
    ((apply XL.det0 rfl rfl rfl rfl; first | exact D.fieldAddrB0 rfl rfl | exact D.fieldAddrB rfl rfl | exact D.fieldAddrE0 rfl rfl | exact D.fieldAddrE rfl rfl)) <;>
    ((apply XL.det0 rfl rfl rfl rfl; first | exact D.fieldAddrB0 rfl rfl | exact D.fieldAddrB rfl rfl | exact D.fieldAddrE0 rfl rfl | exact D.fieldAddrE rfl rfl)) <;>
    ((apply XL.det1 rfl rfl rfl rfl; exact D.load1 rfl (fun w hw => by have := Rd.ext (hw.rd (a := a)) hy 1 _ rfl; simpa [el_add] using this))) <;>
    ((apply XL.det0 rfl rfl rfl rfl; first | exact D.fieldAddrB0 rfl rfl | exact D.fieldAddrB rfl rfl | exact D.fieldAddrE0 rfl rfl | exact D.fieldAddrE rfl rfl)) <;>
    ((apply XL.det0 rfl rfl rfl rfl; first | exact D.fieldAddrB0 rfl rfl | exact D.fieldAddrB rfl rfl | exact D.fieldAddrE0 rfl rfl | exact D.fieldAddrE rfl rfl)) <;>
    ((apply XL.det1 rfl rfl rfl rfl; first | exact D.load1 rfl (fun w h => h.cellAt (Loc.at_) rfl) | exact D.loadN rfl rfl (fun w h j u hu => by rw [at_add, Nat.zero_add]; exact h.cellAt (Loc.at_) hu) | exact D.loadP rfl rfl)) <;>
    ((apply XL.det0 rfl rfl rfl rfl; first | exact D.add64 rfl rfl (by omega) | exact D.int rfl rfl rfl)) <;>
    ((apply XL.det0 rfl rfl rfl rfl; exact D.indexAddr (o.length - 1) rfl rfl (by omega) hol hsome)) <;>
    ((apply XL.det0 rfl rfl rfl rfl; first | exact D.fieldAddrB0 rfl rfl | exact D.fieldAddrB rfl rfl | exact D.fieldAddrE0 rfl rfl | exact D.fieldAddrE rfl rfl)) <;>
    ((apply XL.det0 rfl rfl rfl rfl; first | exact D.fieldAddrB0 rfl rfl | exact D.fieldAddrB rfl rfl | exact D.fieldAddrE0 rfl rfl | exact D.fieldAddrE rfl rfl)) <;>
    ((refine XL.storeE (encE (o.set (o.length - 1) ⟨y.a, y.n + x.n, y.q, y.p⟩)) rfl rfl rfl rfl rfl (by omega) (encE_setn o (o.length - 1) y (y.n + x.n) hy) ?_)) <;>
    (refine XL.nil ?_)) <;> (first | refine Ex.then ?_ | (refine N.next ?_ <;> (refine X.seq ?_ <;> (refine X.text (L := (.op .fin 0 (.op .fin 1 .nil))) rfl ?_ <;>
    ((apply XL.det0F rfl rfl rfl rfl; exact D.move rfl)) <;>
    ((apply XL.det0F rfl rfl rfl rfl; exact D.assign rfl)) <;>
    (refine XL.nil ?_)) <;> (first | refine Ex.then ?_ | (refine N.next ?_ <;> ((refine X.ret ?_; (repeat (first | refine Rt.then ?_ | refine Rt.block ?_ | refine Rt.scope ?_)); apply Rt.done (Res.r1 Try.results53 (RV.tmp rfl)); (focus (first | (exact ⟨_, _, o ++ [x], rfl, .inr ⟨fun z hz => by rw [hy] at hz; cases hz; exact hf, rfl⟩, rfl⟩) | (exact ⟨_, _, o ++ [x], rfl, .inr ⟨fun z hz => by have := (List.getElem?_eq_some_iff.1 hz).1; omega, rfl⟩, rfl⟩) | (exact ⟨a, c, o.set (o.length - 1) ⟨y.a, y.n + x.n, y.q, y.p⟩, by rw [List.length_set], .inl ⟨y, hy, hf, rfl⟩, by rw [List.length_set]⟩))); exact fun w h => h.takes))))))))))))))) <;> (first | refine Ex.then ?_ | (refine N.next ?_ <;> (refine X.seq ?_ <;> (refine X.text (L := (.op .fin 0 (.op .fin 1 (.op .fin 2 (.op .fin 3 (.op .fin 4 .nil)))))) rfl ?_ <;>
    ((apply XL.det0F rfl rfl rfl rfl; exact D.move rfl)) <;>
    ((apply XL.detF rfl rfl rfl rfl; first | exact D.load1 rfl (fun w h => h.cellAt (Loc.at_) rfl) | exact D.loadN rfl rfl (fun w h j u hu => by rw [at_add, Nat.zero_add]; exact h.cellAt (Loc.at_) hu) | exact D.loadP rfl rfl)) <;>
    (refine XL.slice1 rfl rfl rfl rfl rfl rfl (by intro g; infer_instance) (fun g => ?_)) <;>
    ((refine XL.append rfl rfl rfl rfl rfl rfl ?_ ?_ (fun a' c' => ?_); (focus (skip; unfold maxLen; omega)); (focus (intro _ _; infer_instance))); rw [encE_snoc o x.a x.n x.q x.p, show o.length + 1 = (o ++ [(⟨x.a, x.n, x.q, x.p⟩ : Ext)]).length from (by simp)]) <;>
    ((apply XL.det0F rfl rfl rfl rfl; exact D.assign rfl)) <;>
    (refine XL.nil ?_)) <;> (first | refine Ex.then ?_ | (refine N.next ?_ <;> ((refine X.ret ?_; (repeat (first | refine Rt.then ?_ | refine Rt.block ?_ | refine Rt.scope ?_)); apply Rt.done (Res.r1 Try.results53 (RV.tmp rfl)); (focus (first | (exact ⟨_, _, o ++ [x], rfl, .inr ⟨fun z hz => by rw [hy] at hz; cases hz; exact hf, rfl⟩, rfl⟩) | (exact ⟨_, _, o ++ [x], rfl, .inr ⟨fun z hz => by have := (List.getElem?_eq_some_iff.1 hz).1; omega, rfl⟩, rfl⟩) | (exact ⟨a, c, o.set (o.length - 1) ⟨y.a, y.n + x.n, y.q, y.p⟩, by rw [List.length_set], .inl ⟨y, hy, hf, rfl⟩, by rw [List.length_set]⟩))); exact fun w h => h.takes))))))))))))))

theorem Jn.step {lo : Int} {l o o' : List Ext} {i : Nat} {x : Ext} (h : Jn o x o') (hJ : JnI lo l i o) (hl : Rise lo l) (hx : l[i]? = some x) : JnI lo l (i + 1) o' := by
  rcases h with ⟨y, hy, hf, rfl⟩ | ⟨hn, rfl⟩
  · exact hJ.merge hl hx hy hf
  · exact hJ.push hl hx hn

theorem joinedE_spec (w : World) (a : Option Addr) (c : Nat) (l : List Ext) (lo : Int) (hl : Rd w 4 a l.length c (encE l)) (hr : Rise lo l) (hbd : l.length ≤ 1000000) :
    Spec Try.prog 38 #[.slice a l.length c] w (fun _ => False) (fun v A => ∃ a' c' o, v = .slice a' (List.length o) c' ∧ JnI lo l l.length o ∧ A = [own 30 4 (.slice a' o.length c') o.length (encE o)]) := by
  refine Spec.enter (args := [.slice a l.length c]) (A := []) Try.func38 rfl Try.ntmps38 rfl (fun _ h => h) ?_
  refine X.mem (B := [own 30 4 (.slice none ([] : List Ext).length 0) ([] : List Ext).length (encE [])]) (fun w h => h.nilOwn 30 4) ?_
  (refine X.seq ?_ <;> (refine X.text (L := (.op .fin 0 .nil)) rfl ?_ <;>
    ((apply XL.det0F rfl rfl rfl rfl; exact D.assign rfl)) <;>
    (refine XL.nil ?_)) <;> (first | refine Ex.then ?_ | (refine N.next ?_ <;> (refine X.seq ?_ <;> (refine X.text (L := (.op .fin 0 .nil)) rfl ?_ <;>
    ((apply XL.det0F rfl rfl rfl rfl; exact D.assign rfl)) <;>
    (refine XL.nil ?_)) <;> (first | refine Ex.then ?_ | (refine N.next ?_ <;> (refine X.seq ?_ <;> (refine X.seq ?_ <;> (refine X.text (L := (.op .fin 0 (.op .fin 1 (.op .fin 2 .nil)))) rfl ?_ <;>
    ((apply XL.det0F rfl rfl rfl rfl; exact D.move rfl)) <;>
    ((apply XL.det0F rfl rfl rfl rfl; first | exact D.len rfl | exact D.lenS rfl)) <;>
    ((apply XL.det0F rfl rfl rfl rfl; exact D.move rfl)) <;>
    (refine XL.nil ?_)) <;> (first | refine Ex.then ?_ | (refine N.next ?_ <;> (refine X.block ?_ <;> ((refine X.loop (ι := Nat × List Ext × Option Addr × Nat) (fun x => [(3, .slice x.2.2.1 x.2.1.length x.2.2.2), (6, .slice a l.length c), (7, .int .i64 l.length), (8, .int .i64 x.1)]) (fun x => [own 30 4 (.slice x.2.2.1 x.2.1.length x.2.2.2) x.2.1.length (encE x.2.1)]) (fun x => JnI lo l x.1 x.2.1) (fun x => l.length - x.1) ((0, [], none, 0)) ?_ ?_ ?_ ?_; (focus (exact JnI.start)); (focus (repeat (first | exact Sub.nil | refine Sub.cons rfl ?_))); (focus (exact (fun w h => h.takes))); rintro ⟨i, o, a', c'⟩ hJ; (dsimp only at *; have hi := hJ.hi; have hol := hJ.len)) <;> (refine X.seq ?_ <;> (refine X.text (L := (.op .fin 0 .nil)) rfl ?_ <;>
    (first | refine XL.splitF rfl rfl rfl rfl (D.int rfl rfl rfl) (fun h0 => ?_) (fun h0 => ?_)) <;>
    (refine XL.nil ?_)) <;> (first | refine Ex.then ?_ | (refine N.next ?_ <;> (refine X.seq ?_ <;> ((
    refine X.cond rfl ?_ ?_; rotate_left; (focus (
    intro hc; first | exact absurd hc (by decide) | (cases hc; done) | (refine X.exit ?_))); rotate_right; (focus (
    intro hc; first | exact absurd hc (by decide) | (cases hc; done) | (refine X.skip ?_))))) <;> (first | refine Ex.then ?_ | (refine N.next ?_ <;> (refine X.seq ?_ <;> (refine X.block ?_ <;> (refine X.seq ?_ <;> (refine X.text (L := (.op .fin 0 (.op .fin 1 (.op .fin 2 (.op .fin 3 .nil))))) rfl ?_ <;>
    (have hil : i < l.length := (by omega); obtain ⟨x, hx⟩ := get_lt hil; have hxi := (hr.at_i hx).2; (apply XL.detF rfl rfl rfl rfl; exact D.indexAddr i rfl rfl rfl hil (hl.sm (by omega)))) <;>
    ((apply XL.detF rfl rfl rfl rfl; exact D.loadN rfl rfl (fun w hw j u hu => Rd.ext (Rd.conf0 hl hw) hx j u hu))) <;>
    (refine XL.alloc rfl rfl rfl (by intro g; infer_instance) (fun g => ?_)) <;>
    (first | refine XL.store1 rfl rfl rfl rfl rfl ?_ | refine XL.storeN rfl rfl rfl rfl rfl rfl ?_) <;>
    (refine XL.nil ?_)) <;> (first | refine Ex.then ?_ | (refine N.next ?_ <;> (refine X.text (L := (.op .fin 0 (.op .fin 1 (.op .fin 2 (.op .fin 3 .nil))))) rfl ?_ <;>
    ((apply XL.det0F rfl rfl rfl rfl; exact D.move rfl)) <;>
    ((apply XL.detF rfl rfl rfl rfl; first | exact D.load1 rfl (fun w h => h.cellAt (Loc.at_) rfl) | exact D.loadN rfl rfl (fun w h j u hu => by rw [at_add, Nat.zero_add]; exact h.cellAt (Loc.at_) hu) | exact D.loadP rfl rfl)) <;>
    ((refine XL.callH [own 30 4 (.slice a' o.length c') o.length (encE o)] rfl rfl rfl rfl (fun w F hF hw => join_spec w F a' c' o x hF (fun y hy => (hJ.rise.mem hy).1) hxi (by omega)) ?_; rintro v B' ⟨a2, c2, o2, rfl, hj, rfl⟩; refine XL.both ?_)) <;>
    ((apply XL.det0F rfl rfl rfl rfl; exact D.assign rfl)) <;>
    (refine XL.nil ?_))))) <;> (first | refine N.block ?_ | refine Ex.here ?_ | refine Ex.out rfl ?_)) <;> (first | refine Ex.then ?_ | (refine N.next ?_ <;> (refine X.text (L := (.op .fin 0 (.op .fin 1 .nil))) rfl ?_ <;>
    ((apply XL.det0F rfl rfl rfl rfl; first | exact D.add64 rfl rfl (by omega) | exact D.int rfl rfl rfl)) <;>
    ((apply XL.det0F rfl rfl rfl rfl; exact D.move rfl)) <;>
    (refine XL.nil ?_))))))))))) <;> (first | refine Ex.then ?_ | ((refine N.again ((i + 1, o2, a2, c2)) ?_ ?_ ?_ ?_; (focus (exact hj.step hJ hr hx)); (focus (first | omega | (dsimp only; omega))); (focus (repeat (first | exact Sub.nil | refine Sub.cons rfl ?_))); exact (fun w h => h.takes))))) <;> (first | refine N.block ?_ | refine Ex.here ?_ | refine Ex.out rfl ?_))))) <;> (first | refine Ex.then ?_ | (refine N.next ?_ <;> (refine X.seq ?_ <;> (refine X.text (L := (.op .fin 0 (.op .fin 1 .nil))) rfl ?_ <;>
    ((apply XL.det0F rfl rfl rfl rfl; exact D.move rfl)) <;>
    ((apply XL.det0F rfl rfl rfl rfl; exact D.assign rfl)) <;>
    (refine XL.nil ?_)) <;> (first | refine Ex.then ?_ | (refine N.next ?_ <;> ((refine X.ret ?_; (repeat (first | refine Rt.then ?_ | refine Rt.block ?_ | refine Rt.scope ?_)); apply Rt.done (Res.r1 Try.results38 (RV.tmp rfl)); (focus ((obtain rfl : i = l.length := by omega); exact ⟨a', c', o, rfl, hJ, rfl⟩)); exact fun w h => h.takes))))))))))))))
end Go.Lx
