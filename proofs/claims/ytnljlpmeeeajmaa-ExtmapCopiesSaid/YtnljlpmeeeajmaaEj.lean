/- Package extmap's walks, part j: a move. -/
import Derived.Test.YtnljlpmeeeajmaaEh
namespace Go.Lx
open Go.Proofs
set_option linter.unusedVariables false
set_option linter.unusedSimpArgs false
set_option maxRecDepth 20000
set_option maxHeartbeats 2000000

theorem lay_specN (w : World) (H : Nat → Prop) (gm : Nat) (a ax : Option Addr) (c cx n : Nat) (l xs : List Ext) (s : Sp) (hn : xs.length = n) (hown : Sep [cells gm [.slice a (List.length l) c] 76, own 30 4 (.slice a (List.length l) c) (List.length l) (encE l), own 30 4 (.slice ax n cx) n (encE xs)] w H)
    (hr : Rise 0 l) (hs : mayS s) (hx : Rise s.1 xs) (hxe : endE s.1 xs ≤ s.1 + s.2) (hbd : l.length ≤ 100000 ∧ xs.length ≤ 100000) :
    Spec Try.prog 46 #[.pointer (some ⟨gm, 0, none⟩), .agg #[.int .i64 s.1, .int .i64 s.2], .slice ax n cx] w H (fun v B => ∃ pi ci a2 c2 A I K l2, v = .slice pi (List.length I) ci ∧ Aro l s A I K ∧ JnI 0 (A ++ xs ++ K) (A ++ xs ++ K).length l2 ∧ I.length ≤ l.length ∧
      B = [cells gm [.slice a2 (List.length l2) c2] 76, own 30 4 (.slice a2 (List.length l2) c2) (List.length l2) (encE l2), own 30 4 (.slice pi (List.length I) ci) (List.length I) (encE I)]) := by
  subst hn
  exact lay_spec w H gm a ax c cx l xs s hown hr hs hx hxe hbd

/-- Those ahead of i are moved. -/
def movT (x : Ext) (q p : Int) (I : List Ext) (i : Nat) : List Ext := (I.take i).map (movX x q p) ++ I.drop i
theorem movT_len (x : Ext) (q p : Int) (I : List Ext) (i : Nat) : (movT x q p I i).length = I.length := by simp [movT]; omega
theorem movT_get {x : Ext} {q p : Int} {I : List Ext} {i : Nat} {y : Ext} (h : I[i]? = some y) : (movT x q p I i)[i]? = some y := by
  have := (List.getElem?_eq_some_iff.1 h).1
  unfold movT
  rw [List.getElem?_append_right (by simp; omega)]
  simp only [List.length_map, List.length_take, List.getElem?_drop]
  rw [show i + (i - min i I.length) = i by omega]
  exact h
theorem movT_step {x : Ext} {q p : Int} {I : List Ext} {i : Nat} {y : Ext} (h : I[i]? = some y) : movT x q p I (i + 1) = (movT x q p I i).set i (movX x q p y) := by
  have hl := (List.getElem?_eq_some_iff.1 h).1
  have hy := (List.getElem?_eq_some_iff.1 h).2
  unfold movT
  rw [take_succ_snoc h, List.map_append, List.drop_eq_getElem_cons hl, hy]
  have e : i = ((I.take i).map (movX x q p)).length := by simp; omega
  conv => rhs; arg 2; rw [e]
  rw [List.set_append_right _ _ (Nat.le_refl _)]
  simp
theorem encE_setq (o : List Ext) (k : Nat) (y : Ext) (q p : Int) (h : o[k]? = some y) : putAt (encE o) (k * 4 + 2) [.int .i64 q, .int .i64 p] = encE (o.set k ⟨y.a, y.n, q, p⟩) := by
  have hk := (List.getElem?_eq_some_iff.1 h).1
  have hy := (List.getElem?_eq_some_iff.1 h).2
  have e1 : o = o.take k ++ y :: o.drop (k + 1) := by rw [← hy, ← List.drop_eq_getElem_cons hk, List.take_append_drop]
  have hlk : (o.take k).length = k := by simp; omega
  have e2 : o.set k ⟨y.a, y.n, q, p⟩ = o.take k ++ ⟨y.a, y.n, q, p⟩ :: o.drop (k + 1) := by rw [List.set_eq_take_append_cons_drop, if_pos hk]
  have e3 : encE o = encE (o.take k) ++ [Value.int .i64 y.a, .int .i64 y.n] ++ [Value.int .i64 y.q, .int .i64 y.p] ++ encE (o.drop (k + 1)) := by
    conv => lhs; rw [e1]
    simp [encE, encE1]
  have hl2 : (encE (o.take k)).length = k * 4 := by rw [encE_len, hlk]
  rw [e2, e3]
  unfold putAt
  have n1 : (encE (o.take k) ++ [Value.int .i64 y.a, .int .i64 y.n]).length = k * 4 + 2 := by simp [hl2]
  rw [List.append_assoc _ [Value.int .i64 y.q, .int .i64 y.p], ← n1, List.take_left]
  rw [List.drop_append, List.drop_of_length_le (by omega), show (encE (o.take k) ++ [Value.int .i64 y.a, .int .i64 y.n]).length + [Value.int .i64 q, Value.int .i64 p].length - (encE (o.take k) ++ [Value.int .i64 y.a, .int .i64 y.n]).length = 2 by simp]
  simp [encE, encE1]

theorem Move_spec (w : World) (H : Nat → Prop) (gm : Nat) (a : Option Addr) (c : Nat) (l : List Ext) (σ : Sig) (x : Ext) (q p : Int) (hown : Sep [cells gm [.slice a (List.length l) c] 76, own 30 4 (.slice a (List.length l) c) (List.length l) (encE l)] w H) (hM : IsMap l σ) :
    Spec Try.prog 24 #[.pointer (some ⟨gm, 0, none⟩), .agg #[.int .i64 x.a, .int .i64 x.n, .int .i64 x.q, .int .i64 x.p], .agg #[.int .i64 q, .int .i64 p]] w H (fun v B => ∃ n e a2 c2 l2, v = .tuple #[.int .i64 n, .int .i64 e] ∧ ((e = 0 ∧ mayE x ∧ plS q p ∧ IsMap l2 (movS σ x q p) ∧ ∃ I, IsFind σ (x.a, x.n) I ∧ n = movN x I) ∨ (e = 1 ∧ ¬ (mayE x ∧ plS q p) ∧ n = 0 ∧ l2 = l)) ∧
      B = [cells gm [.slice a2 (List.length l2) c2] 76, own 30 4 (.slice a2 (List.length l2) c2) (List.length l2) (encE l2)]) := by
  have hlen := rise_len l 0 hM.rise (by omega)
  refine Spec.enter (args := [.pointer (some ⟨gm, 0, none⟩), .agg #[.int .i64 x.a, .int .i64 x.n, .int .i64 x.q, .int .i64 x.p], .agg #[.int .i64 q, .int .i64 p]]) (A := [cells gm [.slice a (List.length l) c] 76, own 30 4 (.slice a (List.length l) c) (List.length l) (encE l)]) Try.func24 rfl Try.ntmps24 rfl hown ?_
  (refine X.seq ?_ <;> (refine X.text (L := (.op .fin 0 (.op .fin 1 (.op .fin 2 (.op .fin 3 .nil))))) rfl ?_ <;>
    (refine XL.boxN rfl rfl rfl rfl (by intro g; infer_instance) (fun gx => ?_)) <;>
    (refine XL.boxN rfl rfl rfl rfl (by intro g; infer_instance) (fun gt => ?_)) <;>
    ((apply XL.det0F rfl rfl rfl rfl; exact D.assign rfl)) <;>
    ((apply XL.det0F rfl rfl rfl rfl; exact D.assign rfl)) <;>
    (refine XL.nil ?_)) <;> (first | refine Ex.then ?_ | (refine N.next ?_ <;> (refine X.seq ?_ <;> (refine X.block ?_ <;> (refine X.seq ?_ <;> (refine X.text (L := (.op .fin 0 (.op .fin 1 (.op .fin 2 .nil)))) rfl ?_ <;>
    ((apply XL.det0F rfl rfl rfl rfl; exact D.move rfl)) <;>
    (first | refine XL.cmpTF rfl rfl rfl rfl (D.int rfl rfl rfl) (by omega) ?_ | refine XL.cmpFF rfl rfl rfl rfl (D.int rfl rfl rfl) (by omega) ?_ | refine XL.splitF rfl rfl rfl rfl (D.int rfl rfl rfl) (fun _ => ?_) (fun _ => ?_) | refine XL.cmpTF rfl rfl rfl rfl (D.eqS2 rfl rfl) (by omega) ?_ | refine XL.cmpFF rfl rfl rfl rfl (D.eqS2 rfl rfl) (by omega) ?_ | refine XL.splitF rfl rfl rfl rfl (D.eqS2 rfl rfl) (fun _ => ?_) (fun _ => ?_) | (apply XL.det0F rfl rfl rfl rfl; first | exact D.eqNilS rfl rfl | exact D.boolEq rfl rfl | exact D.eqNilP rfl rfl)) <;>
    ((apply XL.det0F rfl rfl rfl rfl; exact D.assign rfl)) <;>
    (refine XL.nil ?_)) <;> (first | refine Ex.then ?_ | (refine N.next ?_ <;> ((
    refine X.cond rfl ?_ ?_; rotate_left; (focus (
    intro hc; first | exact absurd hc (by decide) | (cases hc; done) | (refine X.seq ?_ <;> (refine X.text (L := (.op .fin 0 (.op .fin 1 (.op .fin 2 (.op .fin 3 (.op .fin 4 (.op .fin 5 (.op .fin 6 (.op .fin 7 (.op .fin 8 .nil)))))))))) rfl ?_ <;>
    ((apply XL.detF rfl rfl rfl rfl; first | exact D.load1 rfl (fun w h => h.cellAt (Loc.at_) rfl) | exact D.loadN rfl rfl (fun w h j u hu => by rw [at_add, Nat.zero_add]; exact h.cellAt (Loc.at_) hu) | exact D.loadP rfl rfl)) <;>
    ((refine XL.call rfl rfl rfl rfl (fun w hw => mayE_spec x w) ?_; rintro v B' ⟨rfl, rfl⟩; refine XL.both ?_); (by_cases hm : mayE x <;> first | rw [if_pos hm] | rw [if_neg hm])) <;>
    (first | refine XL.cmpTF rfl rfl rfl rfl (D.int rfl rfl rfl) (by omega) ?_ | refine XL.cmpFF rfl rfl rfl rfl (D.int rfl rfl rfl) (by omega) ?_ | refine XL.splitF rfl rfl rfl rfl (D.int rfl rfl rfl) (fun _ => ?_) (fun _ => ?_) | refine XL.cmpTF rfl rfl rfl rfl (D.neS2 rfl rfl) (by omega) ?_ | refine XL.cmpFF rfl rfl rfl rfl (D.neS2 rfl rfl) (by omega) ?_ | refine XL.splitF rfl rfl rfl rfl (D.neS2 rfl rfl) (fun _ => ?_) (fun _ => ?_) | (apply XL.det0F rfl rfl rfl rfl; first | exact D.neNilS rfl rfl | exact D.boolNe rfl rfl | exact D.neNilP rfl rfl)) <;>
    ((apply XL.det0F rfl rfl rfl rfl; exact D.move rfl)) <;>
    (first | refine XL.skipF rfl rfl rfl rfl ?_ | ((apply XL.detF rfl rfl rfl rfl; first | exact D.load1 rfl (fun w h => h.cellAt (Loc.at_) rfl) | exact D.loadN rfl rfl (fun w h j u hu => by rw [at_add, Nat.zero_add]; exact h.cellAt (Loc.at_) hu) | exact D.loadP rfl rfl))) <;>
    (first | refine XL.skipF rfl rfl rfl rfl ?_ | ((refine XL.call rfl rfl rfl rfl (fun w hw => place_spec _ _ w) ?_; rintro v B' ⟨rfl, rfl⟩; refine XL.both ?_); (by_cases hp : plS q p <;> first | rw [decide_eq_true hp] | rw [decide_eq_false hp]))) <;>
    (first | refine XL.skipF rfl rfl rfl rfl ?_ | ((apply XL.det0F rfl rfl rfl rfl; exact D.not rfl))) <;>
    ((apply XL.det0F rfl rfl rfl rfl; first | exact D.pickT rfl rfl | exact D.pickF rfl rfl | exact D.pick rfl rfl rfl)) <;>
    ((apply XL.det0F rfl rfl rfl rfl; exact D.assign rfl)) <;>
    (refine XL.nil ?_)) <;> (first | refine Ex.then ?_ | (refine N.next ?_ <;> ((
    refine X.cond rfl ?_ ?_; rotate_left; (focus (
    intro hc; first | exact absurd hc (by decide) | (cases hc; done) | (refine X.skip ?_))); rotate_right; (focus (
    intro hc; first | exact absurd hc (by decide) | (cases hc; done) | (refine X.seq ?_ <;> (refine X.text (L := (.op .fin 0 (.op .fin 1 .nil))) rfl ?_ <;>
    ((apply XL.det0F rfl rfl rfl rfl; exact D.assign rfl)) <;>
    ((apply XL.det0F rfl rfl rfl rfl; exact D.assign rfl)) <;>
    (refine XL.nil ?_)) <;> (first | refine Ex.then ?_ | (refine N.next ?_ <;> ((refine X.ret ?_; (repeat (first | refine Rt.then ?_ | refine Rt.block ?_ | refine Rt.scope ?_)); apply Rt.done (Res.r2 Try.results24 (RV.tmp rfl) (RV.tmp rfl)); (focus (first | (exact ⟨_, 0, a3, c3, l3, rfl, .inl ⟨rfl, hm, hp, IsMap.move hM hA2 (by rw [(hM.find hA2).unique (hM.find hA)]; exact hJ2), I, hM.find hA, by rw [hjn]⟩, rfl⟩) | (exact ⟨0, 1, a, c, l, rfl, .inr ⟨rfl, fun h => by first | exact hm h.1 | exact hp h.2, rfl, rfl⟩, rfl⟩))); exact fun w h => h.takes)))))))))))))); rotate_right; (focus (
    intro hc; first | exact absurd hc (by decide) | (cases hc; done) | (refine X.seq ?_ <;> (refine X.text (L := (.op .fin 0 (.op .fin 1 .nil))) rfl ?_ <;>
    ((apply XL.det0F rfl rfl rfl rfl; exact D.assign rfl)) <;>
    ((apply XL.det0F rfl rfl rfl rfl; exact D.assign rfl)) <;>
    (refine XL.nil ?_)) <;> (first | refine Ex.then ?_ | (refine N.next ?_ <;> ((refine X.ret ?_; (repeat (first | refine Rt.then ?_ | refine Rt.block ?_ | refine Rt.scope ?_)); apply Rt.done (Res.r2 Try.results24 (RV.tmp rfl) (RV.tmp rfl)); (focus (first | (exact ⟨_, 0, a3, c3, l3, rfl, .inl ⟨rfl, hm, hp, IsMap.move hM hA2 (by rw [(hM.find hA2).unique (hM.find hA)]; exact hJ2), I, hM.find hA, by rw [hjn]⟩, rfl⟩) | (exact ⟨0, 1, a, c, l, rfl, .inr ⟨rfl, fun h => by first | exact hm h.1 | exact hp h.2, rfl, rfl⟩, rfl⟩))); exact fun w h => h.takes)))))))))))) <;> (first | refine N.block ?_ | refine Ex.here ?_ | refine Ex.out rfl ?_)) <;> (first | refine Ex.then ?_ | (refine N.next ?_ <;> (refine X.seq ?_ <;> (refine X.text (L := (.op .fin 0 (.op .fin 1 (.op .fin 2 (.op .fin 3 (.op .fin 4 (.op .fin 5 (.op .fin 6 (.op .fin 7 (.op .fin 8 (.op .fin 9 (.op .fin 10 .nil)))))))))))) rfl ?_ <;>
    ((apply XL.det0F rfl rfl rfl rfl; exact D.move rfl)) <;>
    ((apply XL.det0F rfl rfl rfl rfl; first | exact D.fieldAddrB0 rfl rfl | exact D.fieldAddrB rfl rfl | exact D.fieldAddrE0 rfl rfl | exact D.fieldAddrE rfl rfl)) <;>
    ((apply XL.detF rfl rfl rfl rfl; first | exact D.load1 rfl (fun w h => h.cellAt (Loc.at_) rfl) | exact D.loadN rfl rfl (fun w h j u hu => by rw [at_add, Nat.zero_add]; exact h.cellAt (Loc.at_) hu) | exact D.loadP rfl rfl)) <;>
    (have hxi := hm.inE; have hxi' := hxi; unfold inE at hxi'; have hp' := hp; unfold plS at hp'; (refine XL.call rfl rfl rfl rfl (fun w hw => around_spec w gm a c l (x.a, x.n) (hw.cellAt (i := 2) (o := 0) rfl rfl) (hw.rd (a := a)) hM.rise hm.1 (by omega)) ?_; rintro v B' ⟨k, m, pa, ca, pi, ci, pb, cb, hP, rfl, rfl⟩; refine XL.both ?_); have hA := aro_of hP hM.rise hm.1; have hbl := aro_len (x.a, x.n) l (midL l k m) k m (midL l k m).length (by simp [midL]; omega); rw [List.take_length] at hbl; obtain ⟨I, hIe⟩ : ∃ I, inF (x.a, x.n) (midL l k m) = I := (⟨_, rfl⟩); rw [hIe] at hA hbl; rw [hIe]; have hIt := (hA.riseI.endTop (by dsimp only; omega)); have hIs := sumE_le hA.riseI; have hT0 : encE I = encE (movT x q p I 0) := (by simp [movT]); rw [hT0]) <;>
    ((apply XL.det0F rfl rfl rfl rfl; exact D.move rfl)) <;>
    ((apply XL.det0F rfl rfl rfl rfl; exact D.extract rfl rfl)) <;>
    ((apply XL.det0F rfl rfl rfl rfl; exact D.extract rfl rfl)) <;>
    ((apply XL.det0F rfl rfl rfl rfl; exact D.extract rfl rfl)) <;>
    ((apply XL.det0F rfl rfl rfl rfl; exact D.assign rfl)) <;>
    ((apply XL.det0F rfl rfl rfl rfl; exact D.assign rfl)) <;>
    ((apply XL.det0F rfl rfl rfl rfl; exact D.assign rfl)) <;>
    (refine XL.nil ?_)) <;> (first | refine Ex.then ?_ | (refine N.next ?_ <;> (refine X.seq ?_ <;> (refine X.text (L := (.op .fin 0 .nil)) rfl ?_ <;>
    ((apply XL.det0F rfl rfl rfl rfl; exact D.assign rfl)) <;>
    (refine XL.nil ?_)) <;> (first | refine Ex.then ?_ | (refine N.next ?_ <;> (refine X.seq ?_ <;> (refine X.seq ?_ <;> (refine X.text (L := (.op .fin 0 (.op .fin 1 (.op .fin 2 .nil)))) rfl ?_ <;>
    ((apply XL.det0F rfl rfl rfl rfl; exact D.move rfl)) <;>
    ((apply XL.det0F rfl rfl rfl rfl; first | exact D.len rfl | exact D.lenS rfl)) <;>
    ((apply XL.det0F rfl rfl rfl rfl; exact D.move rfl)) <;>
    (refine XL.nil ?_)) <;> (first | refine Ex.then ?_ | (refine N.next ?_ <;> (refine X.block ?_ <;> ((refine X.loop (ι := Nat) (fun i => [(0, .pointer (some ⟨gm, 0, none⟩)), (4, .pointer (some ⟨gx, 0, none⟩)), (5, .pointer (some ⟨gt, 0, none⟩)), (9, .slice pi I.length ci), (11, .int .i64 (movN x (I.take i))), (34, .slice pi I.length ci), (35, .int .i64 I.length), (36, .int .i64 i)]) (fun i => [own 30 4 (.slice pi I.length ci) I.length (encE (movT x q p I i)), cells gt [.int .i64 q, .int .i64 p] 28, cells gx [.int .i64 x.a, .int .i64 x.n, .int .i64 x.q, .int .i64 x.p] 30, cells gm [.slice a (List.length l) c] 76, own 30 4 (.slice a (List.length l) c) (List.length l) (encE l)]) (fun i => i ≤ I.length) (fun i => I.length - i) (0) ?_ ?_ ?_ ?_; (focus (exact Nat.zero_le _)); (focus (repeat (first | exact Sub.nil | refine Sub.cons rfl ?_))); (focus (exact (fun w h => h.takes))); rintro i hi) <;> (refine X.seq ?_ <;> (refine X.text (L := (.op .fin 0 .nil)) rfl ?_ <;>
    (first | refine XL.splitF rfl rfl rfl rfl (D.int rfl rfl rfl) (fun h0 => ?_) (fun h0 => ?_)) <;>
    (refine XL.nil ?_)) <;> (first | refine Ex.then ?_ | (refine N.next ?_ <;> (refine X.seq ?_ <;> ((
    refine X.cond rfl ?_ ?_; rotate_left; (focus (
    intro hc; first | exact absurd hc (by decide) | (cases hc; done) | (refine X.exit ?_))); rotate_right; (focus (
    intro hc; first | exact absurd hc (by decide) | (cases hc; done) | (refine X.skip ?_))))) <;> (first | refine Ex.then ?_ | (refine N.next ?_ <;> (refine X.seq ?_ <;> (refine X.block ?_ <;> (refine X.seq ?_ <;> (refine X.text (L := (.op .fin 0 (.op .fin 1 (.op .fin 2 (.op .fin 3 (.op .fin 4 (.op .fin 5 .nil))))))) rfl ?_ <;>
    ((apply XL.det0F rfl rfl rfl rfl; exact D.move rfl)) <;>
    (have hil : i < I.length := (by omega); obtain ⟨y, hy⟩ := get_lt hil; have hyT := movT_get (x := x) (q := q) (p := p) hy; have hyb := hA.riseI.mem (List.mem_of_getElem? hy); have hye := hA.riseI.endLe (List.mem_of_getElem? hy); have hyi := hyb.1; unfold inE at hyi; have hye2 := hA.endI; dsimp only at hyb hye hye2; have hmt := movN_take x I i y hy; have hst := sumE_take I i y hy; have hs1 := sumE_le (hA.riseI.take i); have hm1 := movN_le x (hA.riseI.take i); have hs2 := sumE_le (hA.riseI.take (i + 1)); have ht1 := (hA.riseI.take (i + 1)).endTop (by dsimp only; omega); dsimp only at hs1 hs2 ht1; have hstep := movT_step (x := x) (q := q) (p := p) hy; refine XL.fact (fun w h => (h.rd (a := pi)).sm (by omega)) (fun hsome => ?_); (apply XL.detF rfl rfl rfl rfl; exact D.indexAddr i rfl rfl rfl hil hsome)) <;>
    ((apply XL.detF rfl rfl rfl rfl; exact D.loadN rfl rfl (fun w hw j u hu => Rd.ext (hw.rd (a := pi)) hyT j u hu))) <;>
    (refine XL.alloc rfl rfl rfl (by intro g; infer_instance) (fun g => ?_)) <;>
    ((apply XL.det0F rfl rfl rfl rfl; exact D.assign rfl)) <;>
    (first | refine XL.store1 rfl rfl rfl rfl rfl ?_ | refine XL.storeN rfl rfl rfl rfl rfl rfl ?_) <;>
    (refine XL.nil ?_)) <;> (first | refine Ex.then ?_ | (refine N.next ?_ <;> (refine X.seq ?_ <;> (refine X.seq ?_ <;> (refine X.draw (.op .v0 0 (.op .v1 1 (.op .v1 2 (.op .v0 3 (.op .v0 4 (.op .v1 5 (.op .v0 6 (.op .v1 7 (.op .ch 8 (.op .ch 9 (.op .v0 10 (.op .v0 11 .nil)))))))))))) mixed (by kernel_rfl) ?_ <;>
    ((apply XL.det0 rfl rfl rfl rfl; first | exact D.fieldAddrB0 rfl rfl | exact D.fieldAddrB rfl rfl | exact D.fieldAddrE0 rfl rfl | exact D.fieldAddrE rfl rfl)) <;>
    ((apply XL.det1 rfl rfl rfl rfl; first | exact D.load1 rfl (fun w h => h.cellAt (Loc.at_) rfl) | exact D.loadN rfl rfl (fun w h j u hu => by rw [at_add, Nat.zero_add]; exact h.cellAt (Loc.at_) hu) | exact D.loadP rfl rfl)) <;>
    ((apply XL.det1 rfl rfl rfl rfl; first | exact D.load1 rfl (fun w h => h.cellAt (Loc.at_) rfl) | exact D.loadN rfl rfl (fun w h j u hu => by rw [at_add, Nat.zero_add]; exact h.cellAt (Loc.at_) hu) | exact D.loadP rfl rfl)) <;>
    ((apply XL.det0 rfl rfl rfl rfl; first | exact D.fieldAddrB0 rfl rfl | exact D.fieldAddrB rfl rfl | exact D.fieldAddrE0 rfl rfl | exact D.fieldAddrE rfl rfl)) <;>
    ((apply XL.det0 rfl rfl rfl rfl; first | exact D.fieldAddrB0 rfl rfl | exact D.fieldAddrB rfl rfl | exact D.fieldAddrE0 rfl rfl | exact D.fieldAddrE rfl rfl)) <;>
    ((apply XL.det1 rfl rfl rfl rfl; first | exact D.load1 rfl (fun w h => h.cellAt (Loc.at_) rfl) | exact D.loadN rfl rfl (fun w h j u hu => by rw [at_add, Nat.zero_add]; exact h.cellAt (Loc.at_) hu) | exact D.loadP rfl rfl)) <;>
    ((apply XL.det0 rfl rfl rfl rfl; first | exact D.fieldAddrB0 rfl rfl | exact D.fieldAddrB rfl rfl | exact D.fieldAddrE0 rfl rfl | exact D.fieldAddrE rfl rfl)) <;>
    ((apply XL.det1 rfl rfl rfl rfl; first | exact D.load1 rfl (fun w h => h.cellAt (Loc.at_) rfl) | exact D.loadN rfl rfl (fun w h j u hu => by rw [at_add, Nat.zero_add]; exact h.cellAt (Loc.at_) hu) | exact D.loadP rfl rfl)) <;>
    ((refine XL.call rfl rfl rfl rfl (fun w hw => End_spec _ _ w) ?_; rintro v B' ⟨rfl, rfl⟩; refine XL.both ?_); rw [D.wrap64_fit (by omega)]) <;>
    ((refine XL.call rfl rfl rfl rfl (fun w hw => part_spec x _ _ ⟨hxi, by omega⟩ w) ?_; rintro v B' ⟨rfl, rfl⟩; refine XL.both ?_)) <;>
    ((apply XL.det0 rfl rfl rfl rfl; first | exact D.field1 rfl rfl | exact D.fieldN rfl)) <;>
    (first | refine XL.cmpT0 rfl rfl rfl rfl (D.int rfl rfl rfl) (by omega) ?_ | refine XL.cmpF0 rfl rfl rfl rfl (D.int rfl rfl rfl) (by omega) ?_ | refine XL.split0 rfl rfl rfl rfl (D.int rfl rfl rfl) (fun _ => ?_) (fun _ => ?_) | refine XL.cmpT0 rfl rfl rfl rfl (D.neS2 rfl rfl) (by omega) ?_ | refine XL.cmpF0 rfl rfl rfl rfl (D.neS2 rfl rfl) (by omega) ?_ | refine XL.split0 rfl rfl rfl rfl (D.neS2 rfl rfl) (fun _ => ?_) (fun _ => ?_) | (apply XL.det0 rfl rfl rfl rfl; first | exact D.neNilS rfl rfl | exact D.boolNe rfl rfl | exact D.neNilP rfl rfl)) <;>
    (refine XL.nil ?_)) <;> (first | refine Ex.then ?_ | (refine N.next ?_ <;> ((
    refine X.cond rfl ?_ ?_; rotate_left; (focus (
    intro hc; first | exact absurd hc (by decide) | (cases hc; done) | (refine X.skip ?_))); rotate_right; (focus (
    intro hc; first | exact absurd hc (by decide) | (cases hc; done) | (refine X.exit ?_)))))))) <;> (first | refine Ex.then ?_ | (refine N.next ?_ <;> (refine X.seq ?_ <;> (refine X.text (L := (.op .fin 0 (.op .fin 1 (.op .fin 2 (.op .fin 3 (.op .fin 4 (.op .fin 5 (.op .fin 6 (.op .fin 7 (.op .fin 8 (.op .fin 9 (.op .fin 10 (.op .fin 11 (.op .fin 12 (.op .fin 13 (.op .fin 14 (.op .fin 15 (.op .fin 16 (.op .fin 17 .nil))))))))))))))))))) rfl ?_ <;>
    ((apply XL.det0F rfl rfl rfl rfl; exact D.move rfl)) <;>
    ((apply XL.det0F rfl rfl rfl rfl; exact D.move rfl)) <;>
    ((apply XL.det0F rfl rfl rfl rfl; first | exact D.fieldAddrB0 rfl rfl | exact D.fieldAddrB rfl rfl | exact D.fieldAddrE0 rfl rfl | exact D.fieldAddrE rfl rfl)) <;>
    ((apply XL.detF rfl rfl rfl rfl; first | exact D.load1 rfl (fun w h => h.cellAt (Loc.at_) rfl) | exact D.loadN rfl rfl (fun w h j u hu => by rw [at_add, Nat.zero_add]; exact h.cellAt (Loc.at_) hu) | exact D.loadP rfl rfl)) <;>
    ((apply XL.det0F rfl rfl rfl rfl; first | exact D.fieldAddrB0 rfl rfl | exact D.fieldAddrB rfl rfl | exact D.fieldAddrE0 rfl rfl | exact D.fieldAddrE rfl rfl)) <;>
    ((apply XL.detF rfl rfl rfl rfl; first | exact D.load1 rfl (fun w h => h.cellAt (Loc.at_) rfl) | exact D.loadN rfl rfl (fun w h j u hu => by rw [at_add, Nat.zero_add]; exact h.cellAt (Loc.at_) hu) | exact D.loadP rfl rfl)) <;>
    ((apply XL.det0F rfl rfl rfl rfl; first | exact D.fieldAddrB0 rfl rfl | exact D.fieldAddrB rfl rfl | exact D.fieldAddrE0 rfl rfl | exact D.fieldAddrE rfl rfl)) <;>
    ((apply XL.det0F rfl rfl rfl rfl; first | exact D.fieldAddrB0 rfl rfl | exact D.fieldAddrB rfl rfl | exact D.fieldAddrE0 rfl rfl | exact D.fieldAddrE rfl rfl)) <;>
    ((apply XL.detF rfl rfl rfl rfl; first | exact D.load1 rfl (fun w h => h.cellAt (Loc.at_) rfl) | exact D.loadN rfl rfl (fun w h j u hu => by rw [at_add, Nat.zero_add]; exact h.cellAt (Loc.at_) hu) | exact D.loadP rfl rfl)) <;>
    ((apply XL.det0F rfl rfl rfl rfl; first | exact D.add64 rfl rfl (by omega) | exact D.int rfl rfl rfl)) <;>
    ((apply XL.det0F rfl rfl rfl rfl; first | exact D.fieldAddrB0 rfl rfl | exact D.fieldAddrB rfl rfl | exact D.fieldAddrE0 rfl rfl | exact D.fieldAddrE rfl rfl)) <;>
    ((apply XL.det0F rfl rfl rfl rfl; first | exact D.fieldAddrB0 rfl rfl | exact D.fieldAddrB rfl rfl | exact D.fieldAddrE0 rfl rfl | exact D.fieldAddrE rfl rfl)) <;>
    ((apply XL.detF rfl rfl rfl rfl; first | exact D.load1 rfl (fun w h => h.cellAt (Loc.at_) rfl) | exact D.loadN rfl rfl (fun w h j u hu => by rw [at_add, Nat.zero_add]; exact h.cellAt (Loc.at_) hu) | exact D.loadP rfl rfl)) <;>
    ((apply XL.det0F rfl rfl rfl rfl; first | exact D.sub64 rfl rfl (by omega) | exact D.int rfl rfl rfl)) <;>
    ((apply XL.det0F rfl rfl rfl rfl; exact D.build rfl)) <;>
    ((apply XL.det0F rfl rfl rfl rfl; exact D.indexAddr i rfl rfl rfl hil hsome)) <;>
    ((apply XL.det0F rfl rfl rfl rfl; first | exact D.fieldAddrB0 rfl rfl | exact D.fieldAddrB rfl rfl | exact D.fieldAddrE0 rfl rfl | exact D.fieldAddrE rfl rfl)) <;>
    (have hmx : movX x q p y = ⟨y.a, y.n, q, p + y.a - x.a⟩ := (by unfold movX; rw [if_pos (by omega)]); (refine XL.storeE (encE (movT x q p I (i + 1))) rfl rfl rfl rfl rfl (by omega) (by rw [hstep, hmx]; exact encE_setq _ i y _ _ hyT) ?_)) <;>
    (refine XL.nil ?_)) <;> (first | refine Ex.then ?_ | (refine N.next ?_ <;> (refine X.text (L := (.op .fin 0 (.op .fin 1 (.op .fin 2 (.op .fin 3 (.op .fin 4 (.op .fin 5 .nil))))))) rfl ?_ <;>
    ((apply XL.det0F rfl rfl rfl rfl; exact D.move rfl)) <;>
    ((apply XL.det0F rfl rfl rfl rfl; first | exact D.fieldAddrB0 rfl rfl | exact D.fieldAddrB rfl rfl | exact D.fieldAddrE0 rfl rfl | exact D.fieldAddrE rfl rfl)) <;>
    ((apply XL.det0F rfl rfl rfl rfl; first | exact D.fieldAddrB0 rfl rfl | exact D.fieldAddrB rfl rfl | exact D.fieldAddrE0 rfl rfl | exact D.fieldAddrE rfl rfl)) <;>
    ((apply XL.detF rfl rfl rfl rfl; first | exact D.load1 rfl (fun w h => h.cellAt (Loc.at_) rfl) | exact D.loadN rfl rfl (fun w h j u hu => by rw [at_add, Nat.zero_add]; exact h.cellAt (Loc.at_) hu) | exact D.loadP rfl rfl)) <;>
    ((apply XL.det0F rfl rfl rfl rfl; exact D.add64 rfl rfl (by omega)); rw [show movN x (I.take i) + y.n = movN x (I.take (i + 1)) from (by rw [hmt, if_pos (by omega)])]) <;>
    ((apply XL.det0F rfl rfl rfl rfl; exact D.assign rfl)) <;>
    (refine XL.nil ?_))))))))))) <;> (first | refine N.block ?_ | refine Ex.here ?_ | refine Ex.out rfl ?_)) <;> (first | refine Ex.then ?_ | (refine N.next ?_ <;> (refine X.text (L := (.op .fin 0 (.op .fin 1 .nil))) rfl ?_ <;>
    ((first | (have hq : y.q = x.q ∧ y.p = x.p + y.a - x.a := (by omega)) | (have hq : ¬ (y.q = x.q ∧ y.p = x.p + y.a - x.a) := (by omega); rw [if_neg hq, Int.add_zero] at hmt; have hmx : movX x q p y = y := (by unfold movX; rw [if_neg hq]); have hsame : movT x q p I (i + 1) = movT x q p I i := (by rw [hstep, hmx]; obtain ⟨hl9, he9⟩ := List.getElem?_eq_some_iff.1 hyT; rw [← he9, List.set_getElem_self]); rw [← hsame, ← hmt])); (apply XL.det0F rfl rfl rfl rfl; exact D.add64 rfl rfl (by omega))) <;>
    ((apply XL.det0F rfl rfl rfl rfl; exact D.move rfl)) <;>
    (refine XL.nil ?_))))))))))) <;> (first | refine Ex.then ?_ | ((refine N.again ((i + 1)) ?_ ?_ ?_ ?_; (focus (omega)); (focus (first | omega | (dsimp only; omega))); (focus (repeat (first | exact Sub.nil | refine Sub.cons rfl ?_))); exact (fun w h => h.takes))))) <;> (first | refine N.block ?_ | refine Ex.here ?_ | refine Ex.out rfl ?_))))) <;> (first | refine Ex.then ?_ | (refine N.next ?_ <;> (refine X.seq ?_ <;> (refine X.text (L := (.op .fin 0 (.op .fin 1 (.op .fin 2 (.op .fin 3 (.op .fin 4 .nil)))))) rfl ?_ <;>
    ((apply XL.det0F rfl rfl rfl rfl; exact D.move rfl)) <;>
    ((apply XL.det0F rfl rfl rfl rfl; first | exact D.fieldAddrB0 rfl rfl | exact D.fieldAddrB rfl rfl | exact D.fieldAddrE0 rfl rfl | exact D.fieldAddrE rfl rfl)) <;>
    ((apply XL.detF rfl rfl rfl rfl; first | exact D.load1 rfl (fun w h => h.cellAt (Loc.at_) rfl) | exact D.loadN rfl rfl (fun w h j u hu => by rw [at_add, Nat.zero_add]; exact h.cellAt (Loc.at_) hu) | exact D.loadP rfl rfl)) <;>
    ((apply XL.det0F rfl rfl rfl rfl; exact D.move rfl)) <;>
    (have hje : movT x q p I i = I.map (movX x q p) := (by unfold movT; rw [List.take_of_length_le (by omega), List.drop_of_length_le (by omega), List.append_nil]); have hjn : I.take i = I := (List.take_of_length_le (by omega)); have hmr := mov_rise (q := q) (p := p) hm hp (Int.le_refl _) hA.riseI hA.endI; rw [hje]; (refine XL.callH [cells gm [.slice a (List.length l) c] 76, own 30 4 (.slice a (List.length l) c) (List.length l) (encE l), own 30 4 (.slice pi I.length ci) I.length (encE (I.map (movX x q p)))] rfl rfl rfl rfl (fun w F hF hw => lay_specN w F gm a pi c ci I.length l (I.map (movX x q p)) (x.a, x.n) (by simp) hF hM.rise hm.1 hmr.1 (by rw [hmr.2]; exact hA.endI) ⟨by omega, by simp; omega⟩) ?_; rintro v B' ⟨pi2, ci2, a3, c3, A2, I2, K2, l3, rfl, hA2, hJ2, hIl, rfl⟩; refine XL.both ?_)) <;>
    (refine XL.nil ?_)) <;> (first | refine Ex.then ?_ | (refine N.next ?_ <;> (refine X.seq ?_ <;> (refine X.text (L := (.op .fin 0 (.op .fin 1 (.op .fin 2 .nil)))) rfl ?_ <;>
    ((apply XL.det0F rfl rfl rfl rfl; exact D.move rfl)) <;>
    ((apply XL.det0F rfl rfl rfl rfl; exact D.assign rfl)) <;>
    ((apply XL.det0F rfl rfl rfl rfl; exact D.assign rfl)) <;>
    (refine XL.nil ?_)) <;> (first | refine Ex.then ?_ | (refine N.next ?_ <;> ((refine X.ret ?_; (repeat (first | refine Rt.then ?_ | refine Rt.block ?_ | refine Rt.scope ?_)); apply Rt.done (Res.r2 Try.results24 (RV.tmp rfl) (RV.tmp rfl)); (focus (first | (exact ⟨_, 0, a3, c3, l3, rfl, .inl ⟨rfl, hm, hp, IsMap.move hM hA2 (by rw [(hM.find hA2).unique (hM.find hA)]; exact hJ2), I, hM.find hA, by rw [hjn]⟩, rfl⟩) | (exact ⟨0, 1, a, c, l, rfl, .inr ⟨rfl, fun h => by first | exact hm h.1 | exact hp h.2, rfl, rfl⟩, rfl⟩))); exact fun w h => h.takes)))))))))))))))))))))))
end Go.Lx
