/- Decode of the document's answer. -/
import Derived.Test.YtlbcedllbobpaaaMr
namespace Go.Lx
open Go.Proofs
set_option linter.unusedVariables false
set_option linter.unusedSimpArgs false
set_option maxRecDepth 20000
set_option maxHeartbeats 4000000
theorem dT : Cod (textF 1000) textB (fun s => s.length ≤ 1000) := codText 1000 (by decide)
theorem dI : Cod (intF 1125899906842624) varB (fun x => x ≤ 1125899906842624) := codInt 1125899906842624 (by decide)
theorem RfR.textLen {most : Nat} (hm : most < 18446744073709551616) {s s' x : Bs} {o o' : Bool} (h : RfR (textF most) [] s o x s' o') : x.length ≤ most := by
  rcases h with ⟨_, n, h, _⟩ | ⟨_, h, _⟩
  · exact ((codText most hm).back h).2.2
  · rw [h]; exact Nat.zero_le _
/-- Of a head that was read. -/
structure RfH (r : Bs) (h : Hd) (s : Bs) (o : Bool) : Prop where
  back : o = true → r = hdB h ++ s ∧ h.k < 18446744073709551616
  fwd : ∀ y q, OkH y → r = hdB y ++ q → h = y ∧ o = true ∧ s = q
theorem rfHead {r v s1 s3 s4 s5 s6 s7 b : Bs} {k kk sr sz bq n : Nat} {o3 o4 o5 o6 o7 : Bool} (h1 : RfR (textF 1000) [] r true v s1 true) (h2 : fixF 8 s1 = some (k, kk)) (h3 : RfR (intF 1125899906842624) 0 (s1.drop kk) true sr s3 o3) (h4 : RfR (intF 1125899906842624) 0 s3 o3 sz s4 o4) (h5 : RfR (textF 1000) [] s4 o4 b s5 o5)
    (h6 : RfR (intF 1125899906842624) 0 s5 o5 bq s6 o6) (h7 : RfR (intF 1125899906842624) 0 s6 o6 n s7 o7) : RfH r ⟨v, k, sr, sz, b, bq, n⟩ s7 o7 := by
  have g1 := dT.rfg h1
  have g2 := cK.cut h2
  have g3 := dI.rfg h3
  have g4 := dI.rfg h4
  have g5 := dT.rfg h5
  have g6 := dI.rfg h6
  have g7 := dI.rfg h7
  refine ⟨fun he => ?_, fun y q hy hq => ?_⟩
  · obtain ⟨x6, _, t7⟩ := g7.back he
    obtain ⟨x5, _, t6⟩ := g6.back x6
    obtain ⟨x4, _, t5⟩ := g5.back x5
    obtain ⟨x3, _, t4⟩ := g4.back x4
    obtain ⟨_, _, t3⟩ := g3.back x3
    obtain ⟨_, _, t1⟩ := g1.back rfl
    refine ⟨?_, g2.2⟩
    rw [t1, g2.1, t3, t4, t5, t6, t7]
    simp [hdB]
  · obtain ⟨b1, b2, b3, b4, b5, b6, b7⟩ := hy
    unfold hdB at hq
    simp only [List.append_assoc] at hq
    obtain ⟨r1, _, q1⟩ := g1.fwd _ _ rfl (show y.v.length ≤ 1000 by omega) hq
    have f2 := cK.fwd (x := y.k) (varB y.s ++ (varB y.z ++ (textB y.b ++ (varB y.bq ++ (varB y.n ++ q))))) b2
    rw [← q1, h2] at f2
    simp only [Option.some.injEq, Prod.mk.injEq] at f2
    obtain ⟨r2, e2⟩ := f2
    have q2 : s1.drop kk = varB y.s ++ (varB y.z ++ (textB y.b ++ (varB y.bq ++ (varB y.n ++ q)))) := by rw [q1, e2, List.drop_left]
    obtain ⟨r3, f3, q3⟩ := g3.fwd _ _ rfl (show y.s ≤ 1125899906842624 by omega) q2
    obtain ⟨r4, f4, q4⟩ := g4.fwd _ _ f3 (show y.z ≤ 1125899906842624 by omega) q3
    obtain ⟨r5, f5, q5⟩ := g5.fwd _ _ f4 (show y.b.length ≤ 1000 by omega) q4
    obtain ⟨r6, f6, q6⟩ := g6.fwd _ _ f5 (show y.bq ≤ 1125899906842624 by omega) q5
    obtain ⟨r7, f7, q7⟩ := g7.fwd _ _ f6 (show y.n ≤ 1125899906842624 by omega) q6
    refine ⟨?_, f7, q7⟩
    cases y
    simp only at *
    subst r1 r2 r3 r4 r5 r6 r7
    rfl
theorem rfEarly {r v s1 : Bs} {o1 : Bool} (h1 : RfR (textF 1000) [] r true v s1 o1) (h2 : o1 = false ∨ fixF 8 s1 = none) : ∀ m', GoodM m' → r ≠ manB m' := fun m' hm hr => by
  have hb := hm.hd
  have hr' : r = textB m'.v ++ (fixB m'.k 8 ++ (varB m'.s.toNat ++ (varB m'.z.toNat ++ (textB m'.b ++ (varB m'.bq.toNat ++ (varB m'.sn.length ++ m'.sn.flatMap snB)))))) := by
    rw [hr]; simp [manB, headM]
  obtain ⟨_, f1, q1⟩ := (dT.rfg h1).fwd _ _ rfl (show m'.v.length ≤ 1000 by have : m'.v.length ≤ 64 := hb.1; omega) hr'
  rcases h2 with h2 | h2
  · rw [h2] at f1; cases f1
  · rw [q1, cK.fwd _ (show m'.k < 256 ^ 8 from hm.2)] at h2
    cases h2
/-- Of a row of snapshots that was read. -/
structure RfRow (s : Bs) (o : Bool) (l : List Sn3) (s' : Bs) (o' : Bool) : Prop where
  back : o' = true → o = true ∧ s = l.flatMap snB ++ s'
  fwd : ∀ (L : List Sn3) (q : Bs), o = true → (∀ x ∈ L, OkS x) → s = L.flatMap snB ++ q → l.length ≤ L.length → o' = true ∧ l = L.take l.length ∧ s' = (L.drop l.length).flatMap snB ++ q
theorem RfRow.nil {s : Bs} {o : Bool} : RfRow s o [] s o := ⟨fun h => ⟨h, by simp⟩, fun L q ho _ hq _ => ⟨ho, by simp, by simpa using hq⟩⟩
theorem RfRow.snoc {s s' s1 s2 s3 xn : Bs} {o o1 o2 o3 : Bool} {l : List Sn3} {q u : Nat} (h : RfRow s o l s' true) (h1 : RfR (textF 1000) [] s' true xn s1 o1) (h2 : RfR (intF 1125899906842624) 0 s1 o1 q s2 o2) (h3 : RfR (intF 1125899906842624) 0 s2 o2 u s3 o3) : RfRow s o (l ++ [⟨xn, q, u⟩]) s3 o3 := by
  have g1 := dT.rfg h1
  have g2 := dI.rfg h2
  have g3 := dI.rfg h3
  refine ⟨fun he => ?_, fun L t hE hL hq hlen => ?_⟩
  · obtain ⟨x2, _, t3⟩ := g3.back he
    obtain ⟨x1, _, t2⟩ := g2.back x2
    obtain ⟨_, _, t1⟩ := g1.back x1
    obtain ⟨b1, b2⟩ := h.back rfl
    refine ⟨b1, ?_⟩
    rw [b2, t1, t2, t3]
    simp [snB]
  · rw [List.length_append, List.length_singleton] at hlen
    obtain ⟨_, a2, a3⟩ := h.fwd L t hE hL hq (by omega)
    obtain ⟨y, hy⟩ := get_lt' (l := L) (k := l.length) (by omega)
    have hOk := hL y (List.mem_of_getElem? hy)
    have hd : L.drop l.length = y :: L.drop (l.length + 1) := by
      obtain ⟨hi, he⟩ := List.getElem?_eq_some_iff.1 hy
      rw [List.drop_eq_getElem_cons hi, he]
    rw [hd, List.flatMap_cons, List.append_assoc] at a3
    replace a3 : s' = textB y.n ++ (varB y.q.toNat ++ (varB y.u.toNat ++ ((L.drop (l.length + 1)).flatMap snB ++ t))) := by rw [a3]; show (textB y.n ++ varB y.q.toNat ++ varB y.u.toNat) ++ _ = _; rw [List.append_assoc, List.append_assoc]
    obtain ⟨r1, f1, q1⟩ := g1.fwd _ _ rfl (show y.n.length ≤ 1000 by have := hOk.1; omega) a3
    obtain ⟨r2, f2, q2⟩ := g2.fwd _ _ f1 (show y.q.toNat ≤ 1125899906842624 by have := hOk.2; omega) q1
    obtain ⟨r3, f3, q3⟩ := g3.fwd _ _ f2 (show y.u.toNat ≤ 1125899906842624 by have := hOk.2; omega) q2
    refine ⟨f3, ?_, by rw [List.length_append, List.length_singleton]; exact q3⟩
    rw [List.length_append, List.length_singleton, ← take_snoc' hy, ← a2, Sn3.eq (x := ⟨xn, q, u⟩) (y := y) r1 (by have := hOk.2; simp only; omega) (by have := hOk.2; simp only; omega)]
theorem rf_less {s s1 s2 s3 xn : Bs} {o1 o2 o3 : Bool} {q u : Nat} (h1 : RfR (textF 1000) [] s true xn s1 o1) (h2 : RfR (intF 1125899906842624) 0 s1 o1 q s2 o2) (h3 : RfR (intF 1125899906842624) 0 s2 o2 u s3 o3) : s3.length ≤ s.length ∧ (o3 = true → s3.length < s.length) := by
  have l1 := h1.len
  have l2 := h2.len
  have l3 := h3.len
  refine ⟨by omega, fun ho => ?_⟩
  obtain ⟨x2, _, _⟩ := (dI.rfg h3).back ho
  obtain ⟨x1, _, _⟩ := (dI.rfg h2).back x2
  obtain ⟨_, _, t1⟩ := (dT.rfg h1).back x1
  have := congrArg List.length t1
  have hv := vsz_bd xn.length
  have hw := varB_len xn.length
  simp only [textB, List.length_append] at this
  omega
theorem rf_ok {r s s' : Bs} {h : Hd} {l : List Sn3} {o : Bool} (h1 : RfH r h s o) (h2 : RfRow s o l s' true) (hs : s' = []) (hn : l.length = h.n) : r = manB (manOf h l) ∧ h.k < 18446744073709551616 := by
  obtain ⟨a1, a2⟩ := h2.back rfl
  obtain ⟨b1, b2⟩ := h1.back a1
  exact ⟨by rw [manB_of h l hn.symm, b1, a2, hs, List.append_nil], b2⟩
theorem rf_no {r s s' : Bs} {h : Hd} {l : List Sn3} {o o' : Bool} (h1 : RfH r h s o) (h2 : RfRow s o l s' o') (hle : l.length ≤ h.n) (hex : o' = true → l.length = h.n) (hf : ¬ (o' = true ∧ s' = [] ∧ IsChkM (manOf h l) 0)) : ∀ m', GoodM m' → r ≠ manB m' := fun m' hm hr => by
  obtain ⟨a1, a2, a3⟩ := h1.fwd _ (m'.sn.flatMap snB) hm.hd (by rw [hr]; rfl)
  have hn : h.n = m'.sn.length := by rw [a1]; rfl
  obtain ⟨b1, b2, b3⟩ := h2.fwd m'.sn [] a2 hm.sns (by simpa using a3) (by omega)
  have hl : l.length = m'.sn.length := by rw [hex b1, hn]
  rw [hl, List.take_length] at b2
  rw [hl, List.drop_length] at b3
  refine hf ⟨b1, by simpa using b3, ?_⟩
  rw [a1, b2, hm.back]
  exact hm.1
structure DJ where
  s : Bs
  o : Bool
  a : Option Addr
  c : Nat
  l : List Sn3
theorem refDecode_spec (w : World) (s : Bs) (hs : s.length ≤ 1000000) : Spec Try.prog 10 #[.string ⟨List.toArray s⟩] w (fun _ => False) (fun v A => ∃ (m : Man) (e : Int) (a : Option Addr) (c : Nat), v = .tuple #[.agg #[.string ⟨List.toArray m.v⟩, .int .u64 ((m.k : Nat) : Int), .int .i64 m.s, .int .i64 m.z, .string ⟨List.toArray m.b⟩, .int .i64 m.bq, .slice a m.sn.length c], .int .i64 e] ∧ DecR s m e ∧ A = [own 84 3 (.slice a (List.length m.sn) c) (List.length m.sn) (encQ m.sn)]) := by
  obtain ⟨t, eo, ho⟩ : ∃ t eo, openS s = (t, eo) := ⟨_, _, rfl⟩
  have ht : t.length ≤ s.length := by
    have : t = (openS s).1 := by rw [ho]
    rw [this]
    unfold openS
    split
    · simp
    · split <;> simp
  refine Spec.enter (args := [.string ⟨List.toArray s⟩]) (A := []) Try.func10 rfl Try.ntmps10 rfl (fun _ h => h) ?_
  refine X.mem (B := [own 84 3 (.slice none 0 0) 0 [], own 84 3 (.slice none 0 0) 0 []]) (fun w h => (h.nilOwn 84 3).nilOwn 84 3) ?_
  (refine X.seq ?_ <;> (refine X.text (L := (.op .fin 0 (.op .fin 1 .nil))) rfl (by kernel_rfl) ?_ <;>
    (refine XL.alloc rfl rfl rfl (by intro g; infer_instance) (fun g2 => ?_)) <;>
    ((apply XL.det0F rfl rfl rfl rfl; exact D.assign rfl)) <;>
    (refine XL.nil ?_)) <;> (first | refine Ex.then ?_ | (refine N.next ?_ <;> (refine X.seq ?_ <;> (refine X.text (L := (.op .fin 0 (.op .fin 1 (.op .fin 2 (.op .fin 3 (.op .fin 4 (.op .fin 5 (.op .fin 6 .nil)))))))) rfl (by kernel_rfl) ?_ <;>
    ((apply XL.det0F rfl rfl rfl rfl; exact D.move rfl)) <;>
    ((refine XL.call rfl rfl rfl rfl (fun w hw => refOpen_spec w s (by omega)) ?_; rintro v B' ⟨rfl, rfl⟩; refine XL.both ?_); rw [ho]) <;>
    ((apply XL.det0F rfl rfl rfl rfl; exact D.move rfl)) <;>
    ((apply XL.det0F rfl rfl rfl rfl; exact D.extract rfl rfl)) <;>
    ((apply XL.det0F rfl rfl rfl rfl; exact D.extract rfl rfl)) <;>
    ((apply XL.det0F rfl rfl rfl rfl; exact D.assign rfl)) <;>
    ((apply XL.det0F rfl rfl rfl rfl; exact D.assign rfl)) <;>
    (refine XL.nil ?_)) <;> (first | refine Ex.then ?_ | (refine N.next ?_ <;> (refine X.seq ?_ <;> (refine X.seq ?_ <;> (refine X.text (L := (.op .fin 0 (.op .fin 1 .nil))) rfl (by kernel_rfl) ?_ <;>
    ((apply XL.det0F rfl rfl rfl rfl; exact D.move rfl)) <;>
    (refine XL.splitF rfl rfl rfl rfl (D.int rfl rfl rfl) (fun h1 => ?_) (fun h1 => ?_)) <;>
    (refine XL.nil ?_)) <;> (first | refine Ex.then ?_ | (refine N.next ?_ <;> ((
    refine X.cond rfl ?_ ?_; rotate_left; (focus (
    intro hc; first | exact absurd hc (by decide) | (cases hc; done) | (refine X.skip ?_))); rotate_right; (focus (
    intro hc; first | exact absurd hc (by decide) | (cases hc; done) | (refine X.seq ?_ <;> (refine X.text (L := (.op .fin 0 (.op .fin 1 (.op .fin 2 (.op .fin 3 .nil))))) rfl (by kernel_rfl) ?_ <;>
    ((apply XL.det0F rfl rfl rfl rfl; exact D.build rfl)) <;>
    ((apply XL.det0F rfl rfl rfl rfl; exact D.move rfl)) <;>
    (first | refine XL.store1 rfl rfl rfl rfl rfl ?_ | refine XL.storeN rfl rfl rfl rfl rfl rfl ?_ | refine XL.storeP rfl rfl rfl rfl rfl rfl ?_) <;>
    ((apply XL.det0F rfl rfl rfl rfl; exact D.assign rfl)) <;>
    (refine XL.nil ?_)) <;> (first | refine Ex.then ?_ | (refine N.next ?_ <;> ((refine X.ret ?_; (repeat (first | refine Rt.then ?_ | refine Rt.block ?_ | refine Rt.scope ?_)); (first | apply Rt.done (Res.r2 Try.results10 (by first | exact RV.cell rfl rfl | exact RV.cell1 rfl) (RV.tmp rfl)) | apply Rt.doneM (Res.r2 Try.results10 (by first | exact RV.cell rfl rfl | exact RV.cell1 rfl) (RV.tmp rfl))); (focus (first | exact ⟨zM, eo, none, 0, rfl, .inl ⟨by rw [ho]; exact h1, by rw [ho], rfl⟩, (rfl : [own 84 3 (.slice none 0 0) 0 []] = _)⟩ | exact ⟨zM, 14, none, 0, rfl, .inr (.inl ⟨by rw [ho]; simp only; omega, fun r hr => (by rw [ho] at hr; have := congrArg List.length hr; rw [List.length_append] at this; have : mgc.length = 4 := rfl; dsimp only at *; omega), rfl, rfl⟩), (rfl : [own 84 3 (.slice none 0 0) 0 []] = _)⟩ | exact ⟨zM, 14, none, 0, rfl, .inr (.inl ⟨by rw [ho]; simp only; omega, fun r hr => (by rw [ho] at hr; dsimp only at h3 hr; exact h3 ((pre_iff (s := t) (p := mgc) (by have : mgc.length = 4 := rfl; omega)).2 ⟨r, hr⟩)), rfl, rfl⟩), (rfl : [own 84 3 (.slice none 0 0) 0 []] = _)⟩ | exact ⟨zM, 12, none, 0, rfl, .inr (.inr ⟨r, by rw [ho]; simp only; omega, by rw [ho]; exact hr, .inr ⟨rfEarly x1 (.inl rfl), rfl, rfl⟩⟩), (rfl : [own 84 3 (.slice none 0 0) 0 []] = _)⟩ | exact ⟨zM, 12, none, 0, rfl, .inr (.inr ⟨r, by rw [ho]; simp only; omega, by rw [ho]; exact hr, .inr ⟨rfEarly x1 (.inr (hk.resolve_left (fun h => h4 h.2)).1), rfl, rfl⟩⟩), (rfl : [own 84 3 (.slice none 0 0) 0 []] = _)⟩ | (have hle8 : l.length ≤ n := hln; first | exact ⟨zM, 12, none, 0, rfl, .inr (.inr ⟨r, by rw [ho]; simp only; omega, by rw [ho]; exact hr, .inr ⟨rf_no hH hR hle8 (fun h => absurd h Bool.false_ne_true) (fun hh => absurd hh.1 Bool.false_ne_true), rfl, rfl⟩⟩), (rfl : [own 84 3 (.slice none 0 0) 0 []] = _)⟩ | exact ⟨zM, 12, none, 0, rfl, .inr (.inr ⟨r, by rw [ho]; simp only; omega, by rw [ho]; exact hr, .inr ⟨rf_no hH hR hle8 (fun _ => hx8) (fun hh => h6 hh.2.1), rfl, rfl⟩⟩), (rfl : [own 84 3 (.slice none 0 0) 0 []] = _)⟩ | exact ⟨zM, 12, none, 0, rfl, .inr (.inr ⟨r, by rw [ho]; simp only; omega, by rw [ho]; exact hr, .inr ⟨rf_no hH hR hle8 (fun _ => hx8) (fun hh => h7 (hq.unique hh.2.2)), rfl, rfl⟩⟩), (rfl : [own 84 3 (.slice none 0 0) 0 []] = _)⟩) | (have hok := rf_ok hH hR (Decidable.not_not.1 h6) hx8; (obtain rfl : e9 = 0 := (by omega)); exact ⟨manOf ⟨v1, k, sr, sz, b, bq, n⟩ l, 0, a, c, rfl, .inr (.inr ⟨r, by rw [ho]; simp only; omega, by rw [ho]; exact hr, .inl ⟨hok.1, ⟨hq, hok.2⟩, rfl⟩⟩), (rfl : [own 84 3 (.slice a (List.length l) c) (List.length l) (encQ l)] = _)⟩) | skip)); exact fun w h => h.takes)))))))))))) <;> (first | refine Ex.then ?_ | (refine N.next ?_ <;> (refine X.seq ?_ <;> (refine X.seq ?_ <;> (refine X.text (L := (.op .fin 0 (.op .fin 1 (.op .fin 2 (.op .fin 3 (.op .fin 4 (.op .fin 5 (.op .fin 6 (.op .fin 7 .nil))))))))) rfl (by kernel_rfl) ?_ <;>
    ((apply XL.det0F rfl rfl rfl rfl; exact D.move rfl)) <;>
    ((apply XL.det0F rfl rfl rfl rfl; first | exact D.len rfl | exact D.lenL rfl | exact D.lenS rfl)) <;>
    (refine XL.splitF rfl rfl rfl rfl (D.int rfl rfl rfl) (fun h2 => ?_) (fun h2 => ?_)) <;>
    ((apply XL.det0F rfl rfl rfl rfl; exact D.move rfl)) <;>
    (first | refine XL.skipF rfl rfl rfl rfl ?_ | ((apply XL.det0F rfl rfl rfl rfl; exact D.move rfl))) <;>
    (first | refine XL.skipF rfl rfl rfl rfl ?_ | (have h2' := h2; dsimp only at h2'; first | refine XL.skipF rfl rfl rfl rfl ?_ | (apply XL.det0F rfl rfl rfl rfl; exact D.cutH (h := 4) rfl rfl (by omega)))) <;>
    (first | refine XL.skipF rfl rfl rfl rfl ?_ | (first | refine XL.skipF rfl rfl rfl rfl ?_ | refine XL.splitF rfl rfl rfl rfl (D.strNe (m := mgc) rfl rfl) (fun h3 => ?_) (fun h3 => ?_))) <;>
    ((apply XL.det0F rfl rfl rfl rfl; first | exact D.pickT rfl rfl | exact D.pickF rfl rfl | exact D.pick rfl rfl rfl)) <;>
    (refine XL.nil ?_)) <;> (first | refine Ex.then ?_ | (refine N.next ?_ <;> ((
    refine X.cond rfl ?_ ?_; rotate_left; (focus (
    intro hc; first | exact absurd hc (by decide) | (cases hc; done) | (refine X.skip ?_))); rotate_right; (focus (
    intro hc; first | exact absurd hc (by decide) | (cases hc; done) | (refine X.seq ?_ <;> (refine X.text (L := (.op .fin 0 (.op .fin 1 (.op .fin 2 .nil)))) rfl (by kernel_rfl) ?_ <;>
    ((apply XL.det0F rfl rfl rfl rfl; exact D.build rfl)) <;>
    (first | refine XL.store1 rfl rfl rfl rfl rfl ?_ | refine XL.storeN rfl rfl rfl rfl rfl rfl ?_ | refine XL.storeP rfl rfl rfl rfl rfl rfl ?_) <;>
    ((apply XL.det0F rfl rfl rfl rfl; exact D.assign rfl)) <;>
    (refine XL.nil ?_)) <;> (first | refine Ex.then ?_ | (refine N.next ?_ <;> ((refine X.ret ?_; (repeat (first | refine Rt.then ?_ | refine Rt.block ?_ | refine Rt.scope ?_)); (first | apply Rt.done (Res.r2 Try.results10 (by first | exact RV.cell rfl rfl | exact RV.cell1 rfl) (RV.tmp rfl)) | apply Rt.doneM (Res.r2 Try.results10 (by first | exact RV.cell rfl rfl | exact RV.cell1 rfl) (RV.tmp rfl))); (focus (first | exact ⟨zM, eo, none, 0, rfl, .inl ⟨by rw [ho]; exact h1, by rw [ho], rfl⟩, (rfl : [own 84 3 (.slice none 0 0) 0 []] = _)⟩ | exact ⟨zM, 14, none, 0, rfl, .inr (.inl ⟨by rw [ho]; simp only; omega, fun r hr => (by rw [ho] at hr; have := congrArg List.length hr; rw [List.length_append] at this; have : mgc.length = 4 := rfl; dsimp only at *; omega), rfl, rfl⟩), (rfl : [own 84 3 (.slice none 0 0) 0 []] = _)⟩ | exact ⟨zM, 14, none, 0, rfl, .inr (.inl ⟨by rw [ho]; simp only; omega, fun r hr => (by rw [ho] at hr; dsimp only at h3 hr; exact h3 ((pre_iff (s := t) (p := mgc) (by have : mgc.length = 4 := rfl; omega)).2 ⟨r, hr⟩)), rfl, rfl⟩), (rfl : [own 84 3 (.slice none 0 0) 0 []] = _)⟩ | exact ⟨zM, 12, none, 0, rfl, .inr (.inr ⟨r, by rw [ho]; simp only; omega, by rw [ho]; exact hr, .inr ⟨rfEarly x1 (.inl rfl), rfl, rfl⟩⟩), (rfl : [own 84 3 (.slice none 0 0) 0 []] = _)⟩ | exact ⟨zM, 12, none, 0, rfl, .inr (.inr ⟨r, by rw [ho]; simp only; omega, by rw [ho]; exact hr, .inr ⟨rfEarly x1 (.inr (hk.resolve_left (fun h => h4 h.2)).1), rfl, rfl⟩⟩), (rfl : [own 84 3 (.slice none 0 0) 0 []] = _)⟩ | (have hle8 : l.length ≤ n := hln; first | exact ⟨zM, 12, none, 0, rfl, .inr (.inr ⟨r, by rw [ho]; simp only; omega, by rw [ho]; exact hr, .inr ⟨rf_no hH hR hle8 (fun h => absurd h Bool.false_ne_true) (fun hh => absurd hh.1 Bool.false_ne_true), rfl, rfl⟩⟩), (rfl : [own 84 3 (.slice none 0 0) 0 []] = _)⟩ | exact ⟨zM, 12, none, 0, rfl, .inr (.inr ⟨r, by rw [ho]; simp only; omega, by rw [ho]; exact hr, .inr ⟨rf_no hH hR hle8 (fun _ => hx8) (fun hh => h6 hh.2.1), rfl, rfl⟩⟩), (rfl : [own 84 3 (.slice none 0 0) 0 []] = _)⟩ | exact ⟨zM, 12, none, 0, rfl, .inr (.inr ⟨r, by rw [ho]; simp only; omega, by rw [ho]; exact hr, .inr ⟨rf_no hH hR hle8 (fun _ => hx8) (fun hh => h7 (hq.unique hh.2.2)), rfl, rfl⟩⟩), (rfl : [own 84 3 (.slice none 0 0) 0 []] = _)⟩) | (have hok := rf_ok hH hR (Decidable.not_not.1 h6) hx8; (obtain rfl : e9 = 0 := (by omega)); exact ⟨manOf ⟨v1, k, sr, sz, b, bq, n⟩ l, 0, a, c, rfl, .inr (.inr ⟨r, by rw [ho]; simp only; omega, by rw [ho]; exact hr, .inl ⟨hok.1, ⟨hq, hok.2⟩, rfl⟩⟩), (rfl : [own 84 3 (.slice a (List.length l) c) (List.length l) (encQ l)] = _)⟩) | skip)); exact fun w h => h.takes)))))))))))) <;> (first | refine Ex.then ?_ | (refine N.next ?_ <;> (refine X.seq ?_ <;> (refine X.text (L := (.op .fin 0 (.op .fin 1 (.op .fin 2 (.op .fin 3 (.op .fin 4 .nil)))))) rfl (by kernel_rfl) ?_ <;>
    ((apply XL.det0F rfl rfl rfl rfl; exact D.move rfl)) <;>
    (dsimp only at h3; (obtain ⟨r, hr⟩ := (pre_iff (s := t) (p := mgc) (by have : mgc.length = 4 := rfl; omega)).1 (Decidable.not_not.1 h3)); have hrl : r.length ≤ 1000000 := (by have := congrArg List.length hr; rw [List.length_append] at this; omega); (apply XL.det0F rfl rfl rfl rfl; exact D.cutL (a := 4) rfl rfl (by omega)); rw [show t.drop 4 = r from (by rw [hr]; rfl)]) <;>
    ((apply XL.det0F rfl rfl rfl rfl; exact D.build rfl)) <;>
    (refine XL.boxN rfl rfl rfl rfl (by intro g; infer_instance) (fun g6 => ?_)) <;>
    ((apply XL.det0F rfl rfl rfl rfl; exact D.assign rfl)) <;>
    (refine XL.nil ?_)) <;> (first | refine Ex.then ?_ | (refine N.next ?_ <;> (refine X.seq ?_ <;> (refine X.text (L := (.op .fin 0 (.op .fin 1 (.op .fin 2 (.op .fin 3 (.op .fin 4 .nil)))))) rfl (by kernel_rfl) ?_ <;>
    ((apply XL.det0F rfl rfl rfl rfl; exact D.move rfl)) <;>
    ((refine XL.callF [cells g6 [.string ⟨List.toArray r⟩, .bool true] 79] rfl rfl rfl rfl (fun w F hF hm hw => rtext_spec w F g6 r true hF (by omega)) ?_; rintro v B' ⟨v1, s1, o1, rfl, x1, rfl⟩; refine XL.both ?_); have l1 := x1.len; have hv1 := x1.textLen (by decide)) <;>
    ((apply XL.det0F rfl rfl rfl rfl; exact D.build rfl)) <;>
    (refine XL.alloc rfl rfl rfl (by intro g; infer_instance) (fun g7 => ?_)) <;>
    (first | refine XL.store1 rfl rfl rfl rfl rfl ?_ | refine XL.storeN rfl rfl rfl rfl rfl rfl ?_ | refine XL.storeP rfl rfl rfl rfl rfl rfl ?_) <;>
    (refine XL.nil ?_)) <;> (first | refine Ex.then ?_ | (refine N.next ?_ <;> (refine X.seq ?_ <;> (refine X.text (L := (.op .fin 0 (.op .fin 1 (.op .fin 2 (.op .fin 3 (.op .fin 4 (.op .fin 5 (.op .fin 6 (.op .fin 7 (.op .fin 8 (.op .fin 9 (.op .fin 10 (.op .fin 11 .nil))))))))))))) rfl (by kernel_rfl) ?_ <;>
    ((apply XL.det0F rfl rfl rfl rfl; exact D.move rfl)) <;>
    ((apply XL.det0F rfl rfl rfl rfl; exact D.nilCheck rfl)) <;>
    ((apply XL.det0F rfl rfl rfl rfl; first | exact D.fieldAddrB0 rfl rfl | exact D.fieldAddrB rfl rfl | exact D.fieldAddrE0 rfl rfl | exact D.fieldAddrE rfl rfl)) <;>
    ((apply XL.detF rfl rfl rfl rfl; first | exact D.load1 rfl (fun w h => h.cellAt (Loc.at_) rfl) | exact D.loadN rfl rfl (fun w h j u hu => by rw [at_add, Nat.zero_add]; exact h.cellAt (Loc.at_) hu) | exact D.loadP rfl rfl)) <;>
    ((refine XL.call rfl rfl rfl rfl (fun w hw => refNumber_spec w s1 8 (by decide) (by omega)) ?_; rintro v B' ⟨k, kk, ek, rfl, hk, rfl⟩; refine XL.both ?_)) <;>
    ((apply XL.det0F rfl rfl rfl rfl; exact D.move rfl)) <;>
    ((apply XL.det0F rfl rfl rfl rfl; exact D.extract rfl rfl)) <;>
    ((apply XL.det0F rfl rfl rfl rfl; exact D.extract rfl rfl)) <;>
    ((apply XL.det0F rfl rfl rfl rfl; exact D.extract rfl rfl)) <;>
    ((apply XL.det0F rfl rfl rfl rfl; exact D.assign rfl)) <;>
    ((apply XL.det0F rfl rfl rfl rfl; exact D.assign rfl)) <;>
    ((apply XL.det0F rfl rfl rfl rfl; exact D.assign rfl)) <;>
    (refine XL.nil ?_)) <;> (first | refine Ex.then ?_ | (refine N.next ?_ <;> (refine X.seq ?_ <;> (refine X.seq ?_ <;> (refine X.text (L := (.op .fin 0 (.op .fin 1 (.op .fin 2 (.op .fin 3 (.op .fin 4 (.op .fin 5 (.op .fin 6 (.op .fin 7 (.op .fin 8 .nil)))))))))) rfl (by kernel_rfl) ?_ <;>
    ((apply XL.det0F rfl rfl rfl rfl; exact D.move rfl)) <;>
    ((apply XL.det0F rfl rfl rfl rfl; exact D.nilCheck rfl)) <;>
    ((apply XL.det0F rfl rfl rfl rfl; first | exact D.fieldAddrB0 rfl rfl | exact D.fieldAddrB rfl rfl | exact D.fieldAddrE0 rfl rfl | exact D.fieldAddrE rfl rfl)) <;>
    ((cases o1 <;> (apply XL.detF rfl rfl rfl rfl; exact D.load1 rfl (fun w h => h.cellAt (Loc.at_) rfl)))) <;>
    ((apply XL.det0F rfl rfl rfl rfl; exact D.not rfl)) <;>
    ((apply XL.det0F rfl rfl rfl rfl; exact D.move rfl)) <;>
    (first | refine XL.skipF rfl rfl rfl rfl ?_ | ((apply XL.det0F rfl rfl rfl rfl; exact D.move rfl))) <;>
    (first | refine XL.skipF rfl rfl rfl rfl ?_ | (first | refine XL.skipF rfl rfl rfl rfl ?_ | refine XL.splitF rfl rfl rfl rfl (D.int rfl rfl rfl) (fun h4 => ?_) (fun h4 => ?_))) <;>
    ((apply XL.det0F rfl rfl rfl rfl; first | exact D.pickT rfl rfl | exact D.pickF rfl rfl | exact D.pick rfl rfl rfl)) <;>
    (refine XL.nil ?_)) <;> (first | refine Ex.then ?_ | (refine N.next ?_ <;> ((
    refine X.cond rfl ?_ ?_; rotate_left; (focus (
    intro hc; first | exact absurd hc (by decide) | (cases hc; done) | (refine X.skip ?_))); rotate_right; (focus (
    intro hc; first | exact absurd hc (by decide) | (cases hc; done) | (refine X.seq ?_ <;> (refine X.text (L := (.op .fin 0 (.op .fin 1 (.op .fin 2 .nil)))) rfl (by kernel_rfl) ?_ <;>
    ((apply XL.det0F rfl rfl rfl rfl; exact D.build rfl)) <;>
    (first | refine XL.store1 rfl rfl rfl rfl rfl ?_ | refine XL.storeN rfl rfl rfl rfl rfl rfl ?_ | refine XL.storeP rfl rfl rfl rfl rfl rfl ?_) <;>
    ((apply XL.det0F rfl rfl rfl rfl; exact D.assign rfl)) <;>
    (refine XL.nil ?_)) <;> (first | refine Ex.then ?_ | (refine N.next ?_ <;> ((refine X.ret ?_; (repeat (first | refine Rt.then ?_ | refine Rt.block ?_ | refine Rt.scope ?_)); (first | apply Rt.done (Res.r2 Try.results10 (by first | exact RV.cell rfl rfl | exact RV.cell1 rfl) (RV.tmp rfl)) | apply Rt.doneM (Res.r2 Try.results10 (by first | exact RV.cell rfl rfl | exact RV.cell1 rfl) (RV.tmp rfl))); (focus (first | exact ⟨zM, eo, none, 0, rfl, .inl ⟨by rw [ho]; exact h1, by rw [ho], rfl⟩, (rfl : [own 84 3 (.slice none 0 0) 0 []] = _)⟩ | exact ⟨zM, 14, none, 0, rfl, .inr (.inl ⟨by rw [ho]; simp only; omega, fun r hr => (by rw [ho] at hr; have := congrArg List.length hr; rw [List.length_append] at this; have : mgc.length = 4 := rfl; dsimp only at *; omega), rfl, rfl⟩), (rfl : [own 84 3 (.slice none 0 0) 0 []] = _)⟩ | exact ⟨zM, 14, none, 0, rfl, .inr (.inl ⟨by rw [ho]; simp only; omega, fun r hr => (by rw [ho] at hr; dsimp only at h3 hr; exact h3 ((pre_iff (s := t) (p := mgc) (by have : mgc.length = 4 := rfl; omega)).2 ⟨r, hr⟩)), rfl, rfl⟩), (rfl : [own 84 3 (.slice none 0 0) 0 []] = _)⟩ | exact ⟨zM, 12, none, 0, rfl, .inr (.inr ⟨r, by rw [ho]; simp only; omega, by rw [ho]; exact hr, .inr ⟨rfEarly x1 (.inl rfl), rfl, rfl⟩⟩), (rfl : [own 84 3 (.slice none 0 0) 0 []] = _)⟩ | exact ⟨zM, 12, none, 0, rfl, .inr (.inr ⟨r, by rw [ho]; simp only; omega, by rw [ho]; exact hr, .inr ⟨rfEarly x1 (.inr (hk.resolve_left (fun h => h4 h.2)).1), rfl, rfl⟩⟩), (rfl : [own 84 3 (.slice none 0 0) 0 []] = _)⟩ | (have hle8 : l.length ≤ n := hln; first | exact ⟨zM, 12, none, 0, rfl, .inr (.inr ⟨r, by rw [ho]; simp only; omega, by rw [ho]; exact hr, .inr ⟨rf_no hH hR hle8 (fun h => absurd h Bool.false_ne_true) (fun hh => absurd hh.1 Bool.false_ne_true), rfl, rfl⟩⟩), (rfl : [own 84 3 (.slice none 0 0) 0 []] = _)⟩ | exact ⟨zM, 12, none, 0, rfl, .inr (.inr ⟨r, by rw [ho]; simp only; omega, by rw [ho]; exact hr, .inr ⟨rf_no hH hR hle8 (fun _ => hx8) (fun hh => h6 hh.2.1), rfl, rfl⟩⟩), (rfl : [own 84 3 (.slice none 0 0) 0 []] = _)⟩ | exact ⟨zM, 12, none, 0, rfl, .inr (.inr ⟨r, by rw [ho]; simp only; omega, by rw [ho]; exact hr, .inr ⟨rf_no hH hR hle8 (fun _ => hx8) (fun hh => h7 (hq.unique hh.2.2)), rfl, rfl⟩⟩), (rfl : [own 84 3 (.slice none 0 0) 0 []] = _)⟩) | (have hok := rf_ok hH hR (Decidable.not_not.1 h6) hx8; (obtain rfl : e9 = 0 := (by omega)); exact ⟨manOf ⟨v1, k, sr, sz, b, bq, n⟩ l, 0, a, c, rfl, .inr (.inr ⟨r, by rw [ho]; simp only; omega, by rw [ho]; exact hr, .inl ⟨hok.1, ⟨hq, hok.2⟩, rfl⟩⟩), (rfl : [own 84 3 (.slice a (List.length l) c) (List.length l) (encQ l)] = _)⟩) | skip)); exact fun w h => h.takes)))))))))))) <;> (first | refine Ex.then ?_ | (refine N.next ?_ <;> (refine X.seq ?_ <;> (refine X.text (L := (.op .fin 0 (.op .fin 1 (.op .fin 2 (.op .fin 3 (.op .fin 4 (.op .fin 5 (.op .fin 6 (.op .fin 7 (.op .fin 8 (.op .fin 9 .nil))))))))))) rfl (by kernel_rfl) ?_ <;>
    ((apply XL.det0F rfl rfl rfl rfl; exact D.move rfl)) <;>
    ((apply XL.det0F rfl rfl rfl rfl; exact D.move rfl)) <;>
    ((apply XL.det0F rfl rfl rfl rfl; exact D.nilCheck rfl)) <;>
    ((apply XL.det0F rfl rfl rfl rfl; first | exact D.fieldAddrB0 rfl rfl | exact D.fieldAddrB rfl rfl | exact D.fieldAddrE0 rfl rfl | exact D.fieldAddrE rfl rfl)) <;>
    ((apply XL.detF rfl rfl rfl rfl; first | exact D.load1 rfl (fun w h => h.cellAt (Loc.at_) rfl) | exact D.loadN rfl rfl (fun w h j u hu => by rw [at_add, Nat.zero_add]; exact h.cellAt (Loc.at_) hu) | exact D.loadP rfl rfl)) <;>
    ((apply XL.det0F rfl rfl rfl rfl; exact D.move rfl)) <;>
    ((obtain ⟨hk8, _⟩ := hk.resolve_right (fun h => h.2 (by omega))); have hkl := (cK.back hk8).1; (apply XL.det0F rfl rfl rfl rfl; exact D.cutL (a := kk) rfl rfl hkl); have l2 : (s1.drop kk).length ≤ 1000000 := (by rw [List.length_drop]; omega)) <;>
    ((apply XL.det0F rfl rfl rfl rfl; exact D.nilCheck rfl)) <;>
    ((apply XL.det0F rfl rfl rfl rfl; first | exact D.fieldAddrB0 rfl rfl | exact D.fieldAddrB rfl rfl | exact D.fieldAddrE0 rfl rfl | exact D.fieldAddrE rfl rfl)) <;>
    (first | refine XL.store1 rfl rfl rfl rfl rfl ?_ | refine XL.storeN rfl rfl rfl rfl rfl rfl ?_ | refine XL.storeP rfl rfl rfl rfl rfl rfl ?_) <;>
    (refine XL.nil ?_)) <;> (first | refine Ex.then ?_ | (refine N.next ?_ <;> (refine X.seq ?_ <;> (refine X.text (L := (.op .fin 0 (.op .fin 1 (.op .fin 2 .nil)))) rfl (by kernel_rfl) ?_ <;>
    ((apply XL.det0F rfl rfl rfl rfl; exact D.move rfl)) <;>
    ((apply XL.det0F rfl rfl rfl rfl; first | exact D.fieldAddrB0 rfl rfl | exact D.fieldAddrB rfl rfl | exact D.fieldAddrE0 rfl rfl | exact D.fieldAddrE rfl rfl)) <;>
    (first | refine XL.store1 rfl rfl rfl rfl rfl ?_ | refine XL.storeN rfl rfl rfl rfl rfl rfl ?_ | refine XL.storeP rfl rfl rfl rfl rfl rfl ?_) <;>
    (refine XL.nil ?_)) <;> (first | refine Ex.then ?_ | (refine N.next ?_ <;> (refine X.seq ?_ <;> (refine X.text (L := (.op .fin 0 (.op .fin 1 (.op .fin 2 (.op .fin 3 .nil))))) rfl (by kernel_rfl) ?_ <;>
    ((apply XL.det0F rfl rfl rfl rfl; exact D.move rfl)) <;>
    ((refine XL.callF [cells g6 [.string ⟨List.toArray (s1.drop kk)⟩, .bool true] 79] rfl rfl rfl rfl (fun w F hF hm hw => rnum_spec w F g6 (s1.drop kk) true hF (by omega)) ?_; rintro v B' ⟨sr, s3, o3, rfl, x3, rfl⟩; refine XL.both ?_); have l3 := x3.len) <;>
    ((apply XL.det0F rfl rfl rfl rfl; first | exact D.fieldAddrB0 rfl rfl | exact D.fieldAddrB rfl rfl | exact D.fieldAddrE0 rfl rfl | exact D.fieldAddrE rfl rfl)) <;>
    (first | refine XL.store1 rfl rfl rfl rfl rfl ?_ | refine XL.storeN rfl rfl rfl rfl rfl rfl ?_ | refine XL.storeP rfl rfl rfl rfl rfl rfl ?_) <;>
    (refine XL.nil ?_)) <;> (first | refine Ex.then ?_ | (refine N.next ?_ <;> (refine X.seq ?_ <;> (refine X.text (L := (.op .fin 0 (.op .fin 1 (.op .fin 2 (.op .fin 3 .nil))))) rfl (by kernel_rfl) ?_ <;>
    ((apply XL.det0F rfl rfl rfl rfl; exact D.move rfl)) <;>
    ((refine XL.callF [cells g6 [.string ⟨List.toArray s3⟩, .bool o3] 79] rfl rfl rfl rfl (fun w F hF hm hw => rnum_spec w F g6 s3 o3 hF (by omega)) ?_; rintro v B' ⟨sz, s4, o4, rfl, x4, rfl⟩; refine XL.both ?_); have l4 := x4.len) <;>
    ((apply XL.det0F rfl rfl rfl rfl; first | exact D.fieldAddrB0 rfl rfl | exact D.fieldAddrB rfl rfl | exact D.fieldAddrE0 rfl rfl | exact D.fieldAddrE rfl rfl)) <;>
    (first | refine XL.store1 rfl rfl rfl rfl rfl ?_ | refine XL.storeN rfl rfl rfl rfl rfl rfl ?_ | refine XL.storeP rfl rfl rfl rfl rfl rfl ?_) <;>
    (refine XL.nil ?_)) <;> (first | refine Ex.then ?_ | (refine N.next ?_ <;> (refine X.seq ?_ <;> (refine X.text (L := (.op .fin 0 (.op .fin 1 (.op .fin 2 (.op .fin 3 .nil))))) rfl (by kernel_rfl) ?_ <;>
    ((apply XL.det0F rfl rfl rfl rfl; exact D.move rfl)) <;>
    ((refine XL.callF [cells g6 [.string ⟨List.toArray s4⟩, .bool o4] 79] rfl rfl rfl rfl (fun w F hF hm hw => rtext_spec w F g6 s4 o4 hF (by omega)) ?_; rintro v B' ⟨b, s5, o5, rfl, x5, rfl⟩; refine XL.both ?_); have l5 := x5.len; have hb1 := x5.textLen (by decide)) <;>
    ((apply XL.det0F rfl rfl rfl rfl; first | exact D.fieldAddrB0 rfl rfl | exact D.fieldAddrB rfl rfl | exact D.fieldAddrE0 rfl rfl | exact D.fieldAddrE rfl rfl)) <;>
    (first | refine XL.store1 rfl rfl rfl rfl rfl ?_ | refine XL.storeN rfl rfl rfl rfl rfl rfl ?_ | refine XL.storeP rfl rfl rfl rfl rfl rfl ?_) <;>
    (refine XL.nil ?_)) <;> (first | refine Ex.then ?_ | (refine N.next ?_ <;> (refine X.seq ?_ <;> (refine X.text (L := (.op .fin 0 (.op .fin 1 (.op .fin 2 (.op .fin 3 .nil))))) rfl (by kernel_rfl) ?_ <;>
    ((apply XL.det0F rfl rfl rfl rfl; exact D.move rfl)) <;>
    ((refine XL.callF [cells g6 [.string ⟨List.toArray s5⟩, .bool o5] 79] rfl rfl rfl rfl (fun w F hF hm hw => rnum_spec w F g6 s5 o5 hF (by omega)) ?_; rintro v B' ⟨bq, s6, o6, rfl, x6, rfl⟩; refine XL.both ?_); have l6 := x6.len) <;>
    ((apply XL.det0F rfl rfl rfl rfl; first | exact D.fieldAddrB0 rfl rfl | exact D.fieldAddrB rfl rfl | exact D.fieldAddrE0 rfl rfl | exact D.fieldAddrE rfl rfl)) <;>
    (first | refine XL.store1 rfl rfl rfl rfl rfl ?_ | refine XL.storeN rfl rfl rfl rfl rfl rfl ?_ | refine XL.storeP rfl rfl rfl rfl rfl rfl ?_) <;>
    (refine XL.nil ?_)) <;> (first | refine Ex.then ?_ | (refine N.next ?_ <;> (refine X.seq ?_ <;> (refine X.text (L := (.op .fin 0 (.op .fin 1 (.op .fin 2 .nil)))) rfl (by kernel_rfl) ?_ <;>
    ((apply XL.det0F rfl rfl rfl rfl; exact D.move rfl)) <;>
    ((refine XL.callF [cells g6 [.string ⟨List.toArray s6⟩, .bool o6] 79] rfl rfl rfl rfl (fun w F hF hm hw => rnum_spec w F g6 s6 o6 hF (by omega)) ?_; rintro v B' ⟨n, s7, o7, rfl, x7, rfl⟩; refine XL.both ?_); have l7 := x7.len; have hH := rfHead x1 hk8 x3 x4 x5 x6 x7) <;>
    ((apply XL.det0F rfl rfl rfl rfl; exact D.assign rfl)) <;>
    (refine XL.nil ?_)) <;> (first | refine Ex.then ?_ | (refine N.next ?_ <;> (refine X.seq ?_ <;> (refine X.seq ?_ <;> (refine X.text (L := (.op .fin 0 .nil)) rfl (by kernel_rfl) ?_ <;>
    (obtain ⟨l0, hl0⟩ : ∃ l0 : List Sn3, l0 = [] := (⟨_, rfl⟩); refine XL.mem (B := [cells g6 [.string ⟨List.toArray s7⟩, .bool o7] 79, cells g7 [.string ⟨List.toArray v1⟩, .int .u64 ((k : Nat) : Int), .int .i64 ((sr : Nat) : Int), .int .i64 ((sz : Nat) : Int), .string ⟨List.toArray b⟩, .int .i64 ((bq : Nat) : Int), .slice none l0.length 0] 35, own 84 3 (.slice none (List.length l0) 0) (List.length l0) (encQ l0), own 84 3 (.slice none 0 0) 0 [], cells g2 [.string ByteArray.empty, .int .u64 0, .int .i64 0, .int .i64 0, .string ByteArray.empty, .int .i64 0, .slice none 0 0] 35]) (fun w h => by subst hl0; exact ((show Conf _ [cells g6 [.string ⟨List.toArray s7⟩, .bool o7] 79, cells g7 [.string ⟨List.toArray v1⟩, .int .u64 ((k : Nat) : Int), .int .i64 ((sr : Nat) : Int), .int .i64 ((sz : Nat) : Int), .string ⟨List.toArray b⟩, .int .i64 ((bq : Nat) : Int), .slice none 0 0] 35, cells g2 [.string ByteArray.empty, .int .u64 0, .int .i64 0, .int .i64 0, .string ByteArray.empty, .int .i64 0, .slice none 0 0] 35, own 84 3 (.slice none 0 0) 0 [], own 84 3 (.slice none 0 0) 0 []] w from h).takes : Conf _ [cells g6 [.string ⟨List.toArray s7⟩, .bool o7] 79, cells g7 [.string ⟨List.toArray v1⟩, .int .u64 ((k : Nat) : Int), .int .i64 ((sr : Nat) : Int), .int .i64 ((sz : Nat) : Int), .string ⟨List.toArray b⟩, .int .i64 ((bq : Nat) : Int), .slice none 0 0] 35, own 84 3 (.slice none 0 0) 0 [], own 84 3 (.slice none 0 0) 0 [], cells g2 [.string ByteArray.empty, .int .u64 0, .int .i64 0, .int .i64 0, .string ByteArray.empty, .int .i64 0, .slice none 0 0] 35] w)) ?_; (apply XL.det0F (v := .int .i64 ((l0.length : Nat) : Int)) rfl rfl rfl rfl; exact D.assign (by rw [hl0]; rfl))) <;>
    (refine XL.nil ?_)) <;> (first | refine Ex.then ?_ | (refine N.next ?_ <;> (refine X.block ?_ <;> ((refine X.loop (ι := DJ) (fun y => [(2, .pointer (some ⟨g2, 0, none⟩)), (3, .int .i64 0), (6, .pointer (some ⟨g6, 0, none⟩)), (7, .pointer (some ⟨g7, 0, none⟩)), (11, .int .i64 ((n : Nat) : Int)), (12, .int .i64 ((y.l.length : Nat) : Int))]) (fun y => [cells g6 [.string ⟨List.toArray y.s⟩, .bool y.o] 79, cells g7 [.string ⟨List.toArray v1⟩, .int .u64 ((k : Nat) : Int), .int .i64 ((sr : Nat) : Int), .int .i64 ((sz : Nat) : Int), .string ⟨List.toArray b⟩, .int .i64 ((bq : Nat) : Int), .slice y.a y.l.length y.c] 35, own 84 3 (.slice y.a (List.length y.l) y.c) (List.length y.l) (encQ y.l), own 84 3 (.slice none 0 0) 0 [], cells g2 [.string ByteArray.empty, .int .u64 0, .int .i64 0, .int .i64 0, .string ByteArray.empty, .int .i64 0, .slice none 0 0] 35]) (fun y => y.l.length ≤ n ∧ RfRow s7 o7 y.l y.s y.o ∧ y.l.length + y.s.length ≤ r.length + (if y.o = true then 0 else 1)) (fun y => if y.o = true then y.s.length + 1 else 0) (⟨s7, o7, none, 0, l0⟩) ?_ ?_ ?_ ?_; (focus (exact ⟨by rw [hl0]; exact Nat.zero_le _, by rw [hl0]; exact RfRow.nil, by rw [hl0, List.length_nil]; rw [List.length_drop] at l3; dsimp only; omega⟩)); (focus (repeat (first | exact Sub.nil | refine Sub.cons rfl ?_))); (focus (exact (fun w h => h.takes))); rintro ⟨s8, o8, a, c, l⟩ ⟨hln, hR, hbd⟩; (dsimp only at *)) <;> (refine X.seq ?_ <;> (refine X.seq ?_ <;> (refine X.text (L := (.op .fin 0 (.op .fin 1 (.op .fin 2 (.op .fin 3 (.op .fin 4 (.op .fin 5 (.op .fin 6 (.op .fin 7 (.op .fin 8 .nil)))))))))) rfl (by kernel_rfl) ?_ <;>
    ((apply XL.det0F rfl rfl rfl rfl; exact D.move rfl)) <;>
    ((apply XL.det0F rfl rfl rfl rfl; exact D.move rfl)) <;>
    (refine XL.splitF rfl rfl rfl rfl (D.int rfl rfl rfl) (fun h5 => ?_) (fun h5 => ?_)) <;>
    ((apply XL.det0F rfl rfl rfl rfl; exact D.move rfl)) <;>
    (first | refine XL.skipF rfl rfl rfl rfl ?_ | ((apply XL.det0F rfl rfl rfl rfl; exact D.move rfl))) <;>
    (first | refine XL.skipF rfl rfl rfl rfl ?_ | ((apply XL.det0F rfl rfl rfl rfl; exact D.nilCheck rfl))) <;>
    (first | refine XL.skipF rfl rfl rfl rfl ?_ | ((apply XL.det0F rfl rfl rfl rfl; first | exact D.fieldAddrB0 rfl rfl | exact D.fieldAddrB rfl rfl | exact D.fieldAddrE0 rfl rfl | exact D.fieldAddrE rfl rfl))) <;>
    (first | refine XL.skipF rfl rfl rfl rfl ?_ | (first | refine XL.skipF rfl rfl rfl rfl ?_ | (cases o8 <;> (apply XL.detF rfl rfl rfl rfl; exact D.load1 rfl (fun w h => h.cellAt (Loc.at_) rfl))))) <;>
    ((apply XL.det0F rfl rfl rfl rfl; first | exact D.pickT rfl rfl | exact D.pickF rfl rfl | exact D.pick rfl rfl rfl)) <;>
    (refine XL.nil ?_)) <;> (first | refine Ex.then ?_ | (refine N.next ?_ <;> ((
    refine X.cond rfl ?_ ?_; rotate_left; (focus (
    intro hc; first | exact absurd hc (by decide) | (cases hc; done) | (refine X.exit ?_))); rotate_right; (focus (
    intro hc; first | exact absurd hc (by decide) | (cases hc; done) | (refine X.skip ?_)))))))) <;> (first | refine Ex.then ?_ | (refine N.next ?_ <;> (refine X.seq ?_ <;> (refine X.block ?_ <;> (refine X.seq ?_ <;> (refine X.text (L := (.op .fin 0 (.op .fin 1 (.op .fin 2 (.op .fin 3 (.op .fin 4 .nil)))))) rfl (by kernel_rfl) ?_ <;>
    ((apply XL.det0F rfl rfl rfl rfl; exact D.move rfl)) <;>
    (rw [if_pos rfl] at hbd; (refine XL.callF [cells g6 [.string ⟨List.toArray s8⟩, .bool true] 79] rfl rfl rfl rfl (fun w F hF hm hw => rtext_spec w F g6 s8 true hF (by omega)) ?_; rintro v B' ⟨xn, q1, f1, rfl, z1, rfl⟩; refine XL.both ?_); have m1 := z1.len) <;>
    ((apply XL.det0F rfl rfl rfl rfl; exact D.build rfl)) <;>
    (refine XL.alloc rfl rfl rfl (by intro g; infer_instance) (fun g13 => ?_)) <;>
    (first | refine XL.store1 rfl rfl rfl rfl rfl ?_ | refine XL.storeN rfl rfl rfl rfl rfl rfl ?_ | refine XL.storeP rfl rfl rfl rfl rfl rfl ?_) <;>
    (refine XL.nil ?_)) <;> (first | refine Ex.then ?_ | (refine N.next ?_ <;> (refine X.seq ?_ <;> (refine X.text (L := (.op .fin 0 (.op .fin 1 (.op .fin 2 (.op .fin 3 .nil))))) rfl (by kernel_rfl) ?_ <;>
    ((apply XL.det0F rfl rfl rfl rfl; exact D.move rfl)) <;>
    ((refine XL.callF [cells g6 [.string ⟨List.toArray q1⟩, .bool f1] 79] rfl rfl rfl rfl (fun w F hF hm hw => rnum_spec w F g6 q1 f1 hF (by omega)) ?_; rintro v B' ⟨xq, q2, f2, rfl, z2, rfl⟩; refine XL.both ?_); have m2 := z2.len) <;>
    ((apply XL.det0F rfl rfl rfl rfl; first | exact D.fieldAddrB0 rfl rfl | exact D.fieldAddrB rfl rfl | exact D.fieldAddrE0 rfl rfl | exact D.fieldAddrE rfl rfl)) <;>
    (first | refine XL.store1 rfl rfl rfl rfl rfl ?_ | refine XL.storeN rfl rfl rfl rfl rfl rfl ?_ | refine XL.storeP rfl rfl rfl rfl rfl rfl ?_) <;>
    (refine XL.nil ?_)) <;> (first | refine Ex.then ?_ | (refine N.next ?_ <;> (refine X.seq ?_ <;> (refine X.text (L := (.op .fin 0 (.op .fin 1 (.op .fin 2 (.op .fin 3 .nil))))) rfl (by kernel_rfl) ?_ <;>
    ((apply XL.det0F rfl rfl rfl rfl; exact D.move rfl)) <;>
    ((refine XL.callF [cells g6 [.string ⟨List.toArray q2⟩, .bool f2] 79] rfl rfl rfl rfl (fun w F hF hm hw => rnum_spec w F g6 q2 f2 hF (by omega)) ?_; rintro v B' ⟨xu, q3, f3, rfl, z3, rfl⟩; refine XL.both ?_); have hls := rf_less z1 z2 z3) <;>
    ((apply XL.det0F rfl rfl rfl rfl; first | exact D.fieldAddrB0 rfl rfl | exact D.fieldAddrB rfl rfl | exact D.fieldAddrE0 rfl rfl | exact D.fieldAddrE rfl rfl)) <;>
    (first | refine XL.store1 rfl rfl rfl rfl rfl ?_ | refine XL.storeN rfl rfl rfl rfl rfl rfl ?_ | refine XL.storeP rfl rfl rfl rfl rfl rfl ?_) <;>
    (refine XL.nil ?_)) <;> (first | refine Ex.then ?_ | (refine N.next ?_ <;> (refine X.text (L := (.op .fin 0 (.op .fin 1 (.op .fin 2 (.op .fin 3 (.op .fin 4 (.op .fin 5 (.op .fin 6 .nil)))))))) rfl (by kernel_rfl) ?_ <;>
    ((apply XL.det0F rfl rfl rfl rfl; first | exact D.fieldAddrB0 rfl rfl | exact D.fieldAddrB rfl rfl | exact D.fieldAddrE0 rfl rfl | exact D.fieldAddrE rfl rfl)) <;>
    ((apply XL.detF rfl rfl rfl rfl; first | exact D.load1 rfl (fun w h => h.cellAt (Loc.at_) rfl) | exact D.loadN rfl rfl (fun w h j u hu => by rw [at_add, Nat.zero_add]; exact h.cellAt (Loc.at_) hu) | exact D.loadP rfl rfl)) <;>
    ((apply XL.detF rfl rfl rfl rfl; first | exact D.load1 rfl (fun w h => h.cellAt (Loc.at_) rfl) | exact D.loadN rfl rfl (fun w h j u hu => by rw [at_add, Nat.zero_add]; exact h.cellAt (Loc.at_) hu) | exact D.loadP rfl rfl)) <;>
    (refine XL.slice1 rfl rfl rfl rfl rfl rfl (by intro g; infer_instance) (fun g_ => ?_)) <;>
    ((refine XL.append rfl rfl rfl rfl rfl rfl ?_ ?_ (fun a' c' => ?_); (focus (skip; unfold maxLen; omega)); (focus (intro _ _; infer_instance))); rw [show encQ l ++ [.string ⟨List.toArray xn⟩, .int .i64 ((xq : Nat) : Int), .int .i64 ((xu : Nat) : Int)] = encQ (l ++ [⟨xn, xq, xu⟩]) from encQ_snoc l ⟨xn, xq, xu⟩, show l.length + 1 = (l ++ [(⟨xn, xq, xu⟩ : Sn3)]).length from (by rw [List.length_append]; rfl)]) <;>
    ((apply XL.det0F rfl rfl rfl rfl; first | exact D.fieldAddrB0 rfl rfl | exact D.fieldAddrB rfl rfl | exact D.fieldAddrE0 rfl rfl | exact D.fieldAddrE rfl rfl)) <;>
    (first | refine XL.store1 rfl rfl rfl rfl rfl ?_ | refine XL.storeN rfl rfl rfl rfl rfl rfl ?_ | refine XL.storeP rfl rfl rfl rfl rfl rfl ?_) <;>
    (refine XL.nil ?_))))))))))) <;> (first | refine N.block ?_ | refine Ex.here ?_ | refine Ex.out rfl ?_)) <;> (first | refine Ex.then ?_ | (refine N.next ?_ <;> (refine X.text (L := (.op .fin 0 (.op .fin 1 (.op .fin 2 .nil)))) rfl (by kernel_rfl) ?_ <;>
    ((apply XL.det0F rfl rfl rfl rfl; exact D.move rfl)) <;>
    ((apply XL.det0F rfl rfl rfl rfl; exact D.add64 rfl rfl (by omega)); rw [show ((l.length : Nat) : Int) + 1 = (((l ++ [(⟨xn, xq, xu⟩ : Sn3)]).length : Nat) : Int) from (by rw [List.length_append]; rfl)]) <;>
    ((apply XL.det0F rfl rfl rfl rfl; exact D.assign rfl)) <;>
    (refine XL.nil ?_)))))))) <;> (first | refine Ex.then ?_ | ((refine N.again (⟨q3, f3, a', c', l ++ [⟨xn, xq, xu⟩]⟩) ?_ ?_ ?_ ?_; (focus (exact ⟨by simp only [List.length_append, List.length_singleton]; omega, hR.snoc z1 z2 z3, by simp only [List.length_append, List.length_singleton]; cases f3 <;> simp at * <;> omega⟩)); (focus ((dsimp only; cases f3 <;> simp at * <;> omega))); (focus (repeat (first | exact Sub.nil | refine Sub.cons rfl ?_))); exact (fun w h => h.takes))))) <;> (first | refine N.block ?_ | refine Ex.here ?_ | refine Ex.out rfl ?_))))) <;> (first | refine Ex.then ?_ | (refine N.next ?_ <;> (refine X.seq ?_ <;> (refine X.seq ?_ <;> (refine X.text (L := (.op .fin 0 (.op .fin 1 (.op .fin 2 (.op .fin 3 (.op .fin 4 (.op .fin 5 (.op .fin 6 (.op .fin 7 (.op .fin 8 (.op .fin 9 (.op .fin 10 (.op .fin 11 (.op .fin 12 (.op .fin 13 (.op .fin 14 (.op .fin 15 (.op .fin 16 .nil)))))))))))))))))) rfl (by kernel_rfl) ?_ <;>
    ((apply XL.det0F rfl rfl rfl rfl; exact D.move rfl)) <;>
    ((apply XL.det0F rfl rfl rfl rfl; exact D.nilCheck rfl)) <;>
    ((apply XL.det0F rfl rfl rfl rfl; first | exact D.fieldAddrB0 rfl rfl | exact D.fieldAddrB rfl rfl | exact D.fieldAddrE0 rfl rfl | exact D.fieldAddrE rfl rfl)) <;>
    (first | (have hx8 : l.length = n := (by omega)); (cases o8 <;> (apply XL.detF rfl rfl rfl rfl; exact D.load1 rfl (fun w h => h.cellAt (Loc.at_) rfl))) | (apply XL.detF rfl rfl rfl rfl; exact D.load1 rfl (fun w h => h.cellAt (Loc.at_) rfl))) <;>
    ((apply XL.det0F rfl rfl rfl rfl; exact D.not rfl)) <;>
    ((apply XL.det0F rfl rfl rfl rfl; exact D.move rfl)) <;>
    (first | refine XL.skipF rfl rfl rfl rfl ?_ | ((apply XL.det0F rfl rfl rfl rfl; exact D.move rfl))) <;>
    (first | refine XL.skipF rfl rfl rfl rfl ?_ | ((apply XL.det0F rfl rfl rfl rfl; exact D.nilCheck rfl))) <;>
    (first | refine XL.skipF rfl rfl rfl rfl ?_ | ((apply XL.det0F rfl rfl rfl rfl; first | exact D.fieldAddrB0 rfl rfl | exact D.fieldAddrB rfl rfl | exact D.fieldAddrE0 rfl rfl | exact D.fieldAddrE rfl rfl))) <;>
    (first | refine XL.skipF rfl rfl rfl rfl ?_ | ((apply XL.detF rfl rfl rfl rfl; first | exact D.load1 rfl (fun w h => h.cellAt (Loc.at_) rfl) | exact D.loadN rfl rfl (fun w h j u hu => by rw [at_add, Nat.zero_add]; exact h.cellAt (Loc.at_) hu) | exact D.loadP rfl rfl))) <;>
    (first | refine XL.skipF rfl rfl rfl rfl ?_ | (first | refine XL.skipF rfl rfl rfl rfl ?_ | refine XL.splitF rfl rfl rfl rfl (D.strNe (m := []) rfl rfl) (fun h6 => ?_) (fun h6 => ?_))) <;>
    ((apply XL.det0F rfl rfl rfl rfl; first | exact D.pickT rfl rfl | exact D.pickF rfl rfl | exact D.pick rfl rfl rfl)) <;>
    ((apply XL.det0F rfl rfl rfl rfl; exact D.move rfl)) <;>
    (first | refine XL.skipF rfl rfl rfl rfl ?_ | ((apply XL.detF rfl rfl rfl rfl; first | exact D.load1 rfl (fun w h => h.cellAt (Loc.at_) rfl) | exact D.loadN rfl rfl (fun w h j u hu => by rw [at_add, Nat.zero_add]; exact h.cellAt (Loc.at_) hu) | exact D.loadP rfl rfl))) <;>
    (first | refine XL.skipF rfl rfl rfl rfl ?_ | (first | refine XL.skipF rfl rfl rfl rfl ?_ | (refine XL.call rfl rfl rfl rfl (fun w hw => refCheck_spec (manOf ⟨v1, k, sr, sz, b, bq, n⟩ l) a c w (hw.rd (a := a)) (Nat.le_trans hv1 (by decide)) (Nat.le_trans hb1 (by decide))) ?_; rintro v B' ⟨e9, rfl, hq, rfl⟩; refine XL.both ?_))) <;>
    (first | refine XL.skipF rfl rfl rfl rfl ?_ | (first | refine XL.skipF rfl rfl rfl rfl ?_ | refine XL.splitF rfl rfl rfl rfl (D.int rfl rfl rfl) (fun h7 => ?_) (fun h7 => ?_))) <;>
    ((apply XL.det0F rfl rfl rfl rfl; first | exact D.pickT rfl rfl | exact D.pickF rfl rfl | exact D.pick rfl rfl rfl)) <;>
    (refine XL.nil ?_)) <;> (first | refine Ex.then ?_ | (refine N.next ?_ <;> ((
    refine X.cond rfl ?_ ?_; rotate_left; (focus (
    intro hc; first | exact absurd hc (by decide) | (cases hc; done) | (refine X.skip ?_))); rotate_right; (focus (
    intro hc; first | exact absurd hc (by decide) | (cases hc; done) | (refine X.seq ?_ <;> (refine X.text (L := (.op .fin 0 (.op .fin 1 (.op .fin 2 .nil)))) rfl (by kernel_rfl) ?_ <;>
    ((apply XL.det0F rfl rfl rfl rfl; exact D.build rfl)) <;>
    (first | refine XL.store1 rfl rfl rfl rfl rfl ?_ | refine XL.storeN rfl rfl rfl rfl rfl rfl ?_ | refine XL.storeP rfl rfl rfl rfl rfl rfl ?_) <;>
    ((apply XL.det0F rfl rfl rfl rfl; exact D.assign rfl)) <;>
    (refine XL.nil ?_)) <;> (first | refine Ex.then ?_ | (refine N.next ?_ <;> ((refine X.ret ?_; (repeat (first | refine Rt.then ?_ | refine Rt.block ?_ | refine Rt.scope ?_)); (first | apply Rt.done (Res.r2 Try.results10 (by first | exact RV.cell rfl rfl | exact RV.cell1 rfl) (RV.tmp rfl)) | apply Rt.doneM (Res.r2 Try.results10 (by first | exact RV.cell rfl rfl | exact RV.cell1 rfl) (RV.tmp rfl))); (focus (first | exact ⟨zM, eo, none, 0, rfl, .inl ⟨by rw [ho]; exact h1, by rw [ho], rfl⟩, (rfl : [own 84 3 (.slice none 0 0) 0 []] = _)⟩ | exact ⟨zM, 14, none, 0, rfl, .inr (.inl ⟨by rw [ho]; simp only; omega, fun r hr => (by rw [ho] at hr; have := congrArg List.length hr; rw [List.length_append] at this; have : mgc.length = 4 := rfl; dsimp only at *; omega), rfl, rfl⟩), (rfl : [own 84 3 (.slice none 0 0) 0 []] = _)⟩ | exact ⟨zM, 14, none, 0, rfl, .inr (.inl ⟨by rw [ho]; simp only; omega, fun r hr => (by rw [ho] at hr; dsimp only at h3 hr; exact h3 ((pre_iff (s := t) (p := mgc) (by have : mgc.length = 4 := rfl; omega)).2 ⟨r, hr⟩)), rfl, rfl⟩), (rfl : [own 84 3 (.slice none 0 0) 0 []] = _)⟩ | exact ⟨zM, 12, none, 0, rfl, .inr (.inr ⟨r, by rw [ho]; simp only; omega, by rw [ho]; exact hr, .inr ⟨rfEarly x1 (.inl rfl), rfl, rfl⟩⟩), (rfl : [own 84 3 (.slice none 0 0) 0 []] = _)⟩ | exact ⟨zM, 12, none, 0, rfl, .inr (.inr ⟨r, by rw [ho]; simp only; omega, by rw [ho]; exact hr, .inr ⟨rfEarly x1 (.inr (hk.resolve_left (fun h => h4 h.2)).1), rfl, rfl⟩⟩), (rfl : [own 84 3 (.slice none 0 0) 0 []] = _)⟩ | (have hle8 : l.length ≤ n := hln; first | exact ⟨zM, 12, none, 0, rfl, .inr (.inr ⟨r, by rw [ho]; simp only; omega, by rw [ho]; exact hr, .inr ⟨rf_no hH hR hle8 (fun h => absurd h Bool.false_ne_true) (fun hh => absurd hh.1 Bool.false_ne_true), rfl, rfl⟩⟩), (rfl : [own 84 3 (.slice none 0 0) 0 []] = _)⟩ | exact ⟨zM, 12, none, 0, rfl, .inr (.inr ⟨r, by rw [ho]; simp only; omega, by rw [ho]; exact hr, .inr ⟨rf_no hH hR hle8 (fun _ => hx8) (fun hh => h6 hh.2.1), rfl, rfl⟩⟩), (rfl : [own 84 3 (.slice none 0 0) 0 []] = _)⟩ | exact ⟨zM, 12, none, 0, rfl, .inr (.inr ⟨r, by rw [ho]; simp only; omega, by rw [ho]; exact hr, .inr ⟨rf_no hH hR hle8 (fun _ => hx8) (fun hh => h7 (hq.unique hh.2.2)), rfl, rfl⟩⟩), (rfl : [own 84 3 (.slice none 0 0) 0 []] = _)⟩) | (have hok := rf_ok hH hR (Decidable.not_not.1 h6) hx8; (obtain rfl : e9 = 0 := (by omega)); exact ⟨manOf ⟨v1, k, sr, sz, b, bq, n⟩ l, 0, a, c, rfl, .inr (.inr ⟨r, by rw [ho]; simp only; omega, by rw [ho]; exact hr, .inl ⟨hok.1, ⟨hq, hok.2⟩, rfl⟩⟩), (rfl : [own 84 3 (.slice a (List.length l) c) (List.length l) (encQ l)] = _)⟩) | skip)); exact fun w h => h.takes)))))))))))) <;> (first | refine Ex.then ?_ | (refine N.next ?_ <;> (refine X.seq ?_ <;> (refine X.text (L := (.op .fin 0 (.op .fin 1 (.op .fin 2 .nil)))) rfl (by kernel_rfl) ?_ <;>
    ((apply XL.detF rfl rfl rfl rfl; first | exact D.load1 rfl (fun w h => h.cellAt (Loc.at_) rfl) | exact D.loadN rfl rfl (fun w h j u hu => by rw [at_add, Nat.zero_add]; exact h.cellAt (Loc.at_) hu) | exact D.loadP rfl rfl)) <;>
    (first | refine XL.store1 rfl rfl rfl rfl rfl ?_ | refine XL.storeN rfl rfl rfl rfl rfl rfl ?_ | refine XL.storeP rfl rfl rfl rfl rfl rfl ?_) <;>
    ((apply XL.det0F rfl rfl rfl rfl; exact D.assign rfl)) <;>
    (refine XL.nil ?_)) <;> (first | refine Ex.then ?_ | (refine N.next ?_ <;> ((refine X.ret ?_; (repeat (first | refine Rt.then ?_ | refine Rt.block ?_ | refine Rt.scope ?_)); (first | apply Rt.done (Res.r2 Try.results10 (by first | exact RV.cell rfl rfl | exact RV.cell1 rfl) (RV.tmp rfl)) | apply Rt.doneM (Res.r2 Try.results10 (by first | exact RV.cell rfl rfl | exact RV.cell1 rfl) (RV.tmp rfl))); (focus (first | exact ⟨zM, eo, none, 0, rfl, .inl ⟨by rw [ho]; exact h1, by rw [ho], rfl⟩, (rfl : [own 84 3 (.slice none 0 0) 0 []] = _)⟩ | exact ⟨zM, 14, none, 0, rfl, .inr (.inl ⟨by rw [ho]; simp only; omega, fun r hr => (by rw [ho] at hr; have := congrArg List.length hr; rw [List.length_append] at this; have : mgc.length = 4 := rfl; dsimp only at *; omega), rfl, rfl⟩), (rfl : [own 84 3 (.slice none 0 0) 0 []] = _)⟩ | exact ⟨zM, 14, none, 0, rfl, .inr (.inl ⟨by rw [ho]; simp only; omega, fun r hr => (by rw [ho] at hr; dsimp only at h3 hr; exact h3 ((pre_iff (s := t) (p := mgc) (by have : mgc.length = 4 := rfl; omega)).2 ⟨r, hr⟩)), rfl, rfl⟩), (rfl : [own 84 3 (.slice none 0 0) 0 []] = _)⟩ | exact ⟨zM, 12, none, 0, rfl, .inr (.inr ⟨r, by rw [ho]; simp only; omega, by rw [ho]; exact hr, .inr ⟨rfEarly x1 (.inl rfl), rfl, rfl⟩⟩), (rfl : [own 84 3 (.slice none 0 0) 0 []] = _)⟩ | exact ⟨zM, 12, none, 0, rfl, .inr (.inr ⟨r, by rw [ho]; simp only; omega, by rw [ho]; exact hr, .inr ⟨rfEarly x1 (.inr (hk.resolve_left (fun h => h4 h.2)).1), rfl, rfl⟩⟩), (rfl : [own 84 3 (.slice none 0 0) 0 []] = _)⟩ | (have hle8 : l.length ≤ n := hln; first | exact ⟨zM, 12, none, 0, rfl, .inr (.inr ⟨r, by rw [ho]; simp only; omega, by rw [ho]; exact hr, .inr ⟨rf_no hH hR hle8 (fun h => absurd h Bool.false_ne_true) (fun hh => absurd hh.1 Bool.false_ne_true), rfl, rfl⟩⟩), (rfl : [own 84 3 (.slice none 0 0) 0 []] = _)⟩ | exact ⟨zM, 12, none, 0, rfl, .inr (.inr ⟨r, by rw [ho]; simp only; omega, by rw [ho]; exact hr, .inr ⟨rf_no hH hR hle8 (fun _ => hx8) (fun hh => h6 hh.2.1), rfl, rfl⟩⟩), (rfl : [own 84 3 (.slice none 0 0) 0 []] = _)⟩ | exact ⟨zM, 12, none, 0, rfl, .inr (.inr ⟨r, by rw [ho]; simp only; omega, by rw [ho]; exact hr, .inr ⟨rf_no hH hR hle8 (fun _ => hx8) (fun hh => h7 (hq.unique hh.2.2)), rfl, rfl⟩⟩), (rfl : [own 84 3 (.slice none 0 0) 0 []] = _)⟩) | (have hok := rf_ok hH hR (Decidable.not_not.1 h6) hx8; (obtain rfl : e9 = 0 := (by omega)); exact ⟨manOf ⟨v1, k, sr, sz, b, bq, n⟩ l, 0, a, c, rfl, .inr (.inr ⟨r, by rw [ho]; simp only; omega, by rw [ho]; exact hr, .inl ⟨hok.1, ⟨hq, hok.2⟩, rfl⟩⟩), (rfl : [own 84 3 (.slice a (List.length l) c) (List.length l) (encQ l)] = _)⟩) | skip)); exact fun w h => h.takes))))))))))))))))))))))))))))))))))))))))))))))))))))))))
end Go.Lx
