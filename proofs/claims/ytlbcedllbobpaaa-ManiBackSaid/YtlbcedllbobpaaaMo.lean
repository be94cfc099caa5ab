/- ManiMany. -/
import Derived.Test.YtlbcedllbobpaaaMn
namespace Go.Lx
open Go.Proofs
set_option linter.unusedVariables false
set_option linter.unusedSimpArgs false
set_option maxRecDepth 20000
set_option maxHeartbeats 4000000
theorem NamesTo.of {l : List Sn3} (h : StrictS l) (h1 : ∀ x ∈ l, x.n ≠ [] ∧ x.n.length ≤ 64) : NamesTo l l.length := fun j x hj hx => by
  have := h1 x (List.mem_of_getElem? hx)
  refine ⟨this.1, this.2, fun y h0 hy => ?_⟩
  unfold StrictS at h
  rw [List.pairwise_iff_getElem] at h
  obtain ⟨hi, rfl⟩ := List.getElem?_eq_some_iff.1 hx
  obtain ⟨hk, rfl⟩ := List.getElem?_eq_some_iff.1 hy
  exact h (j - 1) j hk hi (by omega)
def oneM (m : Man) (k : List Sn3) (n : Nat) : Man := { m with s := m.s + n, sn := insAll m.sn (k.take n) }
theorem oneM_zero (m : Man) (k : List Sn3) : oneM m k 0 = m := by
  unfold oneM
  simp [insAll]
theorem oneM_len (m : Man) (k : List Sn3) (n : Nat) (hn : n ≤ k.length) : (oneM m k n).sn.length = m.sn.length + n := by
  show (insAll m.sn (k.take n)).length = _
  rw [(insAll_perm m.sn (k.take n)).length_eq, List.length_append, List.length_take]
  omega
structure Many (m all : Man) (l k : List Sn3) : Prop where
  step : ∀ n x, k[n]? = some x → WithR (oneM m k n) [x] (oneM m k (n + 1)) 0
  fin : { oneM m k k.length with s := all.s } = all
  ms : 0 ≤ m.s
theorem many {m all : Man} {l k : List Sn3} (h : WithR m l all 0) (hp : k.Perm l) (hs : m.s ≤ 1099511600000) (hl : l.length ≤ 10) : Many m all l k := by
  rcases h with ⟨_, h, _⟩ | ⟨_, _, h, _⟩ | ⟨h1, h2, e1, h3, ⟨h6, h, _⟩ | ⟨h4, _, h5⟩⟩
  · exact absurd rfl h
  · cases h
  · exact absurd h.symm h6
  · subst h4
    have hst := StrictS.of_names h1.names.1
    have hall := h3.names
    have hsn0 : (up { m with sn := insAll m.sn l }).sn = insAll m.sn l := rfl
    rw [hsn0] at hall
    obtain ⟨hn1, _, _, _, _, _, hnu, h100⟩ := hall
    have hsa : StrictS (insAll m.sn l) := StrictS.of_names hn1
    have hkl := hp.length_eq
    have hms := h1.names.2.2.2.1
    unfold nmS at hms
    -- all names of m's and the added ones are apart
    have hpw : (m.sn ++ k).Pairwise fun x y => x.n ≠ y.n := by
      have hnd : (insAll m.sn l).Pairwise fun x y => x.n ≠ y.n := hsa.imp (fun {a b} (h : ltN a b) (e : a.n = b.n) => bless_irrefl b.n (by have h' := h; unfold ltN at h'; rwa [e] at h'))
      have hpm : (m.sn ++ k).Perm (insAll m.sn l) := ((List.Perm.append_left m.sn hp).trans (insAll_perm m.sn l).symm)
      exact (hpm.symm.pairwise_iff (fun h => Ne.symm h)).1 hnd
    have hda : DistA m.sn k := fun i x hx y hy => by
      rw [List.pairwise_append] at hpw
      obtain ⟨_, p2, p3⟩ := hpw
      rcases List.mem_append.1 hy with q | q
      · exact p3 y q x (List.mem_of_getElem? hx)
      · obtain ⟨j, hj⟩ := List.mem_iff_getElem?.1 q
        rw [List.getElem?_take] at hj
        split at hj
        · rename_i hji
          rw [List.pairwise_iff_getElem] at p2
          obtain ⟨ha, rfl⟩ := List.getElem?_eq_some_iff.1 hj
          obtain ⟨hb, rfl⟩ := List.getElem?_eq_some_iff.1 hx
          exact p2 j i ha hb hji
        · cases hj
    have hmem : ∀ n x, x ∈ insAll m.sn (k.take n) → x ∈ insAll m.sn l := fun n x hx => by
      have := (insAll_perm m.sn (k.take n)).mem_iff.1 hx
      refine (insAll_perm m.sn l).mem_iff.2 ?_
      rcases List.mem_append.1 this with q | q
      · exact List.mem_append.2 (.inl q)
      · exact List.mem_append.2 (.inr (hp.mem_iff.1 (List.mem_of_mem_take q)))
    have hchk : ∀ n, n ≤ k.length → IsChkM (oneM m k n) 0 := fun n hn => by
      have hsk := DistA.insAll hst hda n hn
      obtain ⟨_, q2, q3, _, q5, q6, _, _⟩ := h1.names
      have hlen := oneM_len m k n hn
      have hle : (insAll m.sn l).length = m.sn.length + l.length := by rw [(insAll_perm m.sn l).length_eq, List.length_append]
      have hnum : ∀ x ∈ insAll m.sn l, (x.n ≠ [] ∧ x.n.length ≤ 64) ∧ nmS x.q ∧ nmS x.u := fun x hx => by
        obtain ⟨j, hj⟩ := List.mem_iff_getElem?.1 hx
        have hjl := lt_of_get' hj
        exact ⟨⟨(hn1 j x hjl hj).1, (hn1 j x hjl hj).2.1⟩, hnu j x hjl hj⟩
      refine .inr ⟨⟨q2, q3, NamesTo.of hsk fun x hx => (hnum x (hmem n x hx)).1⟩, .inr ⟨⟨?_, q5, q6, fun j x hj hx => (hnum x (hmem n x (List.mem_of_getElem? hx))).2⟩, .inr ⟨by rw [hlen]; omega, rfl⟩⟩⟩
      show nmS (m.s + n)
      unfold nmS
      omega
    refine ⟨fun n x hx => ?_, ?_, hms.1⟩
    · have hnk := lt_of_get' hx
      have e : { oneM m k n with sn := insAll (oneM m k n).sn [x] } = ({ m with s := m.s + n, sn := insAll m.sn (k.take (n + 1)) } : Man) := by
        show ({ m with s := m.s + n, sn := insAll (insAll m.sn (k.take n)) [x] } : Man) = _
        rw [← take_snoc' hx, insAll_snoc]
        rfl
      have e2 : up { m with s := m.s + n, sn := insAll m.sn (k.take (n + 1)) } = oneM m k (n + 1) := by
        unfold up oneM
        simp only
        rw [show m.s + (n : Int) + 1 = m.s + ((n + 1 : Nat) : Int) by omega]
      refine .inr (.inr ⟨hchk n (by omega), fun i z hz y hy => ?_, 0, ?_, .inr ⟨rfl, rfl, ?_⟩⟩)
      · have hi0 : i = 0 := by have := lt_of_get' hz; simp at this; omega
        subst hi0
        simp at hz
        subst hz
        simp only [List.take_zero, List.append_nil] at hy
        exact hda n x hx y ((insAll_perm m.sn (k.take n)).mem_iff.1 hy)
      · rw [e, e2]; exact hchk (n + 1) (by omega)
      · rw [e, e2]
    · have hka : insAll m.sn k = insAll m.sn l := strict_unique (by have := DistA.insAll hst hda k.length (Nat.le_refl _); rwa [List.take_length] at this) hsa ((insAll_perm m.sn k).trans ((List.Perm.append_left m.sn hp).trans (insAll_perm m.sn l).symm))
      rw [h5]
      unfold oneM up
      simp only [List.take_length, hka]
theorem tmod_in (a : Int) {n : Int} (h : 0 < n) : -n < a.tmod n ∧ a.tmod n < n ∧ (0 ≤ a → 0 ≤ a.tmod n) := ⟨Int.lt_tmod_of_pos a h, Int.tmod_lt_of_pos a h, fun h => Int.tmod_nonneg n h⟩
theorem encQ_set (l : List Sn3) (k : Nat) (x : Sn3) (h : k < l.length) : putAt (encQ l) (k * 3) (encQ1 x) = encQ (l.set k x) := putAt_flat encQ1 3 (fun _ => rfl) x l k h
theorem ManiMany_spec (w : World) (m : Man) (a b : Option Addr) (c d : Nat) (l : List Sn3) (t0 t1 : Int) (hl : Rd w 3 a m.sn.length c (encQ m.sn)) (hx : Rd w 3 b l.length d (encQ l)) : Spec Try.prog 5 #[.agg #[.string ⟨List.toArray m.v⟩, .int .u64 ((m.k : Nat) : Int), .int .i64 m.s, .int .i64 m.z, .string ⟨List.toArray m.b⟩, .int .i64 m.bq, .slice a m.sn.length c], .slice b l.length d, .agg #[.int .i64 t0, .int .i64 t1]] w (fun _ => False) (fun v A => v = .bool true ∧ A = []) := by
  have hb1 := hl.bd'
  have hb2 := hx.bd'
  refine Spec.enter (args := [.agg #[.string ⟨List.toArray m.v⟩, .int .u64 ((m.k : Nat) : Int), .int .i64 m.s, .int .i64 m.z, .string ⟨List.toArray m.b⟩, .int .i64 m.bq, .slice a m.sn.length c], .slice b l.length d, .agg #[.int .i64 t0, .int .i64 t1]]) (A := []) Try.func5 rfl Try.ntmps5 rfl (fun _ h => h) ?_
  (refine X.seq ?_ <;> (refine X.text (L := (.op .fin 0 (.op .fin 1 (.op .fin 2 .nil)))) rfl (by kernel_rfl) ?_ <;>
    (refine XL.boxN rfl rfl rfl rfl (by intro g; infer_instance) (fun g3 => ?_)) <;>
    (refine XL.boxN rfl rfl rfl rfl (by intro g; infer_instance) (fun g5 => ?_)) <;>
    ((apply XL.det0F rfl rfl rfl rfl; exact D.assign rfl)) <;>
    (refine XL.nil ?_)) <;> (first | refine Ex.then ?_ | (refine N.next ?_ <;> (refine X.seq ?_ <;> (refine X.seq ?_ <;> (refine X.text (L := (.op .fin 0 (.op .fin 1 (.op .fin 2 (.op .fin 3 (.op .fin 4 (.op .fin 5 (.op .fin 6 (.op .fin 7 (.op .fin 8 (.op .fin 9 (.op .fin 10 (.op .fin 11 (.op .fin 12 (.op .fin 13 (.op .fin 14 (.op .fin 15 (.op .fin 16 (.op .fin 17 (.op .fin 18 .nil)))))))))))))))))))) rfl (by kernel_rfl) ?_ <;>
    ((apply XL.detF rfl rfl rfl rfl; first | exact D.load1 rfl (fun w h => h.cellAt (Loc.at_) rfl) | exact D.loadN rfl rfl (fun w h j u hu => by rw [at_add, Nat.zero_add]; exact h.cellAt (Loc.at_) hu) | exact D.loadP rfl rfl)) <;>
    ((refine XL.call rfl rfl rfl rfl (fun w hw => Few_spec m a c w (hl.conf0 hw)) ?_; rintro v B' ⟨rfl, rfl⟩; refine XL.both ?_); (by_cases hf : FewM m <;> first | rw [decide_eq_true hf] | rw [decide_eq_false hf])) <;>
    ((apply XL.det0F rfl rfl rfl rfl; exact D.not rfl)) <;>
    ((apply XL.det0F rfl rfl rfl rfl; exact D.move rfl)) <;>
    (first | refine XL.skipF rfl rfl rfl rfl ?_ | ((apply XL.det0F rfl rfl rfl rfl; exact D.move rfl))) <;>
    (first | refine XL.skipF rfl rfl rfl rfl ?_ | ((apply XL.det0F rfl rfl rfl rfl; first | exact D.len rfl | exact D.lenL rfl | exact D.lenS rfl))) <;>
    (first | refine XL.skipF rfl rfl rfl rfl ?_ | (first | refine XL.skipF rfl rfl rfl rfl ?_ | refine XL.splitF rfl rfl rfl rfl (D.int rfl rfl rfl) (fun h1 => ?_) (fun h1 => ?_))) <;>
    ((apply XL.det0F rfl rfl rfl rfl; first | exact D.pickT rfl rfl | exact D.pickF rfl rfl | exact D.pick rfl rfl rfl)) <;>
    ((apply XL.det0F rfl rfl rfl rfl; exact D.move rfl)) <;>
    (first | refine XL.skipF rfl rfl rfl rfl ?_ | ((apply XL.det0F rfl rfl rfl rfl; exact D.move rfl))) <;>
    (first | refine XL.skipF rfl rfl rfl rfl ?_ | ((apply XL.det0F rfl rfl rfl rfl; first | exact D.len rfl | exact D.lenL rfl | exact D.lenS rfl))) <;>
    (first | refine XL.skipF rfl rfl rfl rfl ?_ | (first | refine XL.skipF rfl rfl rfl rfl ?_ | refine XL.splitF rfl rfl rfl rfl (D.int rfl rfl rfl) (fun h2 => ?_) (fun h2 => ?_))) <;>
    ((apply XL.det0F rfl rfl rfl rfl; first | exact D.pickT rfl rfl | exact D.pickF rfl rfl | exact D.pick rfl rfl rfl)) <;>
    ((apply XL.det0F rfl rfl rfl rfl; exact D.move rfl)) <;>
    (first | refine XL.skipF rfl rfl rfl rfl ?_ | ((apply XL.det0F rfl rfl rfl rfl; exact D.move rfl))) <;>
    (first | refine XL.skipF rfl rfl rfl rfl ?_ | ((apply XL.det0F rfl rfl rfl rfl; exact D.build rfl))) <;>
    (first | refine XL.skipF rfl rfl rfl rfl ?_ | (first | refine XL.skipF rfl rfl rfl rfl ?_ | ((refine XL.call rfl rfl rfl rfl (fun w hw => Few_spec ⟨[], 0, 0, 0, [], 0, l⟩ b d w (hx.conf0 hw)) ?_; rintro v B' ⟨rfl, rfl⟩; refine XL.both ?_); (by_cases hf2 : FewM ⟨[], 0, 0, 0, [], 0, l⟩ <;> first | rw [decide_eq_true hf2] | rw [decide_eq_false hf2])))) <;>
    (first | refine XL.skipF rfl rfl rfl rfl ?_ | ((apply XL.det0F rfl rfl rfl rfl; exact D.not rfl))) <;>
    ((apply XL.det0F rfl rfl rfl rfl; first | exact D.pickT rfl rfl | exact D.pickF rfl rfl | exact D.pick rfl rfl rfl)) <;>
    (refine XL.nil ?_)) <;> (first | refine Ex.then ?_ | (refine N.next ?_ <;> ((
    refine X.cond rfl ?_ ?_; rotate_left; (focus (
    intro hc; first | exact absurd hc (by decide) | (cases hc; done) | (refine X.skip ?_))); rotate_right; (focus (
    intro hc; first | exact absurd hc (by decide) | (cases hc; done) | (refine X.seq ?_ <;> (refine X.text (L := (.op .fin 0 (.op .fin 1 .nil))) rfl (by kernel_rfl) ?_ <;>
    ((refine XL.call rfl rfl rfl rfl (fun w hw => awake_spec w) ?_; rintro v B' ⟨rfl, rfl⟩; refine XL.both ?_)) <;>
    ((apply XL.det0F rfl rfl rfl rfl; exact D.assign rfl)) <;>
    (refine XL.nil ?_)) <;> (first | refine Ex.then ?_ | (refine N.next ?_ <;> ((refine X.ret ?_; (repeat (first | refine Rt.then ?_ | refine Rt.block ?_ | refine Rt.scope ?_)); (first | apply Rt.done (Res.r1 Try.results5 (RV.tmp rfl)) | apply Rt.doneM (Res.r1 Try.results5 (RV.tmp rfl))); (focus (exact ⟨rfl, rfl⟩)); exact fun w h => h.takes)))))))))))) <;> (first | refine Ex.then ?_ | (refine N.next ?_ <;> (refine X.seq ?_ <;> (refine X.text (L := (.op .fin 0 (.op .fin 1 (.op .fin 2 (.op .fin 3 (.op .fin 4 (.op .fin 5 (.op .fin 6 (.op .fin 7 (.op .fin 8 .nil)))))))))) rfl (by kernel_rfl) ?_ <;>
    ((apply XL.detF rfl rfl rfl rfl; first | exact D.load1 rfl (fun w h => h.cellAt (Loc.at_) rfl) | exact D.loadN rfl rfl (fun w h j u hu => by rw [at_add, Nat.zero_add]; exact h.cellAt (Loc.at_) hu) | exact D.loadP rfl rfl)) <;>
    ((apply XL.det0F rfl rfl rfl rfl; exact D.move rfl)) <;>
    (have hfb := hf.2; (refine XL.call rfl rfl rfl rfl (fun w hw => With_spec m a c l b d w (hl.conf0 hw) (hx.conf0 hw) (by omega)) ?_; rintro v B' ⟨all, ea, aa, ca, rfl, hWa, rfl⟩; refine XL.both ?_)) <;>
    ((apply XL.det0F rfl rfl rfl rfl; exact D.move rfl)) <;>
    ((apply XL.det0F rfl rfl rfl rfl; exact D.extract rfl rfl)) <;>
    ((apply XL.det0F rfl rfl rfl rfl; exact D.extract rfl rfl)) <;>
    (refine XL.alloc rfl rfl rfl (by intro g; infer_instance) (fun g7 => ?_)) <;>
    (first | refine XL.store1 rfl rfl rfl rfl rfl ?_ | refine XL.storeN rfl rfl rfl rfl rfl rfl ?_) <;>
    ((apply XL.det0F rfl rfl rfl rfl; exact D.assign rfl)) <;>
    (refine XL.nil ?_)) <;> (first | refine Ex.then ?_ | (refine N.next ?_ <;> (refine X.seq ?_ <;> (refine X.seq ?_ <;> (refine X.text (L := (.op .fin 0 (.op .fin 1 (.op .fin 2 (.op .fin 3 (.op .fin 4 (.op .fin 5 (.op .fin 6 .nil)))))))) rfl (by kernel_rfl) ?_ <;>
    ((apply XL.det0F rfl rfl rfl rfl; exact D.move rfl)) <;>
    (refine XL.splitF rfl rfl rfl rfl (D.int rfl rfl rfl) (fun h3 => ?_) (fun h3 => ?_)) <;>
    ((apply XL.det0F rfl rfl rfl rfl; exact D.move rfl)) <;>
    (first | refine XL.skipF rfl rfl rfl rfl ?_ | ((apply XL.det0F rfl rfl rfl rfl; first | exact D.fieldAddrB0 rfl rfl | exact D.fieldAddrB rfl rfl | exact D.fieldAddrE0 rfl rfl | exact D.fieldAddrE rfl rfl))) <;>
    (first | refine XL.skipF rfl rfl rfl rfl ?_ | ((apply XL.detF rfl rfl rfl rfl; first | exact D.load1 rfl (fun w h => h.cellAt (Loc.at_) rfl) | exact D.loadN rfl rfl (fun w h j u hu => by rw [at_add, Nat.zero_add]; exact h.cellAt (Loc.at_) hu) | exact D.loadP rfl rfl))) <;>
    (first | refine XL.skipF rfl rfl rfl rfl ?_ | (first | refine XL.skipF rfl rfl rfl rfl ?_ | refine XL.splitF rfl rfl rfl rfl (D.int rfl rfl rfl) (fun h4 => ?_) (fun h4 => ?_))) <;>
    ((apply XL.det0F rfl rfl rfl rfl; first | exact D.pickT rfl rfl | exact D.pickF rfl rfl | exact D.pick rfl rfl rfl)) <;>
    (refine XL.nil ?_)) <;> (first | refine Ex.then ?_ | (refine N.next ?_ <;> ((
    refine X.cond rfl ?_ ?_; rotate_left; (focus (
    intro hc; first | exact absurd hc (by decide) | (cases hc; done) | (refine X.skip ?_))); rotate_right; (focus (
    intro hc; first | exact absurd hc (by decide) | (cases hc; done) | (refine X.seq ?_ <;> (refine X.text (L := (.op .fin 0 (.op .fin 1 .nil))) rfl (by kernel_rfl) ?_ <;>
    ((refine XL.call rfl rfl rfl rfl (fun w hw => awake_spec w) ?_; rintro v B' ⟨rfl, rfl⟩; refine XL.both ?_)) <;>
    ((apply XL.det0F rfl rfl rfl rfl; exact D.assign rfl)) <;>
    (refine XL.nil ?_)) <;> (first | refine Ex.then ?_ | (refine N.next ?_ <;> ((refine X.ret ?_; (repeat (first | refine Rt.then ?_ | refine Rt.block ?_ | refine Rt.scope ?_)); (first | apply Rt.done (Res.r1 Try.results5 (RV.tmp rfl)) | apply Rt.doneM (Res.r1 Try.results5 (RV.tmp rfl))); (focus (exact ⟨rfl, rfl⟩)); exact fun w h => h.takes)))))))))))) <;> (first | refine Ex.then ?_ | (refine N.next ?_ <;> (refine X.seq ?_ <;> (refine X.text (L := (.op .fin 0 (.op .fin 1 (.op .fin 2 .nil)))) rfl (by kernel_rfl) ?_ <;>
    ((obtain rfl : ea = 0 := (by omega)); refine XL.mem (fun w h => h.nilOwn 56 3) ?_; (apply XL.det0F rfl rfl rfl rfl; exact D.move rfl)) <;>
    ((refine XL.appendR (news := encQ l) rfl rfl rfl rfl rfl (fun w hw => hx.conf0 hw) (encQ_one l) (by unfold maxLen; omega) (fun _ _ => by infer_instance) (fun a1 c1 => ?_)); rw [Nat.zero_add, List.nil_append]; have hlen : 0 < l.length ∧ l.length ≤ 10 := (by omega); refine XL.fact (fun w h => (h.rd (a := a1)).sm (by omega)) (fun hsome => ?_)) <;>
    ((apply XL.det0F rfl rfl rfl rfl; exact D.assign rfl)) <;>
    (refine XL.nil ?_)) <;> (first | refine Ex.then ?_ | (refine N.next ?_ <;> (refine X.seq ?_ <;> (refine X.text (L := (.op .fin 0 (.op .fin 1 (.op .fin 2 (.op .fin 3 (.op .fin 4 (.op .fin 5 (.op .fin 6 (.op .fin 7 (.op .fin 8 (.op .fin 9 (.op .fin 10 (.op .fin 11 .nil))))))))))))) rfl (by kernel_rfl) ?_ <;>
    ((apply XL.det0F rfl rfl rfl rfl; exact D.indexArr 0 rfl rfl rfl (by decide))) <;>
    ((apply XL.detF rfl rfl rfl rfl; first | exact D.load1 rfl (fun w h => h.cellAt (Loc.at_) rfl) | exact D.loadN rfl rfl (fun w h j u hu => by rw [at_add, Nat.zero_add]; exact h.cellAt (Loc.at_) hu) | exact D.loadP rfl rfl)) <;>
    ((apply XL.det0F rfl rfl rfl rfl; exact D.move rfl)) <;>
    ((apply XL.det0F rfl rfl rfl rfl; first | exact D.len rfl | exact D.lenL rfl | exact D.lenS rfl)) <;>
    ((apply XL.det0F rfl rfl rfl rfl; exact D.rem rfl rfl (by omega)); have hr0 := tmod_in t0 (n := (l.length : Int)) (by omega); obtain ⟨r0, hr0e⟩ : ∃ r, t0.tmod (l.length : Int) = r := (⟨_, rfl⟩); rw [hr0e] at hr0 ⊢) <;>
    ((apply XL.det0F rfl rfl rfl rfl; exact D.move rfl)) <;>
    ((apply XL.det0F rfl rfl rfl rfl; first | exact D.len rfl | exact D.lenL rfl | exact D.lenS rfl)) <;>
    ((apply XL.det0F rfl rfl rfl rfl; exact D.add64 rfl rfl (by omega))) <;>
    ((apply XL.det0F rfl rfl rfl rfl; exact D.move rfl)) <;>
    ((apply XL.det0F rfl rfl rfl rfl; first | exact D.len rfl | exact D.lenL rfl | exact D.lenS rfl)) <;>
    ((apply XL.det0F rfl rfl rfl rfl; exact D.rem rfl rfl (by omega)); have hi0 := tmod_in (r0 + l.length) (n := (l.length : Int)) (by omega); obtain ⟨i, hie⟩ : ∃ i : Nat, (r0 + l.length).tmod (l.length : Int) = i := (⟨((r0 + l.length).tmod (l.length : Int)).toNat, by have := hi0.2.2 (by omega); omega⟩); rw [hie] at hi0 ⊢) <;>
    ((apply XL.det0F rfl rfl rfl rfl; exact D.assign rfl)) <;>
    (refine XL.nil ?_)) <;> (first | refine Ex.then ?_ | (refine N.next ?_ <;> (refine X.seq ?_ <;> (refine X.text (L := (.op .fin 0 (.op .fin 1 (.op .fin 2 (.op .fin 3 (.op .fin 4 (.op .fin 5 (.op .fin 6 (.op .fin 7 (.op .fin 8 (.op .fin 9 (.op .fin 10 (.op .fin 11 .nil))))))))))))) rfl (by kernel_rfl) ?_ <;>
    ((apply XL.det0F rfl rfl rfl rfl; exact D.indexArr 1 rfl rfl rfl (by decide))) <;>
    ((apply XL.detF rfl rfl rfl rfl; first | exact D.load1 rfl (fun w h => h.cellAt (Loc.at_) rfl) | exact D.loadN rfl rfl (fun w h j u hu => by rw [at_add, Nat.zero_add]; exact h.cellAt (Loc.at_) hu) | exact D.loadP rfl rfl)) <;>
    ((apply XL.det0F rfl rfl rfl rfl; exact D.move rfl)) <;>
    ((apply XL.det0F rfl rfl rfl rfl; first | exact D.len rfl | exact D.lenL rfl | exact D.lenS rfl)) <;>
    ((apply XL.det0F rfl rfl rfl rfl; exact D.rem rfl rfl (by omega)); have hr1 := tmod_in t1 (n := (l.length : Int)) (by omega); obtain ⟨r1, hr1e⟩ : ∃ r, t1.tmod (l.length : Int) = r := (⟨_, rfl⟩); rw [hr1e] at hr1 ⊢) <;>
    ((apply XL.det0F rfl rfl rfl rfl; exact D.move rfl)) <;>
    ((apply XL.det0F rfl rfl rfl rfl; first | exact D.len rfl | exact D.lenL rfl | exact D.lenS rfl)) <;>
    ((apply XL.det0F rfl rfl rfl rfl; exact D.add64 rfl rfl (by omega))) <;>
    ((apply XL.det0F rfl rfl rfl rfl; exact D.move rfl)) <;>
    ((apply XL.det0F rfl rfl rfl rfl; first | exact D.len rfl | exact D.lenL rfl | exact D.lenS rfl)) <;>
    ((apply XL.det0F rfl rfl rfl rfl; exact D.rem rfl rfl (by omega)); have hk0 := tmod_in (r1 + l.length) (n := (l.length : Int)) (by omega); obtain ⟨j, hke⟩ : ∃ i : Nat, (r1 + l.length).tmod (l.length : Int) = i := (⟨((r1 + l.length).tmod (l.length : Int)).toNat, by have := hk0.2.2 (by omega); omega⟩); rw [hke] at hk0 ⊢; have hil : i < l.length := (by omega); have hkl : j < l.length := (by omega)) <;>
    ((apply XL.det0F rfl rfl rfl rfl; exact D.assign rfl)) <;>
    (refine XL.nil ?_)) <;> (first | refine Ex.then ?_ | (refine N.next ?_ <;> (refine X.seq ?_ <;> (refine X.draw (.op .v0 0 (.op .v0 1 (.op .v0 2 (.op .v0 3 (.op .v0 4 (.op .v0 5 (.op .v0 6 (.op .v1 7 (.op .v0 8 (.op .v0 9 (.op .v0 10 (.op .v1 11 (.op .v0 12 (.op .fin 13 (.op .v0 14 (.op .fin 15 .nil)))))))))))))))) mixed (by kernel_rfl) ?_ <;>
    ((apply XL.det0 rfl rfl rfl rfl; exact D.move rfl)) <;>
    ((apply XL.det0 rfl rfl rfl rfl; exact D.move rfl)) <;>
    ((apply XL.det0 rfl rfl rfl rfl; exact D.move rfl)) <;>
    ((apply XL.det0 rfl rfl rfl rfl; exact D.move rfl)) <;>
    ((apply XL.det0 rfl rfl rfl rfl; exact D.move rfl)) <;>
    ((apply XL.det0 rfl rfl rfl rfl; exact D.move rfl)) <;>
    ((apply XL.det0 rfl rfl rfl rfl; exact D.indexAddr j rfl rfl rfl hkl hsome)) <;>
    ((apply XL.det1 rfl rfl rfl rfl; exact D.loadN rfl rfl (fun w hw j' u hu => Rd.snap (hw.rd (a := a1)) (List.getElem?_eq_getElem hkl) j' u hu))) <;>
    ((apply XL.det0 rfl rfl rfl rfl; exact D.move rfl)) <;>
    ((apply XL.det0 rfl rfl rfl rfl; exact D.move rfl)) <;>
    ((apply XL.det0 rfl rfl rfl rfl; exact D.indexAddr i rfl rfl rfl hil hsome)) <;>
    ((apply XL.det1 rfl rfl rfl rfl; exact D.loadN rfl rfl (fun w hw j' u hu => Rd.snap (hw.rd (a := a1)) (List.getElem?_eq_getElem hil) j' u hu))) <;>
    ((apply XL.det0 rfl rfl rfl rfl; exact D.indexAddr i rfl rfl rfl hil hsome)) <;>
    ((refine XL.storeE (encQ (l.set i l[j])) rfl rfl rfl rfl rfl (by omega) (encQ_set l i l[j] hil) ?_)) <;>
    ((apply XL.det0 rfl rfl rfl rfl; exact D.indexAddr j rfl rfl rfl hkl hsome)) <;>
    (have hsl : (l.set i l[j]).length = l.length := List.length_set; (refine XL.storeE (encQ ((l.set i l[j]).set j l[i])) rfl rfl rfl rfl rfl (by omega) (encQ_set (l.set i l[j]) j l[i] (by omega)) ?_); have hperm := List.set_set_perm hil hkl; obtain ⟨k, hme⟩ : ∃ k, (l.set i l[j]).set j l[i] = k := (⟨_, rfl⟩); rw [hme] at hperm ⊢; have hml := hperm.length_eq; have hM := many hWa hperm (by omega) hlen.2; have h0 := oneM_zero m k) <;>
    (refine XL.nil ?_)) <;> (first | refine Ex.then ?_ | (refine N.next ?_ <;> (refine X.seq ?_ <;> (refine X.text (L := (.op .fin 0 (.op .fin 1 (.op .fin 2 .nil)))) rfl (by kernel_rfl) ?_ <;>
    ((apply XL.detF rfl rfl rfl rfl; first | exact D.load1 rfl (fun w h => h.cellAt (Loc.at_) rfl) | exact D.loadN rfl rfl (fun w h j u hu => by rw [at_add, Nat.zero_add]; exact h.cellAt (Loc.at_) hu) | exact D.loadP rfl rfl)) <;>
    (refine XL.alloc rfl rfl rfl (by intro g; infer_instance) (fun g12 => ?_)) <;>
    (first | refine XL.store1 rfl rfl rfl rfl rfl ?_ | refine XL.storeN rfl rfl rfl rfl rfl rfl ?_) <;>
    (refine XL.nil ?_)) <;> (first | refine Ex.then ?_ | (refine N.next ?_ <;> (refine X.seq ?_ <;> (refine X.seq ?_ <;> (refine X.text (L := (.op .fin 0 .nil)) rfl (by kernel_rfl) ?_ <;>
    (rw [show (cells g12 [.string ⟨List.toArray m.v⟩, .int .u64 ((m.k : Nat) : Int), .int .i64 m.s, .int .i64 m.z, .string ⟨List.toArray m.b⟩, .int .i64 m.bq, .slice a m.sn.length c] 29 : Assn) = cells g12 [.string ⟨List.toArray ((oneM m k 0).v)⟩, .int .u64 (((oneM m k 0).k : Nat) : Int), .int .i64 (oneM m k 0).s, .int .i64 (oneM m k 0).z, .string ⟨List.toArray ((oneM m k 0).b)⟩, .int .i64 (oneM m k 0).bq, .slice a (oneM m k 0).sn.length c] 29 from (by rw [h0])]; refine XL.mem (B := [vw 3 a m.sn.length c (encQ m.sn) 56 3 a (oneM m k 0).sn.length c (encQ (oneM m k 0).sn), cells g12 [.string ⟨List.toArray ((oneM m k 0).v)⟩, .int .u64 (((oneM m k 0).k : Nat) : Int), .int .i64 (oneM m k 0).s, .int .i64 (oneM m k 0).z, .string ⟨List.toArray ((oneM m k 0).b)⟩, .int .i64 (oneM m k 0).bq, .slice a (oneM m k 0).sn.length c] 29, cells g7 [.string ⟨List.toArray all.v⟩, .int .u64 ((all.k : Nat) : Int), .int .i64 all.s, .int .i64 all.z, .string ⟨List.toArray all.b⟩, .int .i64 all.bq, .slice aa all.sn.length ca] 29, own 56 3 (.slice aa (List.length all.sn) ca) (List.length all.sn) (encQ all.sn), own 56 3 (.slice a1 l.length c1) l.length (encQ k)]) (fun w h => (h.takes : Conf _ [cells g12 [.string ⟨List.toArray ((oneM m k 0).v)⟩, .int .u64 (((oneM m k 0).k : Nat) : Int), .int .i64 (oneM m k 0).s, .int .i64 (oneM m k 0).z, .string ⟨List.toArray ((oneM m k 0).b)⟩, .int .i64 (oneM m k 0).bq, .slice a (oneM m k 0).sn.length c] 29, cells g7 [.string ⟨List.toArray all.v⟩, .int .u64 ((all.k : Nat) : Int), .int .i64 all.s, .int .i64 all.z, .string ⟨List.toArray all.b⟩, .int .i64 all.bq, .slice aa all.sn.length ca] 29, own 56 3 (.slice aa (List.length all.sn) ca) (List.length all.sn) (encQ all.sn), own 56 3 (.slice a1 l.length c1) l.length (encQ k)] w).vwNew (fun w' h => by rw [h0]; exact h)) ?_; (apply XL.det0F rfl rfl rfl rfl; exact D.assign rfl)) <;>
    (refine XL.nil ?_)) <;> (first | refine Ex.then ?_ | (refine N.next ?_ <;> (refine X.block ?_ <;> ((refine X.loop (ι := Nat × Option Addr × Nat) (fun y => [(7, .pointer (some ⟨g7, 0, none⟩)), (9, .slice a1 l.length c1), (12, .pointer (some ⟨g12, 0, none⟩)), (13, .int .i64 y.1)]) (fun y => [vw 3 a m.sn.length c (encQ m.sn) 56 3 y.2.1 (oneM m k y.1).sn.length y.2.2 (encQ (oneM m k y.1).sn), cells g12 [.string ⟨List.toArray ((oneM m k y.1).v)⟩, .int .u64 (((oneM m k y.1).k : Nat) : Int), .int .i64 (oneM m k y.1).s, .int .i64 (oneM m k y.1).z, .string ⟨List.toArray ((oneM m k y.1).b)⟩, .int .i64 (oneM m k y.1).bq, .slice y.2.1 (oneM m k y.1).sn.length y.2.2] 29, cells g7 [.string ⟨List.toArray all.v⟩, .int .u64 ((all.k : Nat) : Int), .int .i64 all.s, .int .i64 all.z, .string ⟨List.toArray all.b⟩, .int .i64 all.bq, .slice aa all.sn.length ca] 29, own 56 3 (.slice aa (List.length all.sn) ca) (List.length all.sn) (encQ all.sn), own 56 3 (.slice a1 l.length c1) l.length (encQ k)]) (fun y => y.1 ≤ l.length) (fun y => l.length - y.1) ((0, a, c)) ?_ ?_ ?_ ?_; (focus (exact Nat.zero_le _)); (focus (repeat (first | exact Sub.nil | refine Sub.cons rfl ?_))); (focus (exact (fun w h => h.takes))); rintro ⟨n, an, cn⟩ hn; (dsimp only at *)) <;> (refine X.seq ?_ <;> (refine X.seq ?_ <;> (refine X.text (L := (.op .fin 0 (.op .fin 1 (.op .fin 2 (.op .fin 3 .nil))))) rfl (by kernel_rfl) ?_ <;>
    ((apply XL.det0F rfl rfl rfl rfl; exact D.move rfl)) <;>
    ((apply XL.det0F rfl rfl rfl rfl; exact D.move rfl)) <;>
    ((apply XL.det0F rfl rfl rfl rfl; first | exact D.len rfl | exact D.lenL rfl | exact D.lenS rfl)) <;>
    (refine XL.splitF rfl rfl rfl rfl (D.int rfl rfl rfl) (fun h5 => ?_) (fun h5 => ?_)) <;>
    (refine XL.nil ?_)) <;> (first | refine Ex.then ?_ | (refine N.next ?_ <;> ((
    refine X.cond rfl ?_ ?_; rotate_left; (focus (
    intro hc; first | exact absurd hc (by decide) | (cases hc; done) | (refine X.exit ?_))); rotate_right; (focus (
    intro hc; first | exact absurd hc (by decide) | (cases hc; done) | (refine X.skip ?_)))))))) <;> (first | refine Ex.then ?_ | (refine N.next ?_ <;> (refine X.seq ?_ <;> (refine X.block ?_ <;> (refine X.seq ?_ <;> (refine X.draw (.op .v1 0 (.op .v0 1 (.op .v0 2 (.op .v0 3 (.op .v1 4 (.br (.op .ch 5 (.br (.op .ch 6 (.op .v0 7 (.op .v0 8 (.op .v0 9 (.op .ch 10 (.op .fin 11 (.op .v0 12 .nil))))))) (.op .ch 10 (.op .ch 6 (.op .v0 7 (.op .v0 8 (.op .v0 9 (.op .fin 11 (.op .v0 12 .nil))))))))) (.op .ch 10 (.op .ch 5 (.op .ch 6 (.op .v0 7 (.op .v0 8 (.op .v0 9 (.op .fin 11 (.op .v0 12 .nil)))))))))))))) mixed (by kernel_rfl) ?_ <;>
    ((apply XL.det1 rfl rfl rfl rfl; first | exact D.load1 rfl (fun w h => h.cellAt (Loc.at_) rfl) | exact D.loadN rfl rfl (fun w h j u hu => by rw [at_add, Nat.zero_add]; exact h.cellAt (Loc.at_) hu) | exact D.loadP rfl rfl)) <;>
    ((apply XL.det0 rfl rfl rfl rfl; exact D.move rfl)) <;>
    ((apply XL.det0 rfl rfl rfl rfl; exact D.move rfl)) <;>
    (have hnl : n < l.length := (by omega); obtain ⟨x, hxn⟩ := get_lt' (l := k) (k := n) (by omega); have hon := oneM_len m k n (by omega); (apply XL.det0 rfl rfl rfl rfl; exact D.indexAddr n rfl rfl rfl hnl hsome)) <;>
    ((apply XL.det1 rfl rfl rfl rfl; exact D.loadN rfl rfl (fun w hw j' u hu => Rd.snap (hw.rd (a := a1)) hxn j' u hu))) <;>
    ((repeat refine XL.br ?_ ?_) <;> first | ((refine XL.at 5 ?_) <;> ((refine XL.sliceL (fun x : Sn3 => .agg #[.string ⟨List.toArray x.n⟩, .int .i64 x.q, .int .i64 x.u]) encQ1 [x] (fun _ => rfl) (fun _ => rfl) rfl rfl rfl rfl rfl rfl (fun _ => by infer_instance) (fun gk => ?_))) <;> ((repeat refine XL.br ?_ ?_) <;> first | ((refine XL.at 6 ?_) <;> ((refine XL.call rfl rfl rfl rfl (fun w hw => With_spec (oneM m k n) an cn [x] (some ⟨gk, 0, none⟩) 1 w (hw.vrd (a := an) (hl.conf0 hw)) (hw.rd (a := some ⟨gk, 0, none⟩)) (by rw [hon]; simp only [List.length_singleton]; omega)) ?_; rintro v B' ⟨rn, en, ar, cr, rfl, hWn, rfl⟩; refine XL.both ?_); obtain ⟨hrn, hen⟩ := hWn.unique (hM.step n x hxn); subst hrn; subst hen) <;> ((apply XL.det0 rfl rfl rfl rfl; exact D.move rfl)) <;> ((apply XL.det0 rfl rfl rfl rfl; exact D.extract rfl rfl)) <;> ((apply XL.det0 rfl rfl rfl rfl; exact D.extract rfl rfl)) <;> (refine XL.alloc rfl rfl rfl (by intro g; infer_instance) (fun g => ?_)) <;> (first | refine XL.store1 rfl rfl rfl rfl rfl ?_ | refine XL.storeN rfl rfl rfl rfl rfl rfl ?_) <;> ((apply XL.det0 rfl rfl rfl rfl; exact D.assign rfl)) <;> (refine XL.nil ?_)) | ((refine XL.at 10 ?_) <;> (refine XL.alloc rfl rfl rfl (by intro g; infer_instance) (fun g => ?_)) <;> ((refine XL.call rfl rfl rfl rfl (fun w hw => With_spec (oneM m k n) an cn [x] (some ⟨gk, 0, none⟩) 1 w (hw.vrd (a := an) (hl.conf0 hw)) (hw.rd (a := some ⟨gk, 0, none⟩)) (by rw [hon]; simp only [List.length_singleton]; omega)) ?_; rintro v B' ⟨rn, en, ar, cr, rfl, hWn, rfl⟩; refine XL.both ?_); obtain ⟨hrn, hen⟩ := hWn.unique (hM.step n x hxn); subst hrn; subst hen) <;> ((apply XL.det0 rfl rfl rfl rfl; exact D.move rfl)) <;> ((apply XL.det0 rfl rfl rfl rfl; exact D.extract rfl rfl)) <;> ((apply XL.det0 rfl rfl rfl rfl; exact D.extract rfl rfl)) <;> (first | refine XL.store1 rfl rfl rfl rfl rfl ?_ | refine XL.storeN rfl rfl rfl rfl rfl rfl ?_) <;> ((apply XL.det0 rfl rfl rfl rfl; exact D.assign rfl)) <;> (refine XL.nil ?_)))) | ((refine XL.at 10 ?_) <;> (refine XL.alloc rfl rfl rfl (by intro g; infer_instance) (fun g => ?_)) <;> ((refine XL.sliceL (fun x : Sn3 => .agg #[.string ⟨List.toArray x.n⟩, .int .i64 x.q, .int .i64 x.u]) encQ1 [x] (fun _ => rfl) (fun _ => rfl) rfl rfl rfl rfl rfl rfl (fun _ => by infer_instance) (fun gk => ?_))) <;> ((refine XL.call rfl rfl rfl rfl (fun w hw => With_spec (oneM m k n) an cn [x] (some ⟨gk, 0, none⟩) 1 w (hw.vrd (a := an) (hl.conf0 hw)) (hw.rd (a := some ⟨gk, 0, none⟩)) (by rw [hon]; simp only [List.length_singleton]; omega)) ?_; rintro v B' ⟨rn, en, ar, cr, rfl, hWn, rfl⟩; refine XL.both ?_); obtain ⟨hrn, hen⟩ := hWn.unique (hM.step n x hxn); subst hrn; subst hen) <;> ((apply XL.det0 rfl rfl rfl rfl; exact D.move rfl)) <;> ((apply XL.det0 rfl rfl rfl rfl; exact D.extract rfl rfl)) <;> ((apply XL.det0 rfl rfl rfl rfl; exact D.extract rfl rfl)) <;> (first | refine XL.store1 rfl rfl rfl rfl rfl ?_ | refine XL.storeN rfl rfl rfl rfl rfl rfl ?_) <;> ((apply XL.det0 rfl rfl rfl rfl; exact D.assign rfl)) <;> (refine XL.nil ?_)))) <;> (first | refine Ex.then ?_ | (refine N.next ?_ <;> (refine X.seq ?_ <;> (refine X.seq ?_ <;> (refine X.text (L := (.op .fin 0 (.op .fin 1 (.op .fin 2 (.op .fin 3 (.op .fin 4 (.op .fin 5 (.op .fin 6 (.op .fin 7 (.op .fin 8 (.op .fin 9 .nil))))))))))) rfl (by kernel_rfl) ?_ <;>
    ((apply XL.det0F rfl rfl rfl rfl; exact D.move rfl)) <;>
    (first | refine XL.cmpTF rfl rfl rfl rfl (D.int rfl rfl rfl) (by omega) ?_ | refine XL.cmpFF rfl rfl rfl rfl (D.int rfl rfl rfl) (by omega) ?_ | refine XL.splitF rfl rfl rfl rfl (D.int rfl rfl rfl) (fun _ => ?_) (fun _ => ?_) | refine XL.cmpTF rfl rfl rfl rfl (D.neS2 rfl rfl) (by omega) ?_ | refine XL.cmpFF rfl rfl rfl rfl (D.neS2 rfl rfl) (by omega) ?_ | refine XL.splitF rfl rfl rfl rfl (D.neS2 rfl rfl) (fun _ => ?_) (fun _ => ?_) | (apply XL.det0F rfl rfl rfl rfl; first | exact D.neNilS rfl rfl | exact D.boolNe rfl rfl | exact D.neNilP rfl rfl)) <;>
    ((apply XL.det0F rfl rfl rfl rfl; exact D.move rfl)) <;>
    (first | refine XL.skipF rfl rfl rfl rfl ?_ | ((apply XL.det0F rfl rfl rfl rfl; first | exact D.fieldAddrB0 rfl rfl | exact D.fieldAddrB rfl rfl | exact D.fieldAddrE0 rfl rfl | exact D.fieldAddrE rfl rfl))) <;>
    (first | refine XL.skipF rfl rfl rfl rfl ?_ | ((apply XL.detF rfl rfl rfl rfl; first | exact D.load1 rfl (fun w h => h.cellAt (Loc.at_) rfl) | exact D.loadN rfl rfl (fun w h j u hu => by rw [at_add, Nat.zero_add]; exact h.cellAt (Loc.at_) hu) | exact D.loadP rfl rfl))) <;>
    (first | refine XL.skipF rfl rfl rfl rfl ?_ | ((apply XL.det0F rfl rfl rfl rfl; first | exact D.fieldAddrB0 rfl rfl | exact D.fieldAddrB rfl rfl | exact D.fieldAddrE0 rfl rfl | exact D.fieldAddrE rfl rfl))) <;>
    (first | refine XL.skipF rfl rfl rfl rfl ?_ | ((apply XL.detF rfl rfl rfl rfl; first | exact D.load1 rfl (fun w h => h.cellAt (Loc.at_) rfl) | exact D.loadN rfl rfl (fun w h j u hu => by rw [at_add, Nat.zero_add]; exact h.cellAt (Loc.at_) hu) | exact D.loadP rfl rfl))) <;>
    (first | refine XL.skipF rfl rfl rfl rfl ?_ | (have hsv : (oneM m k n).s = m.s + n ∧ (oneM m k (n + 1)).s = m.s + ((n + 1 : Nat) : Int) := ⟨rfl, rfl⟩; (apply XL.det0F rfl rfl rfl rfl; exact D.add64 rfl rfl (by have := hM.ms; omega)))) <;>
    (first | refine XL.skipF rfl rfl rfl rfl ?_ | (refine XL.cmpFF rfl rfl rfl rfl (D.int rfl rfl rfl) (by omega) ?_)) <;>
    ((apply XL.det0F rfl rfl rfl rfl; first | exact D.pickT rfl rfl | exact D.pickF rfl rfl | exact D.pick rfl rfl rfl)) <;>
    (refine XL.nil ?_)) <;> (first | refine Ex.then ?_ | (refine N.next ?_ <;> ((
    refine X.cond rfl ?_ ?_; rotate_left; (focus (
    intro hc; first | exact absurd hc (by decide) | (cases hc; done) | (refine X.skip ?_))); rotate_right; (focus (
    intro hc; first | exact absurd hc (by decide) | (cases hc; done) | (refine X.seq ?_ <;> (refine X.text (L := (.op .fin 0 .nil)) rfl (by kernel_rfl) ?_ <;>
    ((apply XL.det0F rfl rfl rfl rfl; exact D.assign rfl)) <;>
    (refine XL.nil ?_)) <;> (first | refine Ex.then ?_ | (refine N.next ?_ <;> ((refine X.ret ?_; (repeat (first | refine Rt.then ?_ | refine Rt.block ?_ | refine Rt.scope ?_)); (first | apply Rt.done (Res.r1 Try.results5 (RV.tmp rfl)) | apply Rt.doneM (Res.r1 Try.results5 (RV.tmp rfl))); (focus (exact ⟨rfl, rfl⟩)); exact fun w h => h.takes)))))))))))) <;> (first | refine Ex.then ?_ | (refine N.next ?_ <;> (refine X.text (L := (.op .fin 0 (.op .fin 1 .nil))) rfl (by kernel_rfl) ?_ <;>
    ((apply XL.detF rfl rfl rfl rfl; first | exact D.load1 rfl (fun w h => h.cellAt (Loc.at_) rfl) | exact D.loadN rfl rfl (fun w h j u hu => by rw [at_add, Nat.zero_add]; exact h.cellAt (Loc.at_) hu) | exact D.loadP rfl rfl)) <;>
    ((refine XL.storeN rfl rfl rfl rfl rfl rfl ?_); refine XL.mem (B := [vw 3 a m.sn.length c (encQ m.sn) 56 3 ar (oneM m k (n + 1)).sn.length cr (encQ (oneM m k (n + 1)).sn), cells g12 [.string ⟨List.toArray ((oneM m k (n + 1)).v)⟩, .int .u64 (((oneM m k (n + 1)).k : Nat) : Int), .int .i64 (oneM m k (n + 1)).s, .int .i64 (oneM m k (n + 1)).z, .string ⟨List.toArray ((oneM m k (n + 1)).b)⟩, .int .i64 (oneM m k (n + 1)).bq, .slice ar (oneM m k (n + 1)).sn.length cr] 29, cells g7 [.string ⟨List.toArray all.v⟩, .int .u64 ((all.k : Nat) : Int), .int .i64 all.s, .int .i64 all.z, .string ⟨List.toArray all.b⟩, .int .i64 all.bq, .slice aa all.sn.length ca] 29, own 56 3 (.slice aa (List.length all.sn) ca) (List.length all.sn) (encQ all.sn), own 56 3 (.slice a1 l.length c1) l.length (encQ k)]) (fun w h => (h.takes : Conf _ [own 56 3 (.slice ar (List.length ((oneM m k (n + 1)).sn)) cr) (List.length ((oneM m k (n + 1)).sn)) (encQ ((oneM m k (n + 1)).sn)), cells g12 [.string ⟨List.toArray ((oneM m k (n + 1)).v)⟩, .int .u64 (((oneM m k (n + 1)).k : Nat) : Int), .int .i64 (oneM m k (n + 1)).s, .int .i64 (oneM m k (n + 1)).z, .string ⟨List.toArray ((oneM m k (n + 1)).b)⟩, .int .i64 (oneM m k (n + 1)).bq, .slice ar (oneM m k (n + 1)).sn.length cr] 29, cells g7 [.string ⟨List.toArray all.v⟩, .int .u64 ((all.k : Nat) : Int), .int .i64 all.s, .int .i64 all.z, .string ⟨List.toArray all.b⟩, .int .i64 all.bq, .slice aa all.sn.length ca] 29, own 56 3 (.slice aa (List.length all.sn) ca) (List.length all.sn) (encQ all.sn), own 56 3 (.slice a1 l.length c1) l.length (encQ k)] w).vwOwn) ?_) <;>
    (refine XL.nil ?_)))))))) <;> (first | refine N.block ?_ | refine Ex.here ?_ | refine Ex.out rfl ?_)) <;> (first | refine Ex.then ?_ | (refine N.next ?_ <;> (refine X.text (L := (.op .fin 0 (.op .fin 1 (.op .fin 2 .nil)))) rfl (by kernel_rfl) ?_ <;>
    ((apply XL.det0F rfl rfl rfl rfl; exact D.move rfl)) <;>
    ((apply XL.det0F rfl rfl rfl rfl; first | exact D.add64 rfl rfl (by omega) | exact D.int rfl rfl rfl)) <;>
    ((apply XL.det0F rfl rfl rfl rfl; exact D.assign rfl)) <;>
    (refine XL.nil ?_)))))))) <;> (first | refine Ex.then ?_ | ((refine N.again ((n + 1, ar, cr)) ?_ ?_ ?_ ?_; (focus ((dsimp only; omega))); (focus (first | omega | (dsimp only; omega))); (focus (repeat (first | exact Sub.nil | refine Sub.cons rfl ?_))); exact (fun w h => h.takes))))) <;> (first | refine N.block ?_ | refine Ex.here ?_ | refine Ex.out rfl ?_))))) <;> (first | refine Ex.then ?_ | (refine N.next ?_ <;> (refine X.seq ?_ <;> (refine X.text (L := (.op .fin 0 (.op .fin 1 (.op .fin 2 (.op .fin 3 .nil))))) rfl (by kernel_rfl) ?_ <;>
    ((apply XL.det0F rfl rfl rfl rfl; first | exact D.fieldAddrB0 rfl rfl | exact D.fieldAddrB rfl rfl | exact D.fieldAddrE0 rfl rfl | exact D.fieldAddrE rfl rfl)) <;>
    ((apply XL.detF rfl rfl rfl rfl; first | exact D.load1 rfl (fun w h => h.cellAt (Loc.at_) rfl) | exact D.loadN rfl rfl (fun w h j u hu => by rw [at_add, Nat.zero_add]; exact h.cellAt (Loc.at_) hu) | exact D.loadP rfl rfl)) <;>
    ((apply XL.det0F rfl rfl rfl rfl; first | exact D.fieldAddrB0 rfl rfl | exact D.fieldAddrB rfl rfl | exact D.fieldAddrE0 rfl rfl | exact D.fieldAddrE rfl rfl)) <;>
    (first | refine XL.store1 rfl rfl rfl rfl rfl ?_ | refine XL.storeN rfl rfl rfl rfl rfl rfl ?_) <;>
    (refine XL.nil ?_)) <;> (first | refine Ex.then ?_ | (refine N.next ?_ <;> (refine X.seq ?_ <;> (refine X.text (L := (.op .fin 0 (.op .fin 1 (.op .fin 2 (.op .fin 3 (.op .fin 4 (.op .fin 5 (.op .fin 6 .nil)))))))) rfl (by kernel_rfl) ?_ <;>
    ((apply XL.detF rfl rfl rfl rfl; first | exact D.load1 rfl (fun w h => h.cellAt (Loc.at_) rfl) | exact D.loadN rfl rfl (fun w h j u hu => by rw [at_add, Nat.zero_add]; exact h.cellAt (Loc.at_) hu) | exact D.loadP rfl rfl)) <;>
    ((apply XL.detF rfl rfl rfl rfl; first | exact D.load1 rfl (fun w h => h.cellAt (Loc.at_) rfl) | exact D.loadN rfl rfl (fun w h j u hu => by rw [at_add, Nat.zero_add]; exact h.cellAt (Loc.at_) hu) | exact D.loadP rfl rfl)) <;>
    ((obtain rfl : n = l.length := (by omega)); (refine XL.call rfl rfl rfl rfl (fun w hw => Same_spec w { oneM m k l.length with s := all.s } all an aa cn ca (hw.vrd (a := an) (hl.conf0 hw)) (hw.rd (a := aa))) ?_; rintro v B' ⟨rfl, rfl⟩; refine XL.both ?_); rw [decide_eq_true (show { oneM m k l.length with s := all.s } = all from (by rw [← hml]; exact hM.fin))]) <;>
    ((apply XL.det0F rfl rfl rfl rfl; exact D.move rfl)) <;>
    (first | refine XL.skipF rfl rfl rfl rfl ?_ | ((refine XL.call rfl rfl rfl rfl (fun w hw => awake_spec w) ?_; rintro v B' ⟨rfl, rfl⟩; refine XL.both ?_))) <;>
    ((apply XL.det0F rfl rfl rfl rfl; first | exact D.pickT rfl rfl | exact D.pickF rfl rfl | exact D.pick rfl rfl rfl)) <;>
    ((apply XL.det0F rfl rfl rfl rfl; exact D.assign rfl)) <;>
    (refine XL.nil ?_)) <;> (first | refine Ex.then ?_ | (refine N.next ?_ <;> ((refine X.ret ?_; (repeat (first | refine Rt.then ?_ | refine Rt.block ?_ | refine Rt.scope ?_)); (first | apply Rt.done (Res.r1 Try.results5 (RV.tmp rfl)) | apply Rt.doneM (Res.r1 Try.results5 (RV.tmp rfl))); (focus (exact ⟨rfl, rfl⟩)); exact fun w h => h.takes))))))))))))))))))))))))))))))))))))))
end Go.Lx
