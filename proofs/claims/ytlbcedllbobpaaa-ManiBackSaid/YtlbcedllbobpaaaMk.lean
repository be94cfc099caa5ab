/- A manifest's bytes: Encode, and the chapter's example. -/
import Derived.Test.YtlbcedllbobpaaaMj
import Derived.Test.YtlbcedllbobpaaaCb
import Derived.Test.YtlbcedllbobpaaaCc
namespace Go.Lx
open Go.Proofs
set_option linter.unusedVariables false
set_option linter.unusedSimpArgs false
set_option maxRecDepth 20000
set_option maxHeartbeats 4000000
def mgc : Bs := [77, 65, 78, 50]
def snB (x : Sn3) : Bs := textB x.n ++ varB x.q.toNat ++ varB x.u.toNat
def headM (m : Man) : Bs := textB m.v ++ (fixB m.k 8 ++ (varB m.s.toNat ++ (varB m.z.toNat ++ (textB m.b ++ (varB m.bq.toNat ++ varB m.sn.length)))))
def manB (m : Man) : Bs := headM m ++ m.sn.flatMap snB
theorem headM_len {m : Man} (h : IsChkM m 0) : (headM m).length ≤ 200 := by
  obtain ⟨h1, h2, h3, _⟩ := h.names
  have hv := h2.2.2
  have hb : m.b.length ≤ 32 := by
    rcases h3 with ⟨h, _⟩ | ⟨h, _⟩
    · rw [h]; simp
    · exact h.2.2
  have a1 := textB_len m.v
  have a2 := textB_len m.b
  have a3 := varB_le m.s.toNat
  have a4 := varB_le m.z.toNat
  have a5 := varB_le m.bq.toNat
  have a6 := varB_le m.sn.length
  have a7 := fixB_len m.k 8
  simp only [headM, List.length_append]
  omega
theorem snB_len {l : List Sn3} (h : NamesTo l l.length) : ∀ i, ((l.take i).flatMap snB).length ≤ 100 * i := by
  intro i
  induction i with
  | zero => simp
  | succ i ih =>
    by_cases hi : i < l.length
    · obtain ⟨x, hx⟩ := get_lt' hi
      have h64 := (h i x hi hx).2.1
      rw [← take_snoc' hx, List.flatMap_append, List.length_append]
      have b1 := textB_len x.n
      have b2 := varB_le x.q.toNat
      have b3 := varB_le x.u.toNat
      have : ([x].flatMap snB).length ≤ 100 := by
        simp only [List.flatMap_cons, List.flatMap_nil, List.append_nil, snB, List.length_append]
        omega
      omega
    · rw [List.take_of_length_le (by omega)]
      rw [List.take_of_length_le (by omega)] at ih
      omega
theorem Encode_spec (m : Man) (a : Option Addr) (c : Nat) (w : World) (hl : Rd w 3 a m.sn.length c (encQ m.sn)) : Spec Try.prog 18 #[.agg #[.string ⟨List.toArray m.v⟩, .int .u64 ((m.k : Nat) : Int), .int .i64 m.s, .int .i64 m.z, .string ⟨List.toArray m.b⟩, .int .i64 m.bq, .slice a m.sn.length c]] w (fun _ => False) (fun v A => ∃ (r : Bs) (e : Int), v = .tuple #[.string ⟨List.toArray r⟩, .int .i64 e] ∧ IsChkM m e ∧ (e ≠ 0 → r = []) ∧ (e = 0 → r = sealS (mgc ++ manB m)) ∧ A = []) := by
  refine Spec.enter (args := [.agg #[.string ⟨List.toArray m.v⟩, .int .u64 ((m.k : Nat) : Int), .int .i64 m.s, .int .i64 m.z, .string ⟨List.toArray m.b⟩, .int .i64 m.bq, .slice a m.sn.length c]]) (A := []) Try.func18 rfl Try.ntmps18 rfl (fun _ h => h) ?_
  refine X.mem (B := [own 5 1 (.slice none 0 0) 0 []]) (fun w h => h.nilOwn 5 1) ?_
  (refine X.seq ?_ <;> (refine X.text (L := (.op .fin 0 (.op .fin 1 (.op .fin 2 .nil)))) rfl (by kernel_rfl) ?_ <;>
    (refine XL.boxN rfl rfl rfl rfl (by intro g; infer_instance) (fun g1 => ?_)) <;>
    ((apply XL.det0F rfl rfl rfl rfl; exact D.assign rfl)) <;>
    ((apply XL.det0F rfl rfl rfl rfl; exact D.assign rfl)) <;>
    (refine XL.nil ?_)) <;> (first | refine Ex.then ?_ | (refine N.next ?_ <;> (refine X.seq ?_ <;> (refine X.seq ?_ <;> (refine X.text (L := (.op .fin 0 (.op .fin 1 (.op .fin 2 .nil)))) rfl (by kernel_rfl) ?_ <;>
    ((apply XL.detF rfl rfl rfl rfl; first | exact D.load1 rfl (fun w h => h.cellAt (Loc.at_) rfl) | exact D.loadN rfl rfl (fun w h j u hu => by rw [at_add, Nat.zero_add]; exact h.cellAt (Loc.at_) hu) | exact D.loadP rfl rfl)) <;>
    ((refine XL.call rfl rfl rfl rfl (fun w hw => Check_spec m a c w (hl.conf0 hw)) ?_; rintro v B' ⟨e, rfl, hq, rfl⟩; refine XL.both ?_)) <;>
    ((apply XL.det0F rfl rfl rfl rfl; exact D.assign rfl)) <;>
    (refine XL.nil ?_)) <;> (first | refine Ex.then ?_ | (refine N.next ?_ <;> (refine X.seq ?_ <;> (refine X.text (L := (.op .fin 0 (.op .fin 1 .nil))) rfl (by kernel_rfl) ?_ <;>
    ((apply XL.det0F rfl rfl rfl rfl; exact D.move rfl)) <;>
    (refine XL.splitF rfl rfl rfl rfl (D.int rfl rfl rfl) (fun h1 => ?_) (fun h1 => ?_)) <;>
    (refine XL.nil ?_)) <;> (first | refine Ex.then ?_ | (refine N.next ?_ <;> ((
    refine X.cond rfl ?_ ?_; rotate_left; (focus (
    intro hc; first | exact absurd hc (by decide) | (cases hc; done) | (refine X.skip ?_))); rotate_right; (focus (
    intro hc; first | exact absurd hc (by decide) | (cases hc; done) | (refine X.seq ?_ <;> (refine X.text (L := (.op .fin 0 (.op .fin 1 (.op .fin 2 .nil)))) rfl (by kernel_rfl) ?_ <;>
    ((apply XL.det0F rfl rfl rfl rfl; exact D.move rfl)) <;>
    ((apply XL.det0F rfl rfl rfl rfl; exact D.assign rfl)) <;>
    ((apply XL.det0F rfl rfl rfl rfl; exact D.assign rfl)) <;>
    (refine XL.nil ?_)) <;> (first | refine Ex.then ?_ | (refine N.next ?_ <;> ((refine X.ret ?_; (repeat (first | refine Rt.then ?_ | refine Rt.block ?_ | refine Rt.scope ?_)); (first | apply Rt.done (Res.r2 Try.results18 (RV.tmp rfl) (RV.tmp rfl)) | apply Rt.doneM (Res.r2 Try.results18 (RV.tmp rfl) (RV.tmp rfl))); (focus (first | exact ⟨[], e, rfl, hq, fun _ => rfl, fun h => absurd h h1, rfl⟩ | exact ⟨sealS o, 0, rfl, hq, fun h => absurd rfl h, fun _ => by rw [ho, hk6]; simp [manB], rfl⟩)); exact fun w h => h.takes))))))))))))))) <;> (first | refine Ex.then ?_ | (refine N.next ?_ <;> (refine X.seq ?_ <;> (refine X.text (L := (.op .fin 0 .nil)) rfl (by kernel_rfl) ?_ <;>
    (refine XL.alloc rfl rfl rfl (by intro g; infer_instance) (fun g5 => ?_)) <;>
    (refine XL.nil ?_)) <;> (first | refine Ex.then ?_ | (refine N.next ?_ <;> (refine X.seq ?_ <;> (refine X.text (L := (.op .fin 0 (.op .fin 1 .nil))) rfl (by kernel_rfl) ?_ <;>
    ((obtain rfl : e = 0 := (by omega)); have hck := hq.names; have hhd := headM_len hq; have hsn := snB_len hck.1; obtain ⟨hn1, hvo, hbo, hs1, hz1, hz2, hnu, h100⟩ := hck; have hbq : nmS m.bq := (by rcases hbo with h | h; rw [h.2]; (unfold nmS; omega); exact h.2.2); unfold nmS at hs1 hbq; simp only [headM, List.length_append] at hhd; obtain ⟨l0, hl0⟩ : ∃ l0 : Bs, l0 = [] := (⟨_, rfl⟩); refine XL.mem (B := [cells g5 [.slice none (List.length l0) 0] 88, own 5 1 (.slice none (List.length l0) 0) (List.length l0) (encY l0), cells g1 [.string ⟨List.toArray m.v⟩, .int .u64 ((m.k : Nat) : Int), .int .i64 m.s, .int .i64 m.z, .string ⟨List.toArray m.b⟩, .int .i64 m.bq, .slice a m.sn.length c] 29]) (fun w h => by subst hl0; exact (h.takes : Conf _ [cells g5 [.slice none 0 0] 88, own 5 1 (.slice none 0 0) 0 [], cells g1 [.string ⟨List.toArray m.v⟩, .int .u64 ((m.k : Nat) : Int), .int .i64 m.s, .int .i64 m.z, .string ⟨List.toArray m.b⟩, .int .i64 m.bq, .slice a m.sn.length c] 29] w)) ?_; (refine XL.sliceL (fun s : Bs => .string ⟨s.toArray⟩) encT1 [mgc] (fun _ => rfl) (fun _ => rfl) rfl rfl rfl rfl rfl rfl (fun _ => by infer_instance) (fun ga => ?_))) <;>
    ((refine XL.callF [cells g5 [.slice none (List.length l0) 0] 88, own 5 1 (.slice none (List.length l0) 0) (List.length l0) (encY l0)] rfl rfl rfl rfl (fun w F hF hm hw => ORaw_spec w F g5 none (some ⟨ga, 0, none⟩) 0 1 l0 [mgc] hF (hm.own (a := some ⟨ga, 0, none⟩)) ⟨by rw [hl0]; decide, by decide⟩) ?_; rintro v B' ⟨a1, c1, o1, rfl, ho1, rfl⟩; refine XL.both ?_); have hk1 : o1 = mgc := (by rw [ho1, hl0]; rfl); have hb1 : o1.length = 4 := (by rw [hk1]; rfl)) <;>
    (refine XL.nil ?_)) <;> (first | refine Ex.then ?_ | (refine N.next ?_ <;> (refine X.seq ?_ <;> (refine X.text (L := (.op .fin 0 (.op .fin 1 (.op .fin 2 (.op .fin 3 .nil))))) rfl (by kernel_rfl) ?_ <;>
    ((apply XL.det0F rfl rfl rfl rfl; first | exact D.fieldAddrB0 rfl rfl | exact D.fieldAddrB rfl rfl | exact D.fieldAddrE0 rfl rfl | exact D.fieldAddrE rfl rfl)) <;>
    ((apply XL.detF rfl rfl rfl rfl; first | exact D.load1 rfl (fun w h => h.cellAt (Loc.at_) rfl) | exact D.loadN rfl rfl (fun w h j u hu => by rw [at_add, Nat.zero_add]; exact h.cellAt (Loc.at_) hu) | exact D.loadP rfl rfl)) <;>
    ((refine XL.sliceL (fun s : Bs => .string ⟨s.toArray⟩) encT1 [m.v] (fun _ => rfl) (fun _ => rfl) rfl rfl rfl rfl rfl rfl (fun _ => by infer_instance) (fun gb => ?_))) <;>
    (have hvl : m.v.length ≤ 32 := hvo.2.2; (refine XL.callF [cells g5 [.slice a1 (List.length o1) c1] 88, own 5 1 (.slice a1 (List.length o1) c1) (List.length o1) (encY o1)] rfl rfl rfl rfl (fun w F hF hm hw => OText_spec w F g5 a1 (some ⟨gb, 0, none⟩) c1 1 o1 m.v hF (hm.own (a := some ⟨gb, 0, none⟩)) (by omega)) ?_; rintro v B' ⟨a2, c2, o2, rfl, ho2, rfl⟩; refine XL.both ?_); have hb2 : o2.length = o1.length + (textB m.v).length := (by rw [ho2, List.length_append])) <;>
    (refine XL.nil ?_)) <;> (first | refine Ex.then ?_ | (refine N.next ?_ <;> (refine X.seq ?_ <;> (refine X.text (L := (.op .fin 0 (.op .fin 1 (.op .fin 2 .nil)))) rfl (by kernel_rfl) ?_ <;>
    ((apply XL.det0F rfl rfl rfl rfl; first | exact D.fieldAddrB0 rfl rfl | exact D.fieldAddrB rfl rfl | exact D.fieldAddrE0 rfl rfl | exact D.fieldAddrE rfl rfl)) <;>
    ((apply XL.detF rfl rfl rfl rfl; first | exact D.load1 rfl (fun w h => h.cellAt (Loc.at_) rfl) | exact D.loadN rfl rfl (fun w h j u hu => by rw [at_add, Nat.zero_add]; exact h.cellAt (Loc.at_) hu) | exact D.loadP rfl rfl)) <;>
    ((refine XL.callF [cells g5 [.slice a2 (List.length o2) c2] 88, own 5 1 (.slice a2 (List.length o2) c2) (List.length o2) (encY o2)] rfl rfl rfl rfl (fun w F hF hm hw => OFixed_spec w F g5 a2 c2 o2 m.k 8 hF (by decide) (by omega)) ?_; rintro v B' ⟨a3, c3, o3, rfl, ho3, rfl⟩; refine XL.both ?_); have hb3 : o3.length = o2.length + (fixB m.k 8).length := (by rw [ho3, List.length_append])) <;>
    (refine XL.nil ?_)) <;> (first | refine Ex.then ?_ | (refine N.next ?_ <;> (refine X.seq ?_ <;> (refine X.text (L := (.op .fin 0 (.op .fin 1 (.op .fin 2 (.op .fin 3 (.op .fin 4 (.op .fin 5 (.op .fin 6 (.op .fin 7 .nil))))))))) rfl (by kernel_rfl) ?_ <;>
    ((apply XL.det0F rfl rfl rfl rfl; first | exact D.fieldAddrB0 rfl rfl | exact D.fieldAddrB rfl rfl | exact D.fieldAddrE0 rfl rfl | exact D.fieldAddrE rfl rfl)) <;>
    ((apply XL.detF rfl rfl rfl rfl; first | exact D.load1 rfl (fun w h => h.cellAt (Loc.at_) rfl) | exact D.loadN rfl rfl (fun w h j u hu => by rw [at_add, Nat.zero_add]; exact h.cellAt (Loc.at_) hu) | exact D.loadP rfl rfl)) <;>
    ((apply XL.det0F rfl rfl rfl rfl; exact D.convI rfl (by omega))) <;>
    ((apply XL.det0F rfl rfl rfl rfl; first | exact D.fieldAddrB0 rfl rfl | exact D.fieldAddrB rfl rfl | exact D.fieldAddrE0 rfl rfl | exact D.fieldAddrE rfl rfl)) <;>
    ((apply XL.detF rfl rfl rfl rfl; first | exact D.load1 rfl (fun w h => h.cellAt (Loc.at_) rfl) | exact D.loadN rfl rfl (fun w h j u hu => by rw [at_add, Nat.zero_add]; exact h.cellAt (Loc.at_) hu) | exact D.loadP rfl rfl)) <;>
    ((apply XL.det0F rfl rfl rfl rfl; exact D.convI rfl (by omega))) <;>
    ((refine XL.sliceL (fun n : Nat => .int .u64 (n : Int)) encW1 [m.s.toNat, m.z.toNat] (fun _ => rfl) (fun _ => rfl) rfl rfl rfl rfl rfl rfl (fun _ => by infer_instance) (fun gc => ?_))) <;>
    ((refine XL.callF [cells g5 [.slice a3 (List.length o3) c3] 88, own 5 1 (.slice a3 (List.length o3) c3) (List.length o3) (encY o3)] rfl rfl rfl rfl (fun w F hF hm hw => OVar_spec w F g5 a3 (some ⟨gc, 0, none⟩) c3 2 o3 [m.s.toNat, m.z.toNat] hF (hm.own (a := some ⟨gc, 0, none⟩)) (fun z hz => by simp only [List.mem_cons, List.not_mem_nil, or_false] at hz; omega) (by simp only [List.length_cons, List.length_nil]; omega)) ?_; rintro v B' ⟨a4, c4, o4, rfl, ho4, rfl⟩; refine XL.both ?_); have hb4 : o4.length = o3.length + (varB m.s.toNat).length + (varB m.z.toNat).length := (by rw [ho4]; simp only [List.flatMap_cons, List.flatMap_nil, List.append_nil, List.length_append]; omega)) <;>
    (refine XL.nil ?_)) <;> (first | refine Ex.then ?_ | (refine N.next ?_ <;> (refine X.seq ?_ <;> (refine X.text (L := (.op .fin 0 (.op .fin 1 (.op .fin 2 (.op .fin 3 (.op .fin 4 .nil)))))) rfl (by kernel_rfl) ?_ <;>
    ((apply XL.det0F rfl rfl rfl rfl; first | exact D.fieldAddrB0 rfl rfl | exact D.fieldAddrB rfl rfl | exact D.fieldAddrE0 rfl rfl | exact D.fieldAddrE rfl rfl)) <;>
    ((apply XL.det0F rfl rfl rfl rfl; first | exact D.fieldAddrB0 rfl rfl | exact D.fieldAddrB rfl rfl | exact D.fieldAddrE0 rfl rfl | exact D.fieldAddrE rfl rfl)) <;>
    ((apply XL.detF rfl rfl rfl rfl; first | exact D.load1 rfl (fun w h => h.cellAt (Loc.at_) rfl) | exact D.loadN rfl rfl (fun w h j u hu => by rw [at_add, Nat.zero_add]; exact h.cellAt (Loc.at_) hu) | exact D.loadP rfl rfl)) <;>
    ((refine XL.sliceL (fun s : Bs => .string ⟨s.toArray⟩) encT1 [m.b] (fun _ => rfl) (fun _ => rfl) rfl rfl rfl rfl rfl rfl (fun _ => by infer_instance) (fun gd => ?_))) <;>
    (have hbl : m.b.length ≤ 32 := (by rcases hbo with h | h; rw [h.1]; simp; exact h.1.2.2); (refine XL.callF [cells g5 [.slice a4 (List.length o4) c4] 88, own 5 1 (.slice a4 (List.length o4) c4) (List.length o4) (encY o4)] rfl rfl rfl rfl (fun w F hF hm hw => OText_spec w F g5 a4 (some ⟨gd, 0, none⟩) c4 1 o4 m.b hF (hm.own (a := some ⟨gd, 0, none⟩)) (by omega)) ?_; rintro v B' ⟨a5, c5, o5, rfl, ho5, rfl⟩; refine XL.both ?_); have hb5 : o5.length = o4.length + (textB m.b).length := (by rw [ho5, List.length_append])) <;>
    (refine XL.nil ?_)) <;> (first | refine Ex.then ?_ | (refine N.next ?_ <;> (refine X.seq ?_ <;> (refine X.text (L := (.op .fin 0 (.op .fin 1 (.op .fin 2 (.op .fin 3 (.op .fin 4 (.op .fin 5 (.op .fin 6 (.op .fin 7 (.op .fin 8 (.op .fin 9 .nil))))))))))) rfl (by kernel_rfl) ?_ <;>
    ((apply XL.det0F rfl rfl rfl rfl; first | exact D.fieldAddrB0 rfl rfl | exact D.fieldAddrB rfl rfl | exact D.fieldAddrE0 rfl rfl | exact D.fieldAddrE rfl rfl)) <;>
    ((apply XL.det0F rfl rfl rfl rfl; first | exact D.fieldAddrB0 rfl rfl | exact D.fieldAddrB rfl rfl | exact D.fieldAddrE0 rfl rfl | exact D.fieldAddrE rfl rfl)) <;>
    ((apply XL.detF rfl rfl rfl rfl; first | exact D.load1 rfl (fun w h => h.cellAt (Loc.at_) rfl) | exact D.loadN rfl rfl (fun w h j u hu => by rw [at_add, Nat.zero_add]; exact h.cellAt (Loc.at_) hu) | exact D.loadP rfl rfl)) <;>
    ((apply XL.det0F rfl rfl rfl rfl; exact D.convI rfl (by omega))) <;>
    ((apply XL.det0F rfl rfl rfl rfl; first | exact D.fieldAddrB0 rfl rfl | exact D.fieldAddrB rfl rfl | exact D.fieldAddrE0 rfl rfl | exact D.fieldAddrE rfl rfl)) <;>
    ((apply XL.detF rfl rfl rfl rfl; first | exact D.load1 rfl (fun w h => h.cellAt (Loc.at_) rfl) | exact D.loadN rfl rfl (fun w h j u hu => by rw [at_add, Nat.zero_add]; exact h.cellAt (Loc.at_) hu) | exact D.loadP rfl rfl)) <;>
    ((apply XL.det0F rfl rfl rfl rfl; first | exact D.len rfl | exact D.lenL rfl | exact D.lenS rfl)) <;>
    ((apply XL.det0F rfl rfl rfl rfl; exact D.convI rfl (by omega)); rw [show ((m.sn.length : Nat) : Int).toNat = m.sn.length from Int.toNat_natCast _]) <;>
    ((refine XL.sliceL (fun n : Nat => .int .u64 (n : Int)) encW1 [m.bq.toNat, m.sn.length] (fun _ => rfl) (fun _ => rfl) rfl rfl rfl rfl rfl rfl (fun _ => by infer_instance) (fun ge => ?_))) <;>
    ((refine XL.callF [cells g5 [.slice a5 (List.length o5) c5] 88, own 5 1 (.slice a5 (List.length o5) c5) (List.length o5) (encY o5)] rfl rfl rfl rfl (fun w F hF hm hw => OVar_spec w F g5 a5 (some ⟨ge, 0, none⟩) c5 2 o5 [m.bq.toNat, m.sn.length] hF (hm.own (a := some ⟨ge, 0, none⟩)) (fun z hz => by simp only [List.mem_cons, List.not_mem_nil, or_false] at hz; omega) (by simp only [List.length_cons, List.length_nil]; omega)) ?_; rintro v B' ⟨a6, c6, o6, rfl, ho6, rfl⟩; refine XL.both ?_); have hk6 : o6 = mgc ++ headM m := (by rw [ho6, ho5, ho4, ho3, ho2, hk1]; simp [headM]); have hb6 : o6.length ≤ 204 := (by rw [hk6, List.length_append]; have := headM_len hq; have : mgc.length = 4 := rfl; omega)) <;>
    (refine XL.nil ?_)) <;> (first | refine Ex.then ?_ | (refine N.next ?_ <;> (refine X.seq ?_ <;> (refine X.seq ?_ <;> (refine X.text (L := (.op .fin 0 (.op .fin 1 (.op .fin 2 (.op .fin 3 .nil))))) rfl (by kernel_rfl) ?_ <;>
    ((apply XL.det0F rfl rfl rfl rfl; first | exact D.fieldAddrB0 rfl rfl | exact D.fieldAddrB rfl rfl | exact D.fieldAddrE0 rfl rfl | exact D.fieldAddrE rfl rfl)) <;>
    ((apply XL.detF rfl rfl rfl rfl; first | exact D.load1 rfl (fun w h => h.cellAt (Loc.at_) rfl) | exact D.loadN rfl rfl (fun w h j u hu => by rw [at_add, Nat.zero_add]; exact h.cellAt (Loc.at_) hu) | exact D.loadP rfl rfl)) <;>
    ((apply XL.det0F rfl rfl rfl rfl; first | exact D.len rfl | exact D.lenL rfl | exact D.lenS rfl)) <;>
    ((apply XL.det0F rfl rfl rfl rfl; exact D.move rfl)) <;>
    (refine XL.nil ?_)) <;> (first | refine Ex.then ?_ | (refine N.next ?_ <;> (refine X.block ?_ <;> ((refine X.loop (ι := Nat × Option Addr × Nat × Bs) (fun y => [(1, .pointer (some ⟨g1, 0, none⟩)), (5, .pointer (some ⟨g5, 0, none⟩)), (46, .slice a m.sn.length c), (47, .int .i64 m.sn.length), (48, .int .i64 y.1)]) (fun y => [cells g5 [.slice y.2.1 (List.length y.2.2.2) y.2.2.1] 88, own 5 1 (.slice y.2.1 (List.length y.2.2.2) y.2.2.1) (List.length y.2.2.2) (encY y.2.2.2)]) (fun y => y.1 ≤ m.sn.length ∧ y.2.2.2 = o6 ++ (m.sn.take y.1).flatMap snB) (fun y => m.sn.length - y.1) ((0, a6, c6, o6)) ?_ ?_ ?_ ?_; (focus (exact ⟨Nat.zero_le _, by simp⟩)); (focus (repeat (first | exact Sub.nil | refine Sub.cons rfl ?_))); (focus (exact (fun w h => h.takes))); rintro ⟨i, a7, c7, o⟩ ⟨hi, ho⟩; (dsimp only at *)) <;> (refine X.seq ?_ <;> (refine X.text (L := (.op .fin 0 .nil)) rfl (by kernel_rfl) ?_ <;>
    (refine XL.splitF rfl rfl rfl rfl (D.int rfl rfl rfl) (fun h2 => ?_) (fun h2 => ?_)) <;>
    (refine XL.nil ?_)) <;> (first | refine Ex.then ?_ | (refine N.next ?_ <;> (refine X.seq ?_ <;> ((
    refine X.cond rfl ?_ ?_; rotate_left; (focus (
    intro hc; first | exact absurd hc (by decide) | (cases hc; done) | (refine X.exit ?_))); rotate_right; (focus (
    intro hc; first | exact absurd hc (by decide) | (cases hc; done) | (refine X.skip ?_))))) <;> (first | refine Ex.then ?_ | (refine N.next ?_ <;> (refine X.seq ?_ <;> (refine X.block ?_ <;> (refine X.seq ?_ <;> (refine X.text (L := (.op .fin 0 (.op .fin 1 (.op .fin 2 (.op .fin 3 .nil))))) rfl (by kernel_rfl) ?_ <;>
    (have hil : i < m.sn.length := (by omega); obtain ⟨x, hx⟩ := get_lt' hil; have hol : o.length ≤ 204 + 100 * i := (by rw [ho, List.length_append]; have := hsn i; omega); have hx64 := (hn1 i x hil hx).2.1; have hxn := hnu i x hil hx; unfold nmS at hxn; (apply XL.det0F rfl rfl rfl rfl; exact D.indexAddr i rfl rfl rfl hil (hl.sm (by omega)))) <;>
    ((apply XL.detF rfl rfl rfl rfl; exact D.loadN rfl rfl (fun w hw j u hu => Rd.snap (hl.conf0 hw) hx j u hu))) <;>
    (refine XL.alloc rfl rfl rfl (by intro g; infer_instance) (fun g => ?_)) <;>
    (first | refine XL.store1 rfl rfl rfl rfl rfl ?_ | refine XL.storeN rfl rfl rfl rfl rfl rfl ?_) <;>
    (refine XL.nil ?_)) <;> (first | refine Ex.then ?_ | (refine N.next ?_ <;> (refine X.seq ?_ <;> (refine X.text (L := (.op .fin 0 (.op .fin 1 (.op .fin 2 (.op .fin 3 .nil))))) rfl (by kernel_rfl) ?_ <;>
    ((apply XL.det0F rfl rfl rfl rfl; first | exact D.fieldAddrB0 rfl rfl | exact D.fieldAddrB rfl rfl | exact D.fieldAddrE0 rfl rfl | exact D.fieldAddrE rfl rfl)) <;>
    ((apply XL.detF rfl rfl rfl rfl; first | exact D.load1 rfl (fun w h => h.cellAt (Loc.at_) rfl) | exact D.loadN rfl rfl (fun w h j u hu => by rw [at_add, Nat.zero_add]; exact h.cellAt (Loc.at_) hu) | exact D.loadP rfl rfl)) <;>
    ((refine XL.sliceL (fun s : Bs => .string ⟨s.toArray⟩) encT1 [x.n] (fun _ => rfl) (fun _ => rfl) rfl rfl rfl rfl rfl rfl (fun _ => by infer_instance) (fun gx => ?_))) <;>
    ((refine XL.callF [cells g5 [.slice a7 (List.length o) c7] 88, own 5 1 (.slice a7 (List.length o) c7) (List.length o) (encY o)] rfl rfl rfl rfl (fun w F hF hm hw => OText_spec w F g5 a7 (some ⟨gx, 0, none⟩) c7 1 o x.n hF (hm.own (a := some ⟨gx, 0, none⟩)) (by omega)) ?_; rintro v B' ⟨a8, c8, o8, rfl, ho8, rfl⟩; refine XL.both ?_); have hb8 : o8.length ≤ o.length + x.n.length + 9 := (by rw [ho8, List.length_append]; have := textB_len x.n; omega)) <;>
    (refine XL.nil ?_)) <;> (first | refine Ex.then ?_ | (refine N.next ?_ <;> (refine X.text (L := (.op .fin 0 (.op .fin 1 (.op .fin 2 (.op .fin 3 (.op .fin 4 (.op .fin 5 (.op .fin 6 (.op .fin 7 .nil))))))))) rfl (by kernel_rfl) ?_ <;>
    ((apply XL.det0F rfl rfl rfl rfl; first | exact D.fieldAddrB0 rfl rfl | exact D.fieldAddrB rfl rfl | exact D.fieldAddrE0 rfl rfl | exact D.fieldAddrE rfl rfl)) <;>
    ((apply XL.detF rfl rfl rfl rfl; first | exact D.load1 rfl (fun w h => h.cellAt (Loc.at_) rfl) | exact D.loadN rfl rfl (fun w h j u hu => by rw [at_add, Nat.zero_add]; exact h.cellAt (Loc.at_) hu) | exact D.loadP rfl rfl)) <;>
    ((apply XL.det0F rfl rfl rfl rfl; exact D.convI rfl (by omega))) <;>
    ((apply XL.det0F rfl rfl rfl rfl; first | exact D.fieldAddrB0 rfl rfl | exact D.fieldAddrB rfl rfl | exact D.fieldAddrE0 rfl rfl | exact D.fieldAddrE rfl rfl)) <;>
    ((apply XL.detF rfl rfl rfl rfl; first | exact D.load1 rfl (fun w h => h.cellAt (Loc.at_) rfl) | exact D.loadN rfl rfl (fun w h j u hu => by rw [at_add, Nat.zero_add]; exact h.cellAt (Loc.at_) hu) | exact D.loadP rfl rfl)) <;>
    ((apply XL.det0F rfl rfl rfl rfl; exact D.convI rfl (by omega))) <;>
    ((refine XL.sliceL (fun n : Nat => .int .u64 (n : Int)) encW1 [x.q.toNat, x.u.toNat] (fun _ => rfl) (fun _ => rfl) rfl rfl rfl rfl rfl rfl (fun _ => by infer_instance) (fun gy => ?_))) <;>
    ((refine XL.callF [cells g5 [.slice a8 (List.length o8) c8] 88, own 5 1 (.slice a8 (List.length o8) c8) (List.length o8) (encY o8)] rfl rfl rfl rfl (fun w F hF hm hw => OVar_spec w F g5 a8 (some ⟨gy, 0, none⟩) c8 2 o8 [x.q.toNat, x.u.toNat] hF (hm.own (a := some ⟨gy, 0, none⟩)) (fun z hz => by simp only [List.mem_cons, List.not_mem_nil, or_false] at hz; omega) (by simp only [List.length_cons, List.length_nil]; omega)) ?_; rintro v B' ⟨a9, c9, o9, rfl, ho9, rfl⟩; refine XL.both ?_)) <;>
    (refine XL.nil ?_)))))))) <;> (first | refine N.block ?_ | refine Ex.here ?_ | refine Ex.out rfl ?_)) <;> (first | refine Ex.then ?_ | (refine N.next ?_ <;> (refine X.text (L := (.op .fin 0 (.op .fin 1 .nil))) rfl (by kernel_rfl) ?_ <;>
    ((apply XL.det0F rfl rfl rfl rfl; first | exact D.add64 rfl rfl (by omega) | exact D.int rfl rfl rfl)) <;>
    ((apply XL.det0F rfl rfl rfl rfl; exact D.move rfl)) <;>
    (refine XL.nil ?_))))))))))) <;> (first | refine Ex.then ?_ | ((refine N.again ((i + 1, a9, c9, o9)) ?_ ?_ ?_ ?_; (focus (exact ⟨by dsimp only; omega, by dsimp only; rw [ho9, ho8, ho, ← take_snoc' hx]; simp [snB]⟩)); (focus (first | omega | (dsimp only; omega))); (focus (repeat (first | exact Sub.nil | refine Sub.cons rfl ?_))); exact (fun w h => h.takes))))) <;> (first | refine N.block ?_ | refine Ex.here ?_ | refine Ex.out rfl ?_))))) <;> (first | refine Ex.then ?_ | (refine N.next ?_ <;> (refine X.seq ?_ <;> (refine X.text (L := (.op .fin 0 (.op .fin 1 (.op .fin 2 (.op .fin 3 .nil))))) rfl (by kernel_rfl) ?_ <;>
    ((obtain rfl : i = m.sn.length := (by omega)); rw [List.take_length] at ho; have hol : o.length ≤ 20000 := (by have := hsn m.sn.length; rw [List.take_length] at this; rw [ho, List.length_append]; omega); (refine XL.call rfl rfl rfl rfl (fun w hw => OString_spec w g5 a7 c7 o (hw.cellAt (Loc.at_) rfl) (hw.rd (a := a7))) ?_; rintro v B' ⟨rfl, rfl⟩; refine XL.both ?_)) <;>
    ((refine XL.call rfl rfl rfl rfl (fun w hw => Seal_spec w o (by omega)) ?_; rintro v B' ⟨rfl, rfl⟩; refine XL.both ?_)) <;>
    ((apply XL.det0F rfl rfl rfl rfl; exact D.assign rfl)) <;>
    ((apply XL.det0F rfl rfl rfl rfl; exact D.assign rfl)) <;>
    (refine XL.nil ?_)) <;> (first | refine Ex.then ?_ | (refine N.next ?_ <;> ((refine X.ret ?_; (repeat (first | refine Rt.then ?_ | refine Rt.block ?_ | refine Rt.scope ?_)); (first | apply Rt.done (Res.r2 Try.results18 (RV.tmp rfl) (RV.tmp rfl)) | apply Rt.doneM (Res.r2 Try.results18 (RV.tmp rfl) (RV.tmp rfl))); (focus (first | exact ⟨[], e, rfl, hq, fun _ => rfl, fun h => absurd h h1, rfl⟩ | exact ⟨sealS o, 0, rfl, hq, fun h => absurd rfl h, fun _ => by rw [ho, hk6]; simp [manB], rfl⟩)); exact fun w h => h.takes)))))))))))))))))))))))))))))))))))
end Go.Lx
