/- Package extmap's walks, part f: a span's sectors are laid. -/
import Derived.Test.YtnljlpmeeeajmaaQb
namespace Go.Lx
open Go.Proofs
set_option linter.unusedVariables false
set_option linter.unusedSimpArgs false
set_option maxRecDepth 20000
set_option maxHeartbeats 2000000

theorem three_mem {w : World} {s1 s2 s3 : Sle} (h1 : Rd w 4 s1.a s1.l.length s1.c (encE s1.l)) (h2 : Rd w 4 s2.a s2.l.length s2.c (encE s2.l)) (h3 : Rd w 4 s3.a s3.l.length s3.c (encE s3.l)) : ∀ s ∈ [s1, s2, s3], Rd w 4 s.a s.l.length s.c (encE s.l) := fun s hs => by
  rcases List.mem_cons.1 hs with rfl | hs
  · exact h1
  · exact two_mem h2 h3 s hs

theorem endE_mono {lo lo' : Int} (l : List Ext) (h : lo ≤ lo') : endE lo l ≤ endE lo' l := by
  cases l with
  | nil => exact h
  | cons x l => exact Int.le_refl _
theorem lay_spec (w : World) (H : Nat → Prop) (gm : Nat) (a ax : Option Addr) (c cx : Nat) (l xs : List Ext) (s : Sp) (hown : Sep [cells gm [.slice a l.length c] 76, own 30 4 (.slice a l.length c) l.length (encE l), own 30 4 (.slice ax xs.length cx) xs.length (encE xs)] w H)
    (hr : Rise 0 l) (hs : mayS s) (hx : Rise s.1 xs) (hxe : endE s.1 xs ≤ s.1 + s.2) (hbd : l.length ≤ 100000 ∧ xs.length ≤ 100000) :
    Spec Try.prog 46 #[.pointer (some ⟨gm, 0, none⟩), .agg #[.int .i64 s.1, .int .i64 s.2], .slice ax xs.length cx] w H (fun v B => ∃ pi ci a2 c2 A I K l2, v = .slice pi (List.length I) ci ∧ Aro l s A I K ∧ JnI 0 (A ++ xs ++ K) (A ++ xs ++ K).length l2 ∧ I.length ≤ l.length ∧
      B = [cells gm [.slice a2 (List.length l2) c2] 76, own 30 4 (.slice a2 l2.length c2) l2.length (encE l2), own 30 4 (.slice pi I.length ci) I.length (encE I)]) := by
  refine Spec.enter (args := [.pointer (some ⟨gm, 0, none⟩), .agg #[.int .i64 s.1, .int .i64 s.2], .slice ax xs.length cx]) (A := [cells gm [.slice a l.length c] 76, own 30 4 (.slice a l.length c) l.length (encE l), own 30 4 (.slice ax xs.length cx) xs.length (encE xs)]) Try.func46 rfl Try.ntmps46 rfl hown ?_
  (refine X.seq ?_ <;> (refine X.text (L := (.op .fin 0 (.op .fin 1 .nil))) rfl ?_ <;>
    (first | refine XL.boxN rfl rfl rfl rfl (by intro g; infer_instance) (fun g => ?_) | refine XL.box1 rfl rfl rfl rfl rfl (by intro g; infer_instance) (fun g => ?_)) <;>
    ((apply XL.det0F rfl rfl rfl rfl; exact D.assign rfl)) <;>
    (refine XL.nil ?_)) <;> (first | refine Ex.then ?_ | (refine N.next ?_ <;> (refine X.seq ?_ <;> (refine X.text (L := (.op .fin 0 (.op .fin 1 (.op .fin 2 (.op .fin 3 (.op .fin 4 (.op .fin 5 (.op .fin 6 (.op .fin 7 (.op .fin 8 (.op .fin 9 .nil))))))))))) rfl ?_ <;>
    ((apply XL.det0F rfl rfl rfl rfl; exact D.move rfl)) <;>
    ((apply XL.detF rfl rfl rfl rfl; first | exact D.load1 rfl (fun w h => h.cellAt (Loc.at_) rfl) | exact D.loadN rfl rfl (fun w h j u hu => by rw [at_add, Nat.zero_add]; exact h.cellAt (Loc.at_) hu) | exact D.loadP rfl rfl)) <;>
    ((refine XL.call rfl rfl rfl rfl (fun w hw => around_spec w gm a c l s (hw.cellAt (i := 1) (o := 0) rfl rfl) (hw.rd (a := a)) hr hs (by omega)) ?_; rintro v B' ⟨k, m, pa, ca, pi, ci, pb, cb, hP, rfl, rfl⟩; refine XL.both ?_); have hA := aro_of hP hr hs; have hbl := aro_len s l (midL l k m) k m (midL l k m).length (by simp [midL]; omega); rw [List.take_length] at hbl; obtain ⟨A, hAe⟩ : ∃ A, ahE s (l.take k) (midL l k m) = A := (⟨_, rfl⟩); obtain ⟨I, hIe⟩ : ∃ I, inF s (midL l k m) = I := (⟨_, rfl⟩); obtain ⟨K, hKe⟩ : ∃ K, beE s (l.drop m) (midL l k m) = K := (⟨_, rfl⟩); rw [hAe, hIe, hKe] at hA hbl; rw [hAe, hIe, hKe]; have hrise : Rise 0 (A ++ xs ++ K) := (rise_append.2 ⟨rise_append.2 ⟨hA.riseA, hx.weak hA.endA⟩, hA.riseB.weak (by rw [endE_append]; exact Int.le_trans (endE_mono xs hA.endA) hxe)⟩)) <;>
    ((apply XL.det0F rfl rfl rfl rfl; exact D.move rfl)) <;>
    ((apply XL.det0F rfl rfl rfl rfl; exact D.extract rfl rfl)) <;>
    ((apply XL.det0F rfl rfl rfl rfl; exact D.extract rfl rfl)) <;>
    ((apply XL.det0F rfl rfl rfl rfl; exact D.extract rfl rfl)) <;>
    ((apply XL.det0F rfl rfl rfl rfl; exact D.assign rfl)) <;>
    ((apply XL.det0F rfl rfl rfl rfl; exact D.assign rfl)) <;>
    ((apply XL.det0F rfl rfl rfl rfl; exact D.assign rfl)) <;>
    (refine XL.nil ?_)) <;> (first | refine Ex.then ?_ | (refine N.next ?_ <;> (refine X.seq ?_ <;> (refine X.text (L := (.op .fin 0 (.op .fin 1 (.op .fin 2 (.op .fin 3 (.op .fin 4 (.op .fin 5 (.op .fin 6 (.op .fin 7 (.op .fin 8 (.op .fin 9 .nil))))))))))) rfl ?_ <;>
    ((apply XL.det0F rfl rfl rfl rfl; exact D.move rfl)) <;>
    ((apply XL.det0F rfl rfl rfl rfl; exact D.move rfl)) <;>
    ((apply XL.det0F rfl rfl rfl rfl; exact D.move rfl)) <;>
    ((apply XL.det0F rfl rfl rfl rfl; exact D.move rfl)) <;>
    ((refine XL.sliceL valL encL1 [⟨pa, ca, A⟩, ⟨ax, cx, xs⟩, ⟨pb, cb, K⟩] (fun _ => rfl) (fun _ => rfl) rfl rfl rfl rfl rfl rfl (fun _ => by infer_instance) (fun gl3 => ?_))) <;>
    (have hsum : sumL [⟨pa, ca, A⟩, ⟨ax, cx, xs⟩, ⟨pb, cb, K⟩] ≤ 1000000 := (by simp only [sumL]; omega); (refine XL.call rfl rfl rfl rfl (fun w hw => Concat_spec w _ _ [⟨pa, ca, A⟩, ⟨ax, cx, xs⟩, ⟨pb, cb, K⟩] (hw.rd (a := some ⟨gl3, 0, none⟩)) (three_mem (hw.vrd (a := pa) (hw.rd (a := a))) (hw.rd (a := ax)) (hw.vrd (a := pb) (hw.rd (a := a)))) (by simp) hsum) ?_; rintro v B' ⟨a9, c9, rfl, rfl⟩; refine XL.both ?_)) <;>
    (rw [show ([⟨pa, ca, A⟩, ⟨ax, cx, xs⟩, ⟨pb, cb, K⟩] : List Sle).flatMap (·.l) = A ++ xs ++ K from (by simp)]; have hlen : (A ++ xs ++ K).length ≤ 1000000 := (by simp only [List.length_append]; omega); (refine XL.call rfl rfl rfl rfl (fun w hw => joinedE_spec w a9 c9 (A ++ xs ++ K) 0 (hw.rd (a := a9)) hrise hlen) ?_; rintro v B' ⟨a2, c2, l2, rfl, hJ, rfl⟩; refine XL.both ?_)) <;>
    ((apply XL.det0F rfl rfl rfl rfl; exact D.nilCheck rfl)) <;>
    ((apply XL.det0F rfl rfl rfl rfl; first | exact D.fieldAddrB0 rfl rfl | exact D.fieldAddrB rfl rfl | exact D.fieldAddrE0 rfl rfl | exact D.fieldAddrE rfl rfl)) <;>
    (first | refine XL.store1 rfl rfl rfl rfl rfl ?_ | refine XL.storeN rfl rfl rfl rfl rfl rfl ?_) <;>
    (refine XL.nil ?_)) <;> (first | refine Ex.then ?_ | (refine N.next ?_ <;> (refine X.seq ?_ <;> (refine X.text (L := (.op .fin 0 (.op .fin 1 .nil))) rfl ?_ <;>
    ((apply XL.det0F rfl rfl rfl rfl; exact D.move rfl)) <;>
    ((apply XL.det0F rfl rfl rfl rfl; exact D.assign rfl)) <;>
    (refine XL.nil ?_)) <;> (first | refine Ex.then ?_ | (refine N.next ?_ <;> ((refine X.ret ?_; (repeat (first | refine Rt.then ?_ | refine Rt.block ?_ | refine Rt.scope ?_)); apply Rt.done (Res.r1 Try.results46 (RV.tmp rfl)); (focus (exact ⟨pi, ci, a2, c2, A, I, K, l2, rfl, hA, hJ, hbl.2.1, rfl⟩)); exact fun w h => h.takes))))))))))))))
end Go.Lx
