/- The chapter's example. -/
import Derived.Test.YtlbcedllbobpaaaMk
namespace Go.Lx
open Go.Proofs
set_option linter.unusedVariables false
set_option linter.unusedSimpArgs false
set_option maxRecDepth 20000
set_option maxHeartbeats 4000000
/-- A manifest, and its snapshots' slice. -/
structure MnS where
  m : Man
  a : Option Addr
  c : Nat
def encMn (x : MnS) : List Value := [.string ⟨x.m.v.toArray⟩, .int .u64 ((x.m.k : Nat) : Int), .int .i64 x.m.s, .int .i64 x.m.z, .string ⟨x.m.b.toArray⟩, .int .i64 x.m.bq, .slice x.a x.m.sn.length x.c]
theorem wf_u64 {n : Int} (h2 : (Lit.int .u64 n).wf = true) : 0 ≤ n ∧ n < 18446744073709551616 := by
  have h3 : IntKind.u64.min = 0 := by decide
  have h4 : IntKind.u64.max = 18446744073709551615 := by decide
  simp only [Lit.wf, Bool.and_eq_true, decide_eq_true_eq, h3, h4] at h2
  omega
theorem varB_small {x : Nat} (h : x < 128) : varB x = [UInt8.ofNat x] := by
  have h1 : vsz x = 1 := vsz_eq (by omega) (.inl rfl) (.inr (by omega))
  unfold varB
  rw [h1]
  simp [hd, fixB]
def m0 : Man := ⟨[118], 0, 3, 9, [], 0, []⟩
theorem chk0 : IsChkM m0 0 := .inr ⟨⟨by decide, .inl ⟨rfl, rfl⟩, fun j x h => by simp [m0] at h⟩, .inr ⟨⟨by unfold nmS m0; decide, by decide, by decide, fun j x h => by simp [m0] at h⟩, .inr ⟨by decide, rfl⟩⟩⟩
theorem m0B : mgc ++ manB m0 = [77, 65, 78, 50, 1, 118, 0, 0, 0, 0, 0, 0, 0, 0, 3, 9, 0, 0, 0] := by
  simp only [manB, headM, textB, m0, List.length_cons, List.length_nil, List.flatMap_nil]
  rw [varB_small (x := 0 + 1) (by omega), varB_small (x := Int.toNat 3) (by decide), varB_small (x := Int.toNat 9) (by decide), varB_small (x := 0) (by omega), varB_small (x := Int.toNat 0) (by decide)]
  rfl
theorem awake_spec (w : World) : Spec Try.prog 8 #[] w (fun _ => False) (fun v A => v = .bool true ∧ A = []) := by
  refine Spec.enter (args := []) (A := []) Try.func8 rfl Try.ntmps8 rfl (fun _ h => h) ?_
  (refine X.seq ?_ <;> (refine X.text (L := (.op .fin 0 .nil)) rfl (by kernel_rfl) ?_ <;>
    ((apply XL.det0F rfl rfl rfl rfl; exact D.assign rfl)) <;>
    (refine XL.nil ?_)) <;> (first | refine Ex.then ?_ | (refine N.next ?_ <;> (refine X.seq ?_ <;> (refine X.text (L := (.op .fin 0 (.op .fin 1 (.op .fin 2 (.op .fin 3 (.op .fin 4 (.op .fin 5 (.op .fin 6 .nil)))))))) rfl (by kernel_rfl) ?_ <;>
    ((apply XL.det0F rfl rfl rfl rfl; exact D.build rfl)) <;>
    ((refine XL.call rfl rfl rfl rfl (fun w hw => Encode_spec m0 none 0 w (Rd.nil w 3)) ?_; rintro v B' ⟨r, e, rfl, hq, h0, h1, rfl⟩; refine XL.both ?_); (obtain rfl : e = 0 := hq.unique chk0); have hr := h1 rfl; rw [m0B] at hr; have hlen : r.length = 23 := (by rw [hr, sealS_len]; rfl); have htk : r.take 19 = [77, 65, 78, 50, 1, 118, 0, 0, 0, 0, 0, 0, 0, 0, 3, 9, 0, 0, 0] := (by rw [hr]; unfold sealS; rw [List.take_append_of_le_length (by decide)]; rfl)) <;>
    ((apply XL.det0F rfl rfl rfl rfl; exact D.move rfl)) <;>
    ((apply XL.det0F rfl rfl rfl rfl; exact D.extract rfl rfl)) <;>
    ((apply XL.det0F rfl rfl rfl rfl; exact D.extract rfl rfl)) <;>
    ((apply XL.det0F rfl rfl rfl rfl; exact D.assign rfl)) <;>
    ((apply XL.det0F rfl rfl rfl rfl; exact D.assign rfl)) <;>
    (refine XL.nil ?_)) <;> (first | refine Ex.then ?_ | (refine N.next ?_ <;> (refine X.seq ?_ <;> (refine X.text (L := (.op .fin 0 (.op .fin 1 (.op .fin 2 (.op .fin 3 (.op .fin 4 (.op .fin 5 (.op .fin 6 (.op .fin 7 (.op .fin 8 (.op .fin 9 (.op .fin 10 (.op .fin 11 (.op .fin 12 .nil)))))))))))))) rfl (by kernel_rfl) ?_ <;>
    ((apply XL.det0F rfl rfl rfl rfl; exact D.move rfl)) <;>
    (first | refine XL.cmpTF rfl rfl rfl rfl (D.int rfl rfl rfl) (by omega) ?_ | refine XL.cmpFF rfl rfl rfl rfl (D.int rfl rfl rfl) (by omega) ?_ | refine XL.splitF rfl rfl rfl rfl (D.int rfl rfl rfl) (fun _ => ?_) (fun _ => ?_) | refine XL.cmpTF rfl rfl rfl rfl (D.eqS2 rfl rfl) (by omega) ?_ | refine XL.cmpFF rfl rfl rfl rfl (D.eqS2 rfl rfl) (by omega) ?_ | refine XL.splitF rfl rfl rfl rfl (D.eqS2 rfl rfl) (fun _ => ?_) (fun _ => ?_) | (apply XL.det0F rfl rfl rfl rfl; first | exact D.eqNilS rfl rfl | exact D.boolEq rfl rfl | exact D.eqNilP rfl rfl)) <;>
    ((apply XL.det0F rfl rfl rfl rfl; exact D.move rfl)) <;>
    (first | refine XL.skipF rfl rfl rfl rfl ?_ | ((apply XL.det0F rfl rfl rfl rfl; exact D.move rfl))) <;>
    (first | refine XL.skipF rfl rfl rfl rfl ?_ | ((apply XL.det0F rfl rfl rfl rfl; first | exact D.len rfl | exact D.lenL rfl | exact D.lenS rfl))) <;>
    (first | refine XL.skipF rfl rfl rfl rfl ?_ | (first | refine XL.cmpTF rfl rfl rfl rfl (D.int rfl rfl rfl) (by omega) ?_ | refine XL.cmpFF rfl rfl rfl rfl (D.int rfl rfl rfl) (by omega) ?_ | refine XL.splitF rfl rfl rfl rfl (D.int rfl rfl rfl) (fun _ => ?_) (fun _ => ?_) | refine XL.cmpTF rfl rfl rfl rfl (D.eqS2 rfl rfl) (by omega) ?_ | refine XL.cmpFF rfl rfl rfl rfl (D.eqS2 rfl rfl) (by omega) ?_ | refine XL.splitF rfl rfl rfl rfl (D.eqS2 rfl rfl) (fun _ => ?_) (fun _ => ?_) | (apply XL.det0F rfl rfl rfl rfl; first | exact D.eqNilS rfl rfl | exact D.boolEq rfl rfl | exact D.eqNilP rfl rfl))) <;>
    ((apply XL.det0F rfl rfl rfl rfl; first | exact D.pickT rfl rfl | exact D.pickF rfl rfl | exact D.pick rfl rfl rfl)) <;>
    ((apply XL.det0F rfl rfl rfl rfl; exact D.move rfl)) <;>
    (first | refine XL.skipF rfl rfl rfl rfl ?_ | ((apply XL.det0F rfl rfl rfl rfl; exact D.move rfl))) <;>
    (first | refine XL.skipF rfl rfl rfl rfl ?_ | ((apply XL.det0F rfl rfl rfl rfl; exact D.cutH (h := 19) rfl rfl (by omega)))) <;>
    (first | refine XL.skipF rfl rfl rfl rfl ?_ | (refine XL.cmpTF rfl rfl rfl rfl (D.strEq (m := [77, 65, 78, 50, 1, 118, 0, 0, 0, 0, 0, 0, 0, 0, 3, 9, 0, 0, 0]) rfl rfl) htk ?_)) <;>
    ((apply XL.det0F rfl rfl rfl rfl; first | exact D.pickT rfl rfl | exact D.pickF rfl rfl | exact D.pick rfl rfl rfl)) <;>
    ((apply XL.det0F rfl rfl rfl rfl; exact D.assign rfl)) <;>
    (refine XL.nil ?_)) <;> (first | refine Ex.then ?_ | (refine N.next ?_ <;> ((refine X.ret ?_; (repeat (first | refine Rt.then ?_ | refine Rt.block ?_ | refine Rt.scope ?_)); (first | apply Rt.done (Res.r1 Try.results8 (RV.tmp rfl)) | apply Rt.doneM (Res.r1 Try.results8 (RV.tmp rfl))); (focus (exact ⟨rfl, rfl⟩)); exact fun w h => h.takes)))))))))))
end Go.Lx
