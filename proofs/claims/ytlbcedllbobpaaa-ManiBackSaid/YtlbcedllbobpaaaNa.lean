/- Names of volumes. -/
import Derived.Test.YtlbcedllbobpaaaTz
import Derived.Test.YtlbcedllbobpaaaXm
namespace Go.Lx
open Go.Proofs
set_option linter.unusedVariables false
set_option linter.unusedSimpArgs false
set_option maxRecDepth 20000
set_option maxHeartbeats 4000000

def nameC (c : Nat) : Prop := (97 ≤ c ∧ c ≤ 122) ∨ (48 ≤ c ∧ c ≤ 57) ∨ c = 45
instance (c : Nat) : Decidable (nameC c) := by unfold nameC; infer_instance
def VolOK (s : Bs) : Prop := (∀ b ∈ s, nameC b.toNat) ∧ 1 ≤ s.length ∧ s.length ≤ 32
instance (s : Bs) : Decidable (VolOK s) := by unfold VolOK; infer_instance
theorem plain_spec (c : Nat) (w : World) : Spec Try.prog 85 #[.int .i32 c] w (fun _ => False) (fun v A => v = .bool (decide (nameC c)) ∧ A = []) := by
  refine Spec.enter (args := [.int .i32 c]) (A := []) Try.func85 rfl Try.ntmps85 rfl (fun _ h => h) ?_
  (refine X.seq ?_ <;> (refine X.text (L := (.op .fin 0 .nil)) rfl (by kernel_rfl) ?_ <;>
    ((apply XL.det0F rfl rfl rfl rfl; exact D.assign rfl)) <;>
    (refine XL.nil ?_)) <;> (first | refine Ex.then ?_ | (refine N.next ?_ <;> (refine X.seq ?_ <;> (refine X.text (L := (.op .fin 0 (.op .fin 1 (.op .fin 2 (.op .fin 3 (.op .fin 4 (.op .fin 5 (.op .fin 6 (.op .fin 7 (.op .fin 8 (.op .fin 9 (.op .fin 10 (.op .fin 11 (.op .fin 12 (.op .fin 13 (.op .fin 14 (.op .fin 15 (.op .fin 16 (.op .fin 17 (.op .fin 18 .nil)))))))))))))))))))) rfl (by kernel_rfl) ?_ <;>
    ((apply XL.det0F rfl rfl rfl rfl; exact D.move rfl)) <;>
    (first | refine XL.cmpTF rfl rfl rfl rfl (D.int rfl rfl rfl) (by omega) ?_ | refine XL.cmpFF rfl rfl rfl rfl (D.int rfl rfl rfl) (by omega) ?_ | refine XL.splitF rfl rfl rfl rfl (D.int rfl rfl rfl) (fun _ => ?_) (fun _ => ?_)) <;>
    ((apply XL.det0F rfl rfl rfl rfl; exact D.move rfl)) <;>
    (first | refine XL.skipF rfl rfl rfl rfl ?_ | ((apply XL.det0F rfl rfl rfl rfl; exact D.move rfl))) <;>
    (first | refine XL.skipF rfl rfl rfl rfl ?_ | (first | refine XL.cmpTF rfl rfl rfl rfl (D.int rfl rfl rfl) (by omega) ?_ | refine XL.cmpFF rfl rfl rfl rfl (D.int rfl rfl rfl) (by omega) ?_ | refine XL.splitF rfl rfl rfl rfl (D.int rfl rfl rfl) (fun _ => ?_) (fun _ => ?_))) <;>
    ((apply XL.det0F rfl rfl rfl rfl; first | exact D.pickT rfl rfl | exact D.pickF rfl rfl | exact D.pick rfl rfl rfl)) <;>
    ((apply XL.det0F rfl rfl rfl rfl; exact D.move rfl)) <;>
    (first | refine XL.skipF rfl rfl rfl rfl ?_ | ((apply XL.det0F rfl rfl rfl rfl; exact D.move rfl))) <;>
    (first | refine XL.skipF rfl rfl rfl rfl ?_ | (first | refine XL.cmpTF rfl rfl rfl rfl (D.int rfl rfl rfl) (by omega) ?_ | refine XL.cmpFF rfl rfl rfl rfl (D.int rfl rfl rfl) (by omega) ?_ | refine XL.splitF rfl rfl rfl rfl (D.int rfl rfl rfl) (fun _ => ?_) (fun _ => ?_))) <;>
    (first | refine XL.skipF rfl rfl rfl rfl ?_ | ((apply XL.det0F rfl rfl rfl rfl; exact D.move rfl))) <;>
    (first | refine XL.skipF rfl rfl rfl rfl ?_ | ((apply XL.det0F rfl rfl rfl rfl; exact D.move rfl))) <;>
    (first | refine XL.skipF rfl rfl rfl rfl ?_ | (first | refine XL.cmpTF rfl rfl rfl rfl (D.int rfl rfl rfl) (by omega) ?_ | refine XL.cmpFF rfl rfl rfl rfl (D.int rfl rfl rfl) (by omega) ?_ | refine XL.splitF rfl rfl rfl rfl (D.int rfl rfl rfl) (fun _ => ?_) (fun _ => ?_))) <;>
    (first | refine XL.skipF rfl rfl rfl rfl ?_ | ((apply XL.det0F rfl rfl rfl rfl; first | exact D.pickT rfl rfl | exact D.pickF rfl rfl | exact D.pick rfl rfl rfl))) <;>
    ((apply XL.det0F rfl rfl rfl rfl; first | exact D.pickT rfl rfl | exact D.pickF rfl rfl | exact D.pick rfl rfl rfl)) <;>
    ((apply XL.det0F rfl rfl rfl rfl; exact D.move rfl)) <;>
    (first | refine XL.skipF rfl rfl rfl rfl ?_ | ((apply XL.det0F rfl rfl rfl rfl; exact D.move rfl))) <;>
    (first | refine XL.skipF rfl rfl rfl rfl ?_ | (first | refine XL.cmpTF rfl rfl rfl rfl (D.int rfl rfl rfl) (by omega) ?_ | refine XL.cmpFF rfl rfl rfl rfl (D.int rfl rfl rfl) (by omega) ?_ | refine XL.splitF rfl rfl rfl rfl (D.int rfl rfl rfl) (fun _ => ?_) (fun _ => ?_) | refine XL.cmpTF rfl rfl rfl rfl (D.eqS2 rfl rfl) (by omega) ?_ | refine XL.cmpFF rfl rfl rfl rfl (D.eqS2 rfl rfl) (by omega) ?_ | refine XL.splitF rfl rfl rfl rfl (D.eqS2 rfl rfl) (fun _ => ?_) (fun _ => ?_) | (apply XL.det0F rfl rfl rfl rfl; first | exact D.eqNilS rfl rfl | exact D.boolEq rfl rfl | exact D.eqNilP rfl rfl))) <;>
    ((apply XL.det0F rfl rfl rfl rfl; first | exact D.pickT rfl rfl | exact D.pickF rfl rfl | exact D.pick rfl rfl rfl)) <;>
    ((apply XL.det0F rfl rfl rfl rfl; exact D.assign rfl)) <;>
    (refine XL.nil ?_)) <;> (first | refine Ex.then ?_ | (refine N.next ?_ <;> ((refine X.ret ?_; (repeat (first | refine Rt.then ?_ | refine Rt.block ?_ | refine Rt.scope ?_)); (first | apply Rt.done (Res.r1 Try.results85 (RV.tmp rfl)) | apply Rt.doneM (Res.r1 Try.results85 (RV.tmp rfl))); (focus (refine ⟨congrArg Value.bool ?_, rfl⟩; first | rw [decide_eq_true (by unfold nameC; omega)] | rw [decide_eq_false (by unfold nameC; omega)])); exact fun w h => h.takes))))))))
theorem vol_bad {s : Bs} {i : Nat} {b : UInt8} (hb : s[i]? = some b) (h : ¬ nameC b.toNat) : ¬ VolOK s := fun hv => h (hv.1 b (List.mem_of_getElem? hb))
theorem vol_ok {s : Bs} {i : Nat} (hi : s.length ≤ i) (h : ∀ j b, j < i → s[j]? = some b → nameC b.toNat) : ∀ b ∈ s, nameC b.toNat := fun b hb => by
  obtain ⟨j, hj⟩ := List.mem_iff_getElem?.1 hb
  exact h j b (by have := (List.getElem?_eq_some_iff.1 hj).1; omega) hj
theorem Volume_spec (s : Bs) (w : World) : Spec Try.prog 66 #[.string ⟨List.toArray s⟩] w (fun _ => False) (fun v A => v = .int .i64 (if VolOK s then 0 else 1) ∧ A = []) := by
  refine Spec.enter (args := [.string ⟨List.toArray s⟩]) (A := []) Try.func66 rfl Try.ntmps66 rfl (fun _ h => h) ?_
  (refine X.seq ?_ <;> (refine X.text (L := (.op .fin 0 .nil)) rfl (by kernel_rfl) ?_ <;>
    ((apply XL.det0F rfl rfl rfl rfl; exact D.assign rfl)) <;>
    (refine XL.nil ?_)) <;> (first | refine Ex.then ?_ | (refine N.next ?_ <;> (refine X.seq ?_ <;> (refine X.seq ?_ <;> (refine X.text (L := (.op .fin 0 (.op .fin 1 (.op .fin 2 (.op .fin 3 (.op .fin 4 (.op .fin 5 (.op .fin 6 .nil)))))))) rfl (by kernel_rfl) ?_ <;>
    ((apply XL.det0F rfl rfl rfl rfl; exact D.move rfl)) <;>
    (refine XL.splitF rfl rfl rfl rfl (D.strEq (m := []) rfl rfl) (fun h0 => ?_) (fun h0 => ?_)) <;>
    ((apply XL.det0F rfl rfl rfl rfl; exact D.move rfl)) <;>
    (first | refine XL.skipF rfl rfl rfl rfl ?_ | ((apply XL.det0F rfl rfl rfl rfl; exact D.move rfl))) <;>
    (first | refine XL.skipF rfl rfl rfl rfl ?_ | ((apply XL.det0F rfl rfl rfl rfl; first | exact D.len rfl | exact D.lenL rfl | exact D.lenS rfl))) <;>
    (first | refine XL.skipF rfl rfl rfl rfl ?_ | (first | refine XL.skipF rfl rfl rfl rfl ?_ | refine XL.splitF rfl rfl rfl rfl (D.int rfl rfl rfl) (fun h1 => ?_) (fun h1 => ?_))) <;>
    ((apply XL.det0F rfl rfl rfl rfl; first | exact D.pickT rfl rfl | exact D.pickF rfl rfl | exact D.pick rfl rfl rfl)) <;>
    (refine XL.nil ?_)) <;> (first | refine Ex.then ?_ | (refine N.next ?_ <;> ((
    refine X.cond rfl ?_ ?_; rotate_left; (focus (
    intro hc; first | exact absurd hc (by decide) | (cases hc; done) | (refine X.skip ?_))); rotate_right; (focus (
    intro hc; first | exact absurd hc (by decide) | (cases hc; done) | (refine X.seq ?_ <;> (refine X.text (L := (.op .fin 0 .nil)) rfl (by kernel_rfl) ?_ <;>
    ((apply XL.det0F rfl rfl rfl rfl; exact D.assign rfl)) <;>
    (refine XL.nil ?_)) <;> (first | refine Ex.then ?_ | (refine N.next ?_ <;> ((refine X.ret ?_; (repeat (first | refine Rt.then ?_ | refine Rt.block ?_ | refine Rt.scope ?_)); (first | apply Rt.done (Res.r1 Try.results66 (RV.tmp rfl)) | apply Rt.doneM (Res.r1 Try.results66 (RV.tmp rfl))); (focus (refine ⟨congrArg (Value.int IntKind.i64) ?_, rfl⟩; first | (rw [if_pos ⟨vol_ok hil hno, hlen⟩]; done) | (rw [if_neg (vol_bad hb (fun h => hm (hcb.2 h)))]; done) | (rw [if_neg (fun hv : VolOK s => by have := hv.2; rw [h0] at this; simp at this)]; done) | (rw [if_neg (fun hv : VolOK s => by have := hv.2; omega)]))); exact fun w h => h.takes)))))))))))) <;> (first | refine Ex.then ?_ | (refine N.next ?_ <;> (refine X.seq ?_ <;> (refine X.seq ?_ <;> (refine X.text (L := (.op .fin 0 (.op .fin 1 .nil))) rfl (by kernel_rfl) ?_ <;>
    ((apply XL.det0F rfl rfl rfl rfl; exact D.move rfl)) <;>
    (have hlen : 1 ≤ s.length ∧ s.length ≤ 32 := (by cases s with | nil => exact absurd rfl h0 | cons b r => simp only [List.length_cons] at *; omega); refine XL.rangeS rfl rfl rfl rfl (fun _ => by infer_instance) (fun g => ?_)) <;>
    (refine XL.nil ?_)) <;> (first | refine Ex.then ?_ | (refine N.next ?_ <;> (refine X.block ?_ <;> ((refine X.loop (ι := Nat) (fun i => [(13, .pointer (some ⟨g, 0, none⟩))]) (fun i => [iterA g s i]) (fun i => i ≤ s.length ∧ ∀ j b, j < i → s[j]? = some b → nameC b.toNat) (fun i => s.length - i) (0) ?_ ?_ ?_ ?_; (focus (exact ⟨Nat.zero_le _, fun j b hj => by omega⟩)); (focus (repeat (first | exact Sub.nil | refine Sub.cons rfl ?_))); (focus (exact (fun w h => h.takes))); rintro i ⟨hi, hno⟩; (dsimp only at *)) <;> (refine X.seq ?_ <;> (refine X.text (L := (.op .fin 0 (.op .fin 1 .nil))) rfl (by kernel_rfl) ?_ <;>
    ((rcases Nat.lt_or_ge i s.length with hil | hil <;> first | (obtain ⟨b, hb⟩ : ∃ b, s[i]? = some b := ⟨s[i], List.getElem?_eq_getElem hil⟩; refine XL.next rfl rfl rfl rfl hb (fun c q h2 h3 => ?_); refine ⟨by infer_instance, ?_⟩) | (refine XL.nextEnd rfl rfl rfl rfl hil (by infer_instance) ?_))) <;>
    ((apply XL.det0F rfl rfl rfl rfl; exact D.extract rfl rfl)) <;>
    (refine XL.nil ?_)) <;> (first | refine Ex.then ?_ | (refine N.next ?_ <;> (refine X.seq ?_ <;> ((
    refine X.cond rfl ?_ ?_; rotate_left; (focus (
    intro hc; first | exact absurd hc (by decide) | (cases hc; done) | (refine X.exit ?_))); rotate_right; (focus (
    intro hc; first | exact absurd hc (by decide) | (cases hc; done) | (refine X.skip ?_))))) <;> (first | refine Ex.then ?_ | (refine N.next ?_ <;> (refine X.block ?_ <;> (refine X.seq ?_ <;> (refine X.text (L := (.op .fin 0 (.op .fin 1 .nil))) rfl (by kernel_rfl) ?_ <;>
    ((apply XL.det0F rfl rfl rfl rfl; exact D.extract rfl rfl)) <;>
    ((apply XL.det0F rfl rfl rfl rfl; exact D.assign rfl)) <;>
    (refine XL.nil ?_)) <;> (first | refine Ex.then ?_ | (refine N.next ?_ <;> (refine X.seq ?_ <;> (refine X.text (L := (.op .fin 0 (.op .fin 1 (.op .fin 2 .nil)))) rfl (by kernel_rfl) ?_ <;>
    ((apply XL.det0F rfl rfl rfl rfl; exact D.move rfl)) <;>
    ((refine XL.call rfl rfl rfl rfl (fun w hw => plain_spec c w) ?_; rintro v B' ⟨rfl, rfl⟩; refine XL.both ?_); have hcb : nameC c ↔ nameC b.toNat := (by rcases Nat.lt_or_ge b.toNat 128 with h | h; rw [(h2 h).1]; have := h3 h; unfold nameC; omega); (by_cases hm : nameC c <;> first | rw [decide_eq_true hm] | rw [decide_eq_false hm])) <;>
    (have hq : nameC c → q = i + 1 := (fun h8 => by have h9 := hcb.1 h8; unfold nameC at h9; exact (h2 (by omega)).2); (first | (have hq' := hq hm; subst hq') | have hskip := hi); (apply XL.det0F rfl rfl rfl rfl; exact D.not rfl)) <;>
    (refine XL.nil ?_)) <;> (first | refine Ex.then ?_ | (refine N.next ?_ <;> ((
    refine X.cond rfl ?_ ?_; rotate_left; (focus (
    intro hc; first | exact absurd hc (by decide) | (cases hc; done) | (refine X.skip ?_))); rotate_right; (focus (
    intro hc; first | exact absurd hc (by decide) | (cases hc; done) | (refine X.seq ?_ <;> (refine X.text (L := (.op .fin 0 .nil)) rfl (by kernel_rfl) ?_ <;>
    ((apply XL.det0F rfl rfl rfl rfl; exact D.assign rfl)) <;>
    (refine XL.nil ?_)) <;> (first | refine Ex.then ?_ | (refine N.next ?_ <;> ((refine X.ret ?_; (repeat (first | refine Rt.then ?_ | refine Rt.block ?_ | refine Rt.scope ?_)); (first | apply Rt.done (Res.r1 Try.results66 (RV.tmp rfl)) | apply Rt.doneM (Res.r1 Try.results66 (RV.tmp rfl))); (focus (refine ⟨congrArg (Value.int IntKind.i64) ?_, rfl⟩; first | (rw [if_pos ⟨vol_ok hil hno, hlen⟩]; done) | (rw [if_neg (vol_bad hb (fun h => hm (hcb.2 h)))]; done) | (rw [if_neg (fun hv : VolOK s => by have := hv.2; rw [h0] at this; simp at this)]; done) | (rw [if_neg (fun hv : VolOK s => by have := hv.2; omega)]))); exact fun w h => h.takes))))))))))))))) <;> (first | refine N.block ?_ | refine Ex.here ?_ | refine Ex.out rfl ?_)))))))) <;> (first | refine Ex.then ?_ | ((refine N.again ((i + 1)) ?_ ?_ ?_ ?_; (focus (exact ⟨by omega, fun j y hj hy => by rcases Nat.lt_or_ge j i with h | h; exact hno j y h hy; (obtain rfl : j = i := by omega); rw [hb] at hy; cases hy; exact hcb.1 hm⟩)); (focus (first | omega | (dsimp only; omega))); (focus (repeat (first | exact Sub.nil | refine Sub.cons rfl ?_))); exact (fun w h => h.takes))))) <;> (first | refine N.block ?_ | refine Ex.here ?_ | refine Ex.out rfl ?_))))) <;> (first | refine Ex.then ?_ | (refine N.next ?_ <;> (refine X.seq ?_ <;> (refine X.text (L := (.op .fin 0 .nil)) rfl (by kernel_rfl) ?_ <;>
    ((apply XL.det0F rfl rfl rfl rfl; exact D.assign rfl)) <;>
    (refine XL.nil ?_)) <;> (first | refine Ex.then ?_ | (refine N.next ?_ <;> ((refine X.ret ?_; (repeat (first | refine Rt.then ?_ | refine Rt.block ?_ | refine Rt.scope ?_)); (first | apply Rt.done (Res.r1 Try.results66 (RV.tmp rfl)) | apply Rt.doneM (Res.r1 Try.results66 (RV.tmp rfl))); (focus (refine ⟨congrArg (Value.int IntKind.i64) ?_, rfl⟩; first | (rw [if_pos ⟨vol_ok hil hno, hlen⟩]; done) | (rw [if_neg (vol_bad hb (fun h => hm (hcb.2 h)))]; done) | (rw [if_neg (fun hv : VolOK s => by have := hv.2; rw [h0] at this; simp at this)]; done) | (rw [if_neg (fun hv : VolOK s => by have := hv.2; omega)]))); exact fun w h => h.takes))))))))))))))
theorem refVolume_spec (s : Bs) (hs : s.length ≤ 1000000000) (w : World) : Spec Try.prog 40 #[.string ⟨List.toArray s⟩] w (fun _ => False) (fun v A => v = .bool (decide (VolOK s)) ∧ A = []) := by
  refine Spec.enter (args := [.string ⟨List.toArray s⟩]) (A := []) Try.func40 rfl Try.ntmps40 rfl (fun _ h => h) ?_
  (refine X.seq ?_ <;> (refine X.text (L := (.op .fin 0 .nil)) rfl (by kernel_rfl) ?_ <;>
    ((apply XL.det0F rfl rfl rfl rfl; exact D.assign rfl)) <;>
    (refine XL.nil ?_)) <;> (first | refine Ex.then ?_ | (refine N.next ?_ <;> (refine X.seq ?_ <;> (refine X.seq ?_ <;> (refine X.text (L := (.op .fin 0 .nil)) rfl (by kernel_rfl) ?_ <;>
    ((apply XL.det0F rfl rfl rfl rfl; exact D.assign rfl)) <;>
    (refine XL.nil ?_)) <;> (first | refine Ex.then ?_ | (refine N.next ?_ <;> (refine X.block ?_ <;> ((refine X.loop (ι := Nat) (fun i => [(0, .string ⟨List.toArray s⟩), (3, .int .i64 i)]) (fun _ => []) (fun i => i ≤ s.length ∧ ∀ j b, j < i → s[j]? = some b → nameC b.toNat) (fun i => s.length - i) (0) ?_ ?_ ?_ ?_; (focus (exact ⟨Nat.zero_le _, fun j b hj => by omega⟩)); (focus (repeat (first | exact Sub.nil | refine Sub.cons rfl ?_))); (focus (exact (fun w h => h.takes))); rintro i ⟨hi, hno⟩; (dsimp only at *)) <;> (refine X.seq ?_ <;> (refine X.seq ?_ <;> (refine X.text (L := (.op .fin 0 (.op .fin 1 (.op .fin 2 (.op .fin 3 .nil))))) rfl (by kernel_rfl) ?_ <;>
    ((apply XL.det0F rfl rfl rfl rfl; exact D.move rfl)) <;>
    ((apply XL.det0F rfl rfl rfl rfl; exact D.move rfl)) <;>
    ((apply XL.det0F rfl rfl rfl rfl; first | exact D.len rfl | exact D.lenL rfl | exact D.lenS rfl)) <;>
    (first | refine XL.splitF rfl rfl rfl rfl (D.int rfl rfl rfl) (fun h1 => ?_) (fun h1 => ?_)) <;>
    (refine XL.nil ?_)) <;> (first | refine Ex.then ?_ | (refine N.next ?_ <;> ((
    refine X.cond rfl ?_ ?_; rotate_left; (focus (
    intro hc; first | exact absurd hc (by decide) | (cases hc; done) | (refine X.exit ?_))); rotate_right; (focus (
    intro hc; first | exact absurd hc (by decide) | (cases hc; done) | (refine X.skip ?_)))))))) <;> (first | refine Ex.then ?_ | (refine N.next ?_ <;> (refine X.seq ?_ <;> (refine X.block ?_ <;> (refine X.seq ?_ <;> (refine X.text (L := (.op .fin 0 (.op .fin 1 (.op .fin 2 (.op .fin 3 (.op .fin 4 (.op .fin 5 (.op .fin 6 (.op .fin 7 (.op .fin 8 (.op .fin 9 (.op .fin 10 (.op .fin 11 (.op .fin 12 (.op .fin 13 (.op .fin 14 (.op .fin 15 (.op .fin 16 (.op .fin 17 (.op .fin 18 (.op .fin 19 (.op .fin 20 (.op .fin 21 (.op .fin 22 (.op .fin 23 (.op .fin 24 (.op .fin 25 (.op .fin 26 (.op .fin 27 .nil))))))))))))))))))))))))))))) rfl (by kernel_rfl) ?_ <;>
    ((apply XL.det0F rfl rfl rfl rfl; exact D.move rfl)) <;>
    ((apply XL.det0F rfl rfl rfl rfl; exact D.move rfl)) <;>
    (have hil : i < s.length := (by omega); obtain ⟨b, hb⟩ : ∃ b, s[i]? = some b := (⟨s[i], List.getElem?_eq_getElem hil⟩); (apply XL.det0F rfl rfl rfl rfl; exact D.idx i rfl rfl rfl hb)) <;>
    (first | refine XL.cmpTF rfl rfl rfl rfl (D.int rfl rfl rfl) (by omega) ?_ | refine XL.cmpFF rfl rfl rfl rfl (D.int rfl rfl rfl) (by omega) ?_ | refine XL.splitF rfl rfl rfl rfl (D.int rfl rfl rfl) (fun _ => ?_) (fun _ => ?_)) <;>
    ((apply XL.det0F rfl rfl rfl rfl; exact D.move rfl)) <;>
    (first | refine XL.skipF rfl rfl rfl rfl ?_ | ((apply XL.det0F rfl rfl rfl rfl; exact D.move rfl))) <;>
    (first | refine XL.skipF rfl rfl rfl rfl ?_ | ((apply XL.det0F rfl rfl rfl rfl; exact D.move rfl))) <;>
    (first | refine XL.skipF rfl rfl rfl rfl ?_ | ((first | refine XL.skipF rfl rfl rfl rfl ?_ | (apply XL.det0F rfl rfl rfl rfl; exact D.idx i rfl rfl rfl hb)))) <;>
    (first | refine XL.skipF rfl rfl rfl rfl ?_ | (first | refine XL.cmpTF rfl rfl rfl rfl (D.int rfl rfl rfl) (by omega) ?_ | refine XL.cmpFF rfl rfl rfl rfl (D.int rfl rfl rfl) (by omega) ?_ | refine XL.splitF rfl rfl rfl rfl (D.int rfl rfl rfl) (fun _ => ?_) (fun _ => ?_))) <;>
    ((apply XL.det0F rfl rfl rfl rfl; first | exact D.pickT rfl rfl | exact D.pickF rfl rfl | exact D.pick rfl rfl rfl)) <;>
    ((apply XL.det0F rfl rfl rfl rfl; exact D.move rfl)) <;>
    (first | refine XL.skipF rfl rfl rfl rfl ?_ | ((apply XL.det0F rfl rfl rfl rfl; exact D.move rfl))) <;>
    (first | refine XL.skipF rfl rfl rfl rfl ?_ | ((apply XL.det0F rfl rfl rfl rfl; exact D.move rfl))) <;>
    (first | refine XL.skipF rfl rfl rfl rfl ?_ | ((first | refine XL.skipF rfl rfl rfl rfl ?_ | (apply XL.det0F rfl rfl rfl rfl; exact D.idx i rfl rfl rfl hb)))) <;>
    (first | refine XL.skipF rfl rfl rfl rfl ?_ | (first | refine XL.cmpTF rfl rfl rfl rfl (D.int rfl rfl rfl) (by omega) ?_ | refine XL.cmpFF rfl rfl rfl rfl (D.int rfl rfl rfl) (by omega) ?_ | refine XL.splitF rfl rfl rfl rfl (D.int rfl rfl rfl) (fun _ => ?_) (fun _ => ?_))) <;>
    (first | refine XL.skipF rfl rfl rfl rfl ?_ | ((apply XL.det0F rfl rfl rfl rfl; exact D.move rfl))) <;>
    (first | refine XL.skipF rfl rfl rfl rfl ?_ | ((apply XL.det0F rfl rfl rfl rfl; exact D.move rfl))) <;>
    (first | refine XL.skipF rfl rfl rfl rfl ?_ | ((apply XL.det0F rfl rfl rfl rfl; exact D.move rfl))) <;>
    (first | refine XL.skipF rfl rfl rfl rfl ?_ | ((first | refine XL.skipF rfl rfl rfl rfl ?_ | (apply XL.det0F rfl rfl rfl rfl; exact D.idx i rfl rfl rfl hb)))) <;>
    (first | refine XL.skipF rfl rfl rfl rfl ?_ | (first | refine XL.cmpTF rfl rfl rfl rfl (D.int rfl rfl rfl) (by omega) ?_ | refine XL.cmpFF rfl rfl rfl rfl (D.int rfl rfl rfl) (by omega) ?_ | refine XL.splitF rfl rfl rfl rfl (D.int rfl rfl rfl) (fun _ => ?_) (fun _ => ?_))) <;>
    (first | refine XL.skipF rfl rfl rfl rfl ?_ | ((apply XL.det0F rfl rfl rfl rfl; first | exact D.pickT rfl rfl | exact D.pickF rfl rfl | exact D.pick rfl rfl rfl))) <;>
    ((apply XL.det0F rfl rfl rfl rfl; first | exact D.pickT rfl rfl | exact D.pickF rfl rfl | exact D.pick rfl rfl rfl)) <;>
    ((apply XL.det0F rfl rfl rfl rfl; exact D.move rfl)) <;>
    (first | refine XL.skipF rfl rfl rfl rfl ?_ | ((apply XL.det0F rfl rfl rfl rfl; exact D.move rfl))) <;>
    (first | refine XL.skipF rfl rfl rfl rfl ?_ | ((apply XL.det0F rfl rfl rfl rfl; exact D.move rfl))) <;>
    (first | refine XL.skipF rfl rfl rfl rfl ?_ | ((first | refine XL.skipF rfl rfl rfl rfl ?_ | (apply XL.det0F rfl rfl rfl rfl; exact D.idx i rfl rfl rfl hb)))) <;>
    (first | refine XL.skipF rfl rfl rfl rfl ?_ | (first | refine XL.cmpTF rfl rfl rfl rfl (D.int rfl rfl rfl) (by omega) ?_ | refine XL.cmpFF rfl rfl rfl rfl (D.int rfl rfl rfl) (by omega) ?_ | refine XL.splitF rfl rfl rfl rfl (D.int rfl rfl rfl) (fun _ => ?_) (fun _ => ?_) | refine XL.cmpTF rfl rfl rfl rfl (D.neS2 rfl rfl) (by omega) ?_ | refine XL.cmpFF rfl rfl rfl rfl (D.neS2 rfl rfl) (by omega) ?_ | refine XL.splitF rfl rfl rfl rfl (D.neS2 rfl rfl) (fun _ => ?_) (fun _ => ?_) | (apply XL.det0F rfl rfl rfl rfl; first | exact D.neNilS rfl rfl | exact D.boolNe rfl rfl | exact D.neNilP rfl rfl))) <;>
    ((apply XL.det0F rfl rfl rfl rfl; first | exact D.pickT rfl rfl | exact D.pickF rfl rfl | exact D.pick rfl rfl rfl)) <;>
    (refine XL.nil ?_)) <;> (first | refine Ex.then ?_ | (refine N.next ?_ <;> ((
    refine X.cond rfl ?_ ?_; rotate_left; (focus (
    intro hc; first | exact absurd hc (by decide) | (cases hc; done) | (refine X.skip ?_))); rotate_right; (focus (
    intro hc; first | exact absurd hc (by decide) | (cases hc; done) | (refine X.seq ?_ <;> (refine X.text (L := (.op .fin 0 .nil)) rfl (by kernel_rfl) ?_ <;>
    ((apply XL.det0F rfl rfl rfl rfl; exact D.assign rfl)) <;>
    (refine XL.nil ?_)) <;> (first | refine Ex.then ?_ | (refine N.next ?_ <;> ((refine X.ret ?_; (repeat (first | refine Rt.then ?_ | refine Rt.block ?_ | refine Rt.scope ?_)); (first | apply Rt.done (Res.r1 Try.results40 (RV.tmp rfl)) | apply Rt.doneM (Res.r1 Try.results40 (RV.tmp rfl))); (focus (refine ⟨congrArg Value.bool ?_, rfl⟩; first | (rw [decide_eq_false (vol_bad hb (by unfold nameC; omega))]; done) | (rw [decide_eq_true (show VolOK s from ⟨vol_ok (by omega) hno, by omega, by omega⟩)]; done) | (rw [decide_eq_false (fun hv : VolOK s => by have := hv.2; omega)]))); exact fun w h => h.takes)))))))))))) <;> (first | refine N.block ?_ | refine Ex.here ?_ | refine Ex.out rfl ?_)) <;> (first | refine Ex.then ?_ | (refine N.next ?_ <;> (refine X.text (L := (.op .fin 0 (.op .fin 1 (.op .fin 2 .nil)))) rfl (by kernel_rfl) ?_ <;>
    ((apply XL.det0F rfl rfl rfl rfl; exact D.move rfl)) <;>
    ((apply XL.det0F rfl rfl rfl rfl; first | exact D.add64 rfl rfl (by omega) | exact D.int rfl rfl rfl)) <;>
    ((apply XL.det0F rfl rfl rfl rfl; exact D.assign rfl)) <;>
    (refine XL.nil ?_)))))))) <;> (first | refine Ex.then ?_ | ((refine N.again ((i + 1)) ?_ ?_ ?_ ?_; (focus (exact ⟨by omega, fun j y hj hy => by rcases Nat.lt_or_ge j i with h | h; exact hno j y h hy; (obtain rfl : j = i := by omega); rw [hb] at hy; cases hy; unfold nameC; omega⟩)); (focus (first | omega | (dsimp only; omega))); (focus (repeat (first | exact Sub.nil | refine Sub.cons rfl ?_))); exact (fun w h => h.takes))))) <;> (first | refine N.block ?_ | refine Ex.here ?_ | refine Ex.out rfl ?_))))) <;> (first | refine Ex.then ?_ | (refine N.next ?_ <;> (refine X.seq ?_ <;> (refine X.text (L := (.op .fin 0 (.op .fin 1 (.op .fin 2 (.op .fin 3 (.op .fin 4 (.op .fin 5 (.op .fin 6 (.op .fin 7 (.op .fin 8 .nil)))))))))) rfl (by kernel_rfl) ?_ <;>
    ((apply XL.det0F rfl rfl rfl rfl; exact D.move rfl)) <;>
    ((apply XL.det0F rfl rfl rfl rfl; first | exact D.len rfl | exact D.lenL rfl | exact D.lenS rfl)) <;>
    (first | refine XL.cmpTF rfl rfl rfl rfl (D.int rfl rfl rfl) (by omega) ?_ | refine XL.cmpFF rfl rfl rfl rfl (D.int rfl rfl rfl) (by omega) ?_ | refine XL.splitF rfl rfl rfl rfl (D.int rfl rfl rfl) (fun _ => ?_) (fun _ => ?_)) <;>
    ((apply XL.det0F rfl rfl rfl rfl; exact D.move rfl)) <;>
    (first | refine XL.skipF rfl rfl rfl rfl ?_ | ((apply XL.det0F rfl rfl rfl rfl; exact D.move rfl))) <;>
    (first | refine XL.skipF rfl rfl rfl rfl ?_ | ((apply XL.det0F rfl rfl rfl rfl; first | exact D.len rfl | exact D.lenL rfl | exact D.lenS rfl))) <;>
    (first | refine XL.skipF rfl rfl rfl rfl ?_ | (first | refine XL.cmpTF rfl rfl rfl rfl (D.int rfl rfl rfl) (by omega) ?_ | refine XL.cmpFF rfl rfl rfl rfl (D.int rfl rfl rfl) (by omega) ?_ | refine XL.splitF rfl rfl rfl rfl (D.int rfl rfl rfl) (fun _ => ?_) (fun _ => ?_))) <;>
    ((apply XL.det0F rfl rfl rfl rfl; first | exact D.pickT rfl rfl | exact D.pickF rfl rfl | exact D.pick rfl rfl rfl)) <;>
    ((apply XL.det0F rfl rfl rfl rfl; exact D.assign rfl)) <;>
    (refine XL.nil ?_)) <;> (first | refine Ex.then ?_ | (refine N.next ?_ <;> ((refine X.ret ?_; (repeat (first | refine Rt.then ?_ | refine Rt.block ?_ | refine Rt.scope ?_)); (first | apply Rt.done (Res.r1 Try.results40 (RV.tmp rfl)) | apply Rt.doneM (Res.r1 Try.results40 (RV.tmp rfl))); (focus (refine ⟨congrArg Value.bool ?_, rfl⟩; first | (rw [decide_eq_false (vol_bad hb (by unfold nameC; omega))]; done) | (rw [decide_eq_true (show VolOK s from ⟨vol_ok (by omega) hno, by omega, by omega⟩)]; done) | (rw [decide_eq_false (fun hv : VolOK s => by have := hv.2; omega)]))); exact fun w h => h.takes)))))))))))
end Go.Lx
