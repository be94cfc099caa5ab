/- Package gc's Table, walked; that of the document beside it. -/
import Derived.Test.YtapkpicloanbcaaGt
namespace Go.Lx
open Go.Proofs
set_option linter.unusedVariables false
set_option linter.unusedSimpArgs false
set_option maxRecDepth 20000
set_option maxHeartbeats 8000000

theorem Table_spec (w : World) (a b : Option Addr) (c d : Nat) (z : List Us) (l : List Ext) (hz : Rd w 3 a z.length c (encU z)) (hl : Rd w 4 b l.length d (encE l)) (hbz : z.length ≤ 1000) (hbl : l.length ≤ 1000) :
    Spec Try.prog 24 #[.slice a z.length c, .slice b l.length d] w (fun _ => False) (fun v A => ∃ ao co o e, v = .tuple #[.slice ao (List.length o) co, .int .i64 e] ∧ IsTb z l e o ∧ A = [own 68 3 (.slice ao (List.length o) co) (List.length o) (encU o)]) := by
  refine Spec.enter (args := [.slice a z.length c, .slice b l.length d]) (A := []) Try.func24 rfl Try.ntmps24 rfl (fun _ h => h) ?_
  refine X.mem (B := [own 68 3 (.slice none (List.length (([] : List Us))) 0) (List.length (([] : List Us))) (encU (([] : List Us)))]) (fun w h => h.nilOwn 68 3) ?_
  (refine X.seq ?_ <;> (refine X.text (L := (.op .fin 0 (.op .fin 1 .nil))) rfl ?_ <;>
    ((apply XL.det0F rfl rfl rfl rfl; exact D.assign rfl)) <;>
    ((apply XL.det0F rfl rfl rfl rfl; exact D.assign rfl)) <;>
    (refine XL.nil ?_)) <;> (first | refine Ex.then ?_ | (refine N.next ?_ <;> (refine X.seq ?_ <;> (refine X.seq ?_ <;> (refine X.text (L := (.op .fin 0 (.op .fin 1 (.op .fin 2 .nil)))) rfl ?_ <;>
    ((apply XL.det0F rfl rfl rfl rfl; exact D.move rfl)) <;>
    ((refine XL.call rfl rfl rfl rfl (fun w hw => ChkU_spec w a c z (hz.conf0 hw)) ?_; rintro v B' ⟨e, rfl, hchk, rfl⟩; refine XL.both ?_)) <;>
    ((apply XL.det0F rfl rfl rfl rfl; exact D.assign rfl)) <;>
    (refine XL.nil ?_)) <;> (first | refine Ex.then ?_ | (refine N.next ?_ <;> (refine X.seq ?_ <;> (refine X.text (L := (.op .fin 0 (.op .fin 1 .nil))) rfl ?_ <;>
    ((apply XL.det0F rfl rfl rfl rfl; exact D.move rfl)) <;>
    (first | refine XL.splitF rfl rfl rfl rfl (D.int rfl rfl rfl) (fun h0 => ?_) (fun h0 => ?_)) <;>
    (refine XL.nil ?_)) <;> (first | refine Ex.then ?_ | (refine N.next ?_ <;> ((
    refine X.cond rfl ?_ ?_; rotate_left; (focus (
    intro hc; first | exact absurd hc (by decide) | (cases hc; done) | (refine X.skip ?_))); rotate_right; (focus (
    intro hc; first | exact absurd hc (by decide) | (cases hc; done) | (refine X.seq ?_ <;> (refine X.text (L := (.op .fin 0 (.op .fin 1 (.op .fin 2 .nil)))) rfl ?_ <;>
    ((apply XL.det0F rfl rfl rfl rfl; exact D.move rfl)) <;>
    ((apply XL.det0F rfl rfl rfl rfl; exact D.assign rfl)) <;>
    ((apply XL.det0F rfl rfl rfl rfl; exact D.assign rfl)) <;>
    (refine XL.nil ?_)) <;> (first | refine Ex.then ?_ | (refine N.next ?_ <;> ((refine X.ret ?_; (repeat (first | refine Rt.then ?_ | refine Rt.block ?_ | refine Rt.scope ?_)); apply Rt.done (Res.r2 Try.results24 (RV.tmp rfl) (RV.tmp rfl)); (focus (first | (exact ⟨none, 0, [], e, rfl, .inl ⟨hchk, h0, rfl⟩, rfl⟩) | (exact ⟨none, 0, [], 1, rfl, .inr (.inl ⟨hok, by rw [tbE_bad hO hx, if_pos hr], by decide, rfl⟩), rfl⟩) | (exact ⟨none, 0, [], 15, rfl, .inr (.inl ⟨hok, by rw [tbE_bad hO hx, if_neg (fun h => h hr), if_pos (hbf rfl)], by decide, rfl⟩), rfl⟩) | (exact ⟨none, 0, [], 31, rfl, .inr (.inl ⟨hok, by rw [tbE_bad hO hx, if_neg (fun h => h hr), if_neg (fun h => h u (List.mem_of_getElem? hu) hus), if_pos ⟨u, List.mem_of_getElem? hu, hus, h3⟩], by decide, rfl⟩), rfl⟩) | (exact ⟨ao, co, z.map (resU l), 0, by rw [List.length_map], .inr (.inr ⟨hok, tbE_all hO, rfl, rfl⟩), by rw [List.length_map]⟩))); exact fun w h => h.takes))))))))))))))) <;> (first | refine Ex.then ?_ | (refine N.next ?_ <;> (refine X.seq ?_ <;> (refine X.text (L := (.op .fin 0 (.op .fin 1 (.op .fin 2 (.op .fin 3 .nil))))) rfl ?_ <;>
    (obtain rfl : e = 0 := (by omega); have hok := hchk.ok; (apply XL.det0F rfl rfl rfl rfl; exact D.move rfl)) <;>
    ((apply XL.det0F rfl rfl rfl rfl; first | exact D.len rfl | exact D.lenS rfl)) <;>
    ((refine XL.make (n := z.length) rfl rfl rfl rfl rfl (by unfold maxLen; omega) (fun _ => by infer_instance) (fun gv => ?_)); rw [encR_made z.length]; refine XL.mem (fun w h => h.nils 4 z.length) ?_) <;>
    ((apply XL.det0F rfl rfl rfl rfl; exact D.assign rfl)) <;>
    (refine XL.nil ?_)) <;> (first | refine Ex.then ?_ | (refine N.next ?_ <;> (refine X.seq ?_ <;> (refine X.seq ?_ <;> (refine X.text (L := (.op .fin 0 (.op .fin 1 (.op .fin 2 .nil)))) rfl ?_ <;>
    ((apply XL.det0F rfl rfl rfl rfl; exact D.move rfl)) <;>
    ((apply XL.det0F rfl rfl rfl rfl; first | exact D.len rfl | exact D.lenS rfl)) <;>
    ((apply XL.det0F rfl rfl rfl rfl; exact D.move rfl)) <;>
    (refine XL.nil ?_)) <;> (first | refine Ex.then ?_ | (refine N.next ?_ <;> (refine X.block ?_ <;> ((refine X.loop (ι := Nat × List Br) (fun y => [(0, .slice a z.length c), (1, .slice b l.length d), (7, .slice (some ⟨gv, 0, none⟩) z.length z.length), (27, .slice a z.length c), (28, .int .i64 z.length), (29, .int .i64 y.1)]) (fun y => [pack (List.map (Br.own 4) y.2), own 73 1 (.slice (some ⟨gv, 0, none⟩) (List.length z) (List.length z)) (List.length z) (encR y.2)]) (fun y => y.1 ≤ z.length ∧ MkI z y.1 y.2) (fun y => z.length - y.1) ((0, List.replicate z.length nilBr)) ?_ ?_ ?_ ?_; (focus (exact ⟨Nat.zero_le _, MkI.nil z⟩)); (focus (repeat (first | exact Sub.nil | refine Sub.cons rfl ?_))); (focus (exact (fun w h => h.takes))); rintro ⟨i, rows⟩ ⟨hi, hM⟩; (dsimp only at *)) <;> (refine X.seq ?_ <;> (refine X.text (L := (.op .fin 0 .nil)) rfl ?_ <;>
    (first | refine XL.splitF rfl rfl rfl rfl (D.int rfl rfl rfl) (fun h1 => ?_) (fun h1 => ?_)) <;>
    (refine XL.nil ?_)) <;> (first | refine Ex.then ?_ | (refine N.next ?_ <;> (refine X.seq ?_ <;> ((
    refine X.cond rfl ?_ ?_; rotate_left; (focus (
    intro hc; first | exact absurd hc (by decide) | (cases hc; done) | (refine X.exit ?_))); rotate_right; (focus (
    intro hc; first | exact absurd hc (by decide) | (cases hc; done) | (refine X.skip ?_))))) <;> (first | refine Ex.then ?_ | (refine N.next ?_ <;> (refine X.seq ?_ <;> (refine X.block ?_ <;> (refine X.seq ?_ <;> (refine X.text (L := (.op .fin 0 (.op .fin 1 (.op .fin 2 (.op .fin 3 (.op .fin 4 (.op .fin 5 .nil))))))) rfl ?_ <;>
    ((apply XL.det0F rfl rfl rfl rfl; exact D.move rfl)) <;>
    (have hil : i < z.length := (by omega); obtain ⟨u, hu⟩ := get_lt' hil; have hum := hok.at_ hu; have hum' := hum; unfold mayU seqS at hum'; have hrl := hM.1; obtain ⟨zn, hzn⟩ : ∃ zn : Nat, u.z = (zn : Int) := (⟨u.z.toNat, by omega⟩); have hzt : u.z.toNat = zn := (by omega); (apply XL.det0F rfl rfl rfl rfl; exact D.indexAddr i rfl rfl rfl hil (hz.sm (by omega)))) <;>
    ((apply XL.detF rfl rfl rfl rfl; exact D.loadN rfl rfl (fun w hw j u hu' => Rd.us (hz.conf0 hw) hu j u hu'))) <;>
    (refine XL.alloc rfl rfl rfl (by intro g; infer_instance) (fun g => ?_)) <;>
    ((apply XL.det0F rfl rfl rfl rfl; exact D.assign rfl)) <;>
    (first | refine XL.store1 rfl rfl rfl rfl rfl ?_ | refine XL.storeN rfl rfl rfl rfl rfl rfl ?_) <;>
    (refine XL.nil ?_)) <;> (first | refine Ex.then ?_ | (refine N.next ?_ <;> (refine X.text (L := (.op .fin 0 (.op .fin 1 (.op .fin 2 (.op .fin 3 (.op .fin 4 (.op .fin 5 (.op .fin 6 .nil)))))))) rfl ?_ <;>
    ((apply XL.det0F rfl rfl rfl rfl; exact D.move rfl)) <;>
    ((apply XL.det0F rfl rfl rfl rfl; exact D.move rfl)) <;>
    ((apply XL.det0F rfl rfl rfl rfl; first | exact D.fieldAddrB0 rfl rfl | exact D.fieldAddrB rfl rfl | exact D.fieldAddrE0 rfl rfl | exact D.fieldAddrE rfl rfl)) <;>
    ((apply XL.detF rfl rfl rfl rfl; exact D.load1 rfl (fun w h => h.cellAt (Loc.at_) rfl)); rw [hzn]) <;>
    ((refine XL.make (n := zn) rfl rfl rfl rfl rfl (by unfold maxLen; omega) (fun _ => by infer_instance) (fun gr => ?_)); rw [encB_made zn]) <;>
    ((apply XL.det0F rfl rfl rfl rfl; exact D.indexAddr i rfl rfl rfl hil rfl)) <;>
    ((refine XL.storeE (encR (rows.set i ⟨some ⟨gr, 0, none⟩, zn, List.replicate zn false⟩)) rfl rfl rfl rfl rfl (by omega) (by rw [← encR_set _ _ _ (by omega)]; simp only [List.length_replicate]) ?_); refine XL.mem (fun w h => Conf.rowIn (T := 4) (i := i) (n := zn) (r := ⟨some ⟨gr, 0, none⟩, zn, List.replicate zn false⟩) (by omega) (by simp) (show Conf _ [own 4 1 (.slice (some ⟨gr, 0, none⟩) zn zn) zn (encB (List.replicate zn false)), pack (List.map (Br.own 4) rows), own 73 1 (.slice (some ⟨gv, 0, none⟩) (List.length z) (List.length z)) (List.length z) (encR (rows.set i ⟨some ⟨gr, 0, none⟩, zn, List.replicate zn false⟩))] w from h.takes)) ?_) <;>
    (refine XL.nil ?_))))) <;> (first | refine N.block ?_ | refine Ex.here ?_ | refine Ex.out rfl ?_)) <;> (first | refine Ex.then ?_ | (refine N.next ?_ <;> (refine X.text (L := (.op .fin 0 (.op .fin 1 .nil))) rfl ?_ <;>
    ((apply XL.det0F rfl rfl rfl rfl; first | exact D.add64 rfl rfl (by omega) | exact D.int rfl rfl rfl)) <;>
    ((apply XL.det0F rfl rfl rfl rfl; exact D.move rfl)) <;>
    (refine XL.nil ?_))))))))))) <;> (first | refine Ex.then ?_ | ((refine N.again ((i + 1, rows.set i ⟨some ⟨gr, 0, none⟩, zn, List.replicate zn false⟩)) ?_ ?_ ?_ ?_; (focus (exact ⟨by dsimp only; omega, by have := hM.step (a := some ⟨gr, 0, none⟩) (c := zn) hu; rw [hzt] at this; exact this⟩)); (focus (first | omega | (dsimp only; omega))); (focus (repeat (first | exact Sub.nil | refine Sub.cons rfl ?_))); exact (fun w h => h.takes))))) <;> (first | refine N.block ?_ | refine Ex.here ?_ | refine Ex.out rfl ?_))))) <;> (first | refine Ex.then ?_ | (refine N.next ?_ <;> (refine X.seq ?_ <;> (refine X.seq ?_ <;> (refine X.text (L := (.op .fin 0 (.op .fin 1 (.op .fin 2 .nil)))) rfl ?_ <;>
    (obtain rfl : i = z.length := (by omega); have hL0 := hM.live; (apply XL.det0F rfl rfl rfl rfl; exact D.move rfl)) <;>
    ((apply XL.det0F rfl rfl rfl rfl; first | exact D.len rfl | exact D.lenS rfl)) <;>
    ((apply XL.det0F rfl rfl rfl rfl; exact D.move rfl)) <;>
    (refine XL.nil ?_)) <;> (first | refine Ex.then ?_ | (refine N.next ?_ <;> (refine X.block ?_ <;> ((refine X.loop (ι := Nat × List Br) (fun y => [(0, .slice a z.length c), (7, .slice (some ⟨gv, 0, none⟩) z.length z.length), (41, .slice b l.length d), (42, .int .i64 l.length), (43, .int .i64 y.1)]) (fun y => [pack (List.map (Br.own 4) y.2), own 73 1 (.slice (some ⟨gv, 0, none⟩) (List.length z) (List.length z)) (List.length z) (encR y.2)]) (fun y => y.1 ≤ l.length ∧ LvI z (l.take y.1) y.2 ∧ OkTo z l y.1) (fun y => l.length - y.1) ((0, rows)) ?_ ?_ ?_ ?_; (focus (exact ⟨Nat.zero_le _, hL0, OkTo.nil z l⟩)); (focus (repeat (first | exact Sub.nil | refine Sub.cons rfl ?_))); (focus (exact (fun w h => h.takes))); rintro ⟨i, rows2⟩ ⟨hi2, hL, hO⟩; (dsimp only at *)) <;> (refine X.seq ?_ <;> (refine X.text (L := (.op .fin 0 .nil)) rfl ?_ <;>
    (first | refine XL.splitF rfl rfl rfl rfl (D.int rfl rfl rfl) (fun h2 => ?_) (fun h2 => ?_)) <;>
    (refine XL.nil ?_)) <;> (first | refine Ex.then ?_ | (refine N.next ?_ <;> (refine X.seq ?_ <;> ((
    refine X.cond rfl ?_ ?_; rotate_left; (focus (
    intro hc; first | exact absurd hc (by decide) | (cases hc; done) | (refine X.exit ?_))); rotate_right; (focus (
    intro hc; first | exact absurd hc (by decide) | (cases hc; done) | (refine X.skip ?_))))) <;> (first | refine Ex.then ?_ | (refine N.next ?_ <;> (refine X.seq ?_ <;> (refine X.block ?_ <;> (refine X.seq ?_ <;> (refine X.text (L := (.op .fin 0 (.op .fin 1 (.op .fin 2 (.op .fin 3 .nil))))) rfl ?_ <;>
    (have hil : i < l.length := (by omega); obtain ⟨x, hx⟩ := get_lt' hil; (apply XL.detF rfl rfl rfl rfl; exact D.indexAddr i rfl rfl rfl hil (hl.sm (by omega)))) <;>
    ((apply XL.detF rfl rfl rfl rfl; exact D.loadN rfl rfl (fun w hw j u hu => Rd.ext (hl.conf0 hw) hx j u hu))) <;>
    (refine XL.alloc rfl rfl rfl (by intro g; infer_instance) (fun g => ?_)) <;>
    (first | refine XL.store1 rfl rfl rfl rfl rfl ?_ | refine XL.storeN rfl rfl rfl rfl rfl rfl ?_) <;>
    (refine XL.nil ?_)) <;> (first | refine Ex.then ?_ | (refine N.next ?_ <;> (refine X.seq ?_ <;> (refine X.seq ?_ <;> (refine X.text (L := (.op .fin 0 (.op .fin 1 (.op .fin 2 .nil)))) rfl ?_ <;>
    ((apply XL.detF rfl rfl rfl rfl; first | exact D.load1 rfl (fun w h => h.cellAt (Loc.at_) rfl) | exact D.loadN rfl rfl (fun w h j u hu => by rw [at_add, Nat.zero_add]; exact h.cellAt (Loc.at_) hu) | exact D.loadP rfl rfl)) <;>
    ((refine XL.call rfl rfl rfl rfl (fun w hw => right_spec x w) ?_; rintro v B' ⟨rfl, rfl⟩; refine XL.both ?_); (by_cases hr : rightE x <;> first | rw [decide_eq_true hr] | rw [decide_eq_false hr])) <;>
    ((apply XL.det0F rfl rfl rfl rfl; exact D.not rfl)) <;>
    (refine XL.nil ?_)) <;> (first | refine Ex.then ?_ | (refine N.next ?_ <;> ((
    refine X.cond rfl ?_ ?_; rotate_left; (focus (
    intro hc; first | exact absurd hc (by decide) | (cases hc; done) | (refine X.skip ?_))); rotate_right; (focus (
    intro hc; first | exact absurd hc (by decide) | (cases hc; done) | (refine X.seq ?_ <;> (refine X.text (L := (.op .fin 0 (.op .fin 1 .nil))) rfl ?_ <;>
    (refine XL.mem (B := [own 68 3 (.slice none (List.length (([] : List Us))) 0) (List.length (([] : List Us))) (encU (([] : List Us)))]) (fun w h => (h.takes (B := [])).nilOwn 68 3) ?_; (apply XL.det0F rfl rfl rfl rfl; exact D.assign rfl)) <;>
    ((apply XL.det0F rfl rfl rfl rfl; exact D.assign rfl)) <;>
    (refine XL.nil ?_)) <;> (first | refine Ex.then ?_ | (refine N.next ?_ <;> ((refine X.ret ?_; (repeat (first | refine Rt.then ?_ | refine Rt.block ?_ | refine Rt.scope ?_)); apply Rt.done (Res.r2 Try.results24 (RV.tmp rfl) (RV.tmp rfl)); (focus (first | (exact ⟨none, 0, [], e, rfl, .inl ⟨hchk, h0, rfl⟩, rfl⟩) | (exact ⟨none, 0, [], 1, rfl, .inr (.inl ⟨hok, by rw [tbE_bad hO hx, if_pos hr], by decide, rfl⟩), rfl⟩) | (exact ⟨none, 0, [], 15, rfl, .inr (.inl ⟨hok, by rw [tbE_bad hO hx, if_neg (fun h => h hr), if_pos (hbf rfl)], by decide, rfl⟩), rfl⟩) | (exact ⟨none, 0, [], 31, rfl, .inr (.inl ⟨hok, by rw [tbE_bad hO hx, if_neg (fun h => h hr), if_neg (fun h => h u (List.mem_of_getElem? hu) hus), if_pos ⟨u, List.mem_of_getElem? hu, hus, h3⟩], by decide, rfl⟩), rfl⟩) | (exact ⟨ao, co, z.map (resU l), 0, by rw [List.length_map], .inr (.inr ⟨hok, tbE_all hO, rfl, rfl⟩), by rw [List.length_map]⟩))); exact fun w h => h.takes)))))))))))) <;> (first | refine Ex.then ?_ | (refine N.next ?_ <;> (refine X.seq ?_ <;> (refine X.text (L := (.op .fin 0 (.op .fin 1 (.op .fin 2 (.op .fin 3 (.op .fin 4 (.op .fin 5 (.op .fin 6 (.op .fin 7 (.op .fin 8 (.op .fin 9 .nil))))))))))) rfl ?_ <;>
    (have hr' := hr; unfold rightE at hr'; (apply XL.det0F rfl rfl rfl rfl; exact D.move rfl)) <;>
    ((apply XL.det0F rfl rfl rfl rfl; first | exact D.fieldAddrB0 rfl rfl | exact D.fieldAddrB rfl rfl | exact D.fieldAddrE0 rfl rfl | exact D.fieldAddrE rfl rfl)) <;>
    ((apply XL.det0F rfl rfl rfl rfl; first | exact D.fieldAddrB0 rfl rfl | exact D.fieldAddrB rfl rfl | exact D.fieldAddrE0 rfl rfl | exact D.fieldAddrE rfl rfl)) <;>
    ((apply XL.detF rfl rfl rfl rfl; first | exact D.load1 rfl (fun w h => h.cellAt (Loc.at_) rfl) | exact D.loadN rfl rfl (fun w h j u hu => by rw [at_add, Nat.zero_add]; exact h.cellAt (Loc.at_) hu) | exact D.loadP rfl rfl)) <;>
    ((refine XL.call rfl rfl rfl rfl (fun w hw => SearchU_spec w a c z x.q (hz.conf0 hw) hok (by omega)) ?_; rintro v B' ⟨k, bb, rfl, hbt, hbf, rfl⟩; refine XL.both ?_); cases bb) <;>
    ((apply XL.det0F rfl rfl rfl rfl; exact D.move rfl)) <;>
    ((apply XL.det0F rfl rfl rfl rfl; exact D.extract rfl rfl)) <;>
    ((apply XL.det0F rfl rfl rfl rfl; exact D.extract rfl rfl)) <;>
    ((apply XL.det0F rfl rfl rfl rfl; exact D.assign rfl)) <;>
    ((apply XL.det0F rfl rfl rfl rfl; exact D.assign rfl)) <;>
    (refine XL.nil ?_)) <;> (first | refine Ex.then ?_ | (refine N.next ?_ <;> (refine X.seq ?_ <;> (refine X.block ?_ <;> (refine X.seq ?_ <;> (refine X.text (L := (.op .fin 0 (.op .fin 1 (.op .fin 2 .nil)))) rfl ?_ <;>
    ((apply XL.det0F rfl rfl rfl rfl; exact D.move rfl)) <;>
    ((apply XL.det0F rfl rfl rfl rfl; exact D.not rfl)) <;>
    ((apply XL.det0F rfl rfl rfl rfl; exact D.assign rfl)) <;>
    (refine XL.nil ?_)) <;> (first | refine Ex.then ?_ | (refine N.next ?_ <;> ((
    refine X.cond rfl ?_ ?_; rotate_left; (focus (
    intro hc; first | exact absurd hc (by decide) | (cases hc; done) | (refine X.seq ?_ <;> (refine X.draw (.op .v0 0 (.op .v0 1 (.op .v1 2 (.op .v0 3 (.op .v0 4 (.op .v1 5 (.op .v0 6 (.op .v0 7 (.op .v0 8 (.op .v0 9 (.op .v0 10 (.op .v1 11 (.op .v0 12 (.op .v0 13 .nil)))))))))))))) mixed (by kernel_rfl) ?_ <;>
    ((apply XL.det0 rfl rfl rfl rfl; first | exact D.fieldAddrB0 rfl rfl | exact D.fieldAddrB rfl rfl | exact D.fieldAddrE0 rfl rfl | exact D.fieldAddrE rfl rfl)) <;>
    ((apply XL.det0 rfl rfl rfl rfl; first | exact D.fieldAddrB0 rfl rfl | exact D.fieldAddrB rfl rfl | exact D.fieldAddrE0 rfl rfl | exact D.fieldAddrE rfl rfl)) <;>
    ((apply XL.det1 rfl rfl rfl rfl; first | exact D.load1 rfl (fun w h => h.cellAt (Loc.at_) rfl) | exact D.loadN rfl rfl (fun w h j u hu => by rw [at_add, Nat.zero_add]; exact h.cellAt (Loc.at_) hu) | exact D.loadP rfl rfl)) <;>
    ((apply XL.det0 rfl rfl rfl rfl; first | exact D.fieldAddrB0 rfl rfl | exact D.fieldAddrB rfl rfl | exact D.fieldAddrE0 rfl rfl | exact D.fieldAddrE rfl rfl)) <;>
    ((apply XL.det0 rfl rfl rfl rfl; first | exact D.fieldAddrB0 rfl rfl | exact D.fieldAddrB rfl rfl | exact D.fieldAddrE0 rfl rfl | exact D.fieldAddrE rfl rfl)) <;>
    ((apply XL.det1 rfl rfl rfl rfl; first | exact D.load1 rfl (fun w h => h.cellAt (Loc.at_) rfl) | exact D.loadN rfl rfl (fun w h j u hu => by rw [at_add, Nat.zero_add]; exact h.cellAt (Loc.at_) hu) | exact D.loadP rfl rfl)) <;>
    ((apply XL.det0 rfl rfl rfl rfl; exact D.add64 rfl rfl (by omega))) <;>
    ((apply XL.det0 rfl rfl rfl rfl; exact D.move rfl)) <;>
    ((apply XL.det0 rfl rfl rfl rfl; exact D.move rfl)) <;>
    (obtain ⟨u, hu, hus⟩ := hbt rfl; have hkl := lt_of_get' hu; have hum := hok.at_ hu; unfold mayU seqS at hum; (apply XL.det0 rfl rfl rfl rfl; exact D.indexAddr k rfl rfl rfl hkl (hz.sm (by omega)))) <;>
    ((apply XL.det0 rfl rfl rfl rfl; first | exact D.fieldAddrB0 rfl rfl | exact D.fieldAddrB rfl rfl | exact D.fieldAddrE0 rfl rfl | exact D.fieldAddrE rfl rfl)) <;>
    ((apply XL.det1 rfl rfl rfl rfl; exact D.load1 rfl (fun w hw => (Rd.usAt (hz.conf0 hw) hu).2.1))) <;>
    (first | refine XL.split0 rfl rfl rfl rfl (D.int rfl rfl rfl) (fun h3 => ?_) (fun h3 => ?_)) <;>
    ((apply XL.det0 rfl rfl rfl rfl; exact D.assign rfl)) <;>
    (refine XL.nil ?_)) <;> (first | refine Ex.then ?_ | (refine N.next ?_ <;> ((
    refine X.cond rfl ?_ ?_; rotate_left; (focus (
    intro hc; first | exact absurd hc (by decide) | (cases hc; done) | (refine X.skip ?_))); rotate_right; (focus (
    intro hc; first | exact absurd hc (by decide) | (cases hc; done) | (refine X.seq ?_ <;> (refine X.text (L := (.op .fin 0 (.op .fin 1 .nil))) rfl ?_ <;>
    (refine XL.mem (B := [own 68 3 (.slice none (List.length (([] : List Us))) 0) (List.length (([] : List Us))) (encU (([] : List Us)))]) (fun w h => (h.takes (B := [])).nilOwn 68 3) ?_; (apply XL.det0F rfl rfl rfl rfl; exact D.assign rfl)) <;>
    ((apply XL.det0F rfl rfl rfl rfl; exact D.assign rfl)) <;>
    (refine XL.nil ?_)) <;> (first | refine Ex.then ?_ | (refine N.next ?_ <;> ((refine X.ret ?_; (repeat (first | refine Rt.then ?_ | refine Rt.block ?_ | refine Rt.scope ?_)); apply Rt.done (Res.r2 Try.results24 (RV.tmp rfl) (RV.tmp rfl)); (focus (first | (exact ⟨none, 0, [], e, rfl, .inl ⟨hchk, h0, rfl⟩, rfl⟩) | (exact ⟨none, 0, [], 1, rfl, .inr (.inl ⟨hok, by rw [tbE_bad hO hx, if_pos hr], by decide, rfl⟩), rfl⟩) | (exact ⟨none, 0, [], 15, rfl, .inr (.inl ⟨hok, by rw [tbE_bad hO hx, if_neg (fun h => h hr), if_pos (hbf rfl)], by decide, rfl⟩), rfl⟩) | (exact ⟨none, 0, [], 31, rfl, .inr (.inl ⟨hok, by rw [tbE_bad hO hx, if_neg (fun h => h hr), if_neg (fun h => h u (List.mem_of_getElem? hu) hus), if_pos ⟨u, List.mem_of_getElem? hu, hus, h3⟩], by decide, rfl⟩), rfl⟩) | (exact ⟨ao, co, z.map (resU l), 0, by rw [List.length_map], .inr (.inr ⟨hok, tbE_all hO, rfl, rfl⟩), by rw [List.length_map]⟩))); exact fun w h => h.takes)))))))))))))); rotate_right; (focus (
    intro hc; first | exact absurd hc (by decide) | (cases hc; done) | (refine X.seq ?_ <;> (refine X.text (L := (.op .fin 0 (.op .fin 1 .nil))) rfl ?_ <;>
    (refine XL.mem (B := [own 68 3 (.slice none (List.length (([] : List Us))) 0) (List.length (([] : List Us))) (encU (([] : List Us)))]) (fun w h => (h.takes (B := [])).nilOwn 68 3) ?_; (apply XL.det0F rfl rfl rfl rfl; exact D.assign rfl)) <;>
    ((apply XL.det0F rfl rfl rfl rfl; exact D.assign rfl)) <;>
    (refine XL.nil ?_)) <;> (first | refine Ex.then ?_ | (refine N.next ?_ <;> ((refine X.ret ?_; (repeat (first | refine Rt.then ?_ | refine Rt.block ?_ | refine Rt.scope ?_)); apply Rt.done (Res.r2 Try.results24 (RV.tmp rfl) (RV.tmp rfl)); (focus (first | (exact ⟨none, 0, [], e, rfl, .inl ⟨hchk, h0, rfl⟩, rfl⟩) | (exact ⟨none, 0, [], 1, rfl, .inr (.inl ⟨hok, by rw [tbE_bad hO hx, if_pos hr], by decide, rfl⟩), rfl⟩) | (exact ⟨none, 0, [], 15, rfl, .inr (.inl ⟨hok, by rw [tbE_bad hO hx, if_neg (fun h => h hr), if_pos (hbf rfl)], by decide, rfl⟩), rfl⟩) | (exact ⟨none, 0, [], 31, rfl, .inr (.inl ⟨hok, by rw [tbE_bad hO hx, if_neg (fun h => h hr), if_neg (fun h => h u (List.mem_of_getElem? hu) hus), if_pos ⟨u, List.mem_of_getElem? hu, hus, h3⟩], by decide, rfl⟩), rfl⟩) | (exact ⟨ao, co, z.map (resU l), 0, by rw [List.length_map], .inr (.inr ⟨hok, tbE_all hO, rfl, rfl⟩), by rw [List.length_map]⟩))); exact fun w h => h.takes)))))))))))) <;> (first | refine N.block ?_ | refine Ex.here ?_ | refine Ex.out rfl ?_)) <;> (first | refine Ex.then ?_ | (refine N.next ?_ <;> (refine X.seq ?_ <;> (refine X.text (L := (.op .fin 0 (.op .fin 1 (.op .fin 2 (.op .fin 3 .nil))))) rfl ?_ <;>
    ((apply XL.det0F rfl rfl rfl rfl; first | exact D.fieldAddrB0 rfl rfl | exact D.fieldAddrB rfl rfl | exact D.fieldAddrE0 rfl rfl | exact D.fieldAddrE rfl rfl)) <;>
    ((apply XL.det0F rfl rfl rfl rfl; first | exact D.fieldAddrB0 rfl rfl | exact D.fieldAddrB rfl rfl | exact D.fieldAddrE0 rfl rfl | exact D.fieldAddrE rfl rfl)) <;>
    ((apply XL.detF rfl rfl rfl rfl; first | exact D.load1 rfl (fun w h => h.cellAt (Loc.at_) rfl) | exact D.loadN rfl rfl (fun w h j u hu => by rw [at_add, Nat.zero_add]; exact h.cellAt (Loc.at_) hu) | exact D.loadP rfl rfl)) <;>
    ((apply XL.det0F rfl rfl rfl rfl; exact D.move rfl)) <;>
    (refine XL.nil ?_)) <;> (first | refine Ex.then ?_ | (refine N.next ?_ <;> (refine X.block ?_ <;> ((refine X.loop (ι := Nat × List Br) (fun y => [(0, .slice a z.length c), (7, .slice (some ⟨gv, 0, none⟩) z.length z.length), (11, .pointer (some ⟨g, 0, none⟩)), (12, .int .i64 k), (41, .slice b l.length d), (42, .int .i64 l.length), (43, .int .i64 i), (77, .int .i64 x.n), (78, .int .i64 y.1)]) (fun y => [pack (List.map (Br.own 4) y.2), own 73 1 (.slice (some ⟨gv, 0, none⟩) (List.length z) (List.length z)) (List.length z) (encR y.2), cells g [.int .i64 x.a, .int .i64 x.n, .int .i64 x.q, .int .i64 x.p] 57]) (fun y => (y.1 : Int) ≤ x.n ∧ LvI z (l.take i ++ [cut x y.1]) y.2) (fun y => x.n.toNat - y.1) ((0, rows2)) ?_ ?_ ?_ ?_; (focus (exact ⟨by dsimp only; omega, hL.cut0 x⟩)); (focus (repeat (first | exact Sub.nil | refine Sub.cons rfl ?_))); (focus (exact (fun w h => h.takes))); rintro ⟨kk, rows3⟩ ⟨hkn, hL3⟩; (dsimp only at *)) <;> (refine X.seq ?_ <;> (refine X.text (L := (.op .fin 0 .nil)) rfl ?_ <;>
    (first | refine XL.splitF rfl rfl rfl rfl (D.int rfl rfl rfl) (fun h4 => ?_) (fun h4 => ?_)) <;>
    (refine XL.nil ?_)) <;> (first | refine Ex.then ?_ | (refine N.next ?_ <;> (refine X.seq ?_ <;> ((
    refine X.cond rfl ?_ ?_; rotate_left; (focus (
    intro hc; first | exact absurd hc (by decide) | (cases hc; done) | (refine X.exit ?_))); rotate_right; (focus (
    intro hc; first | exact absurd hc (by decide) | (cases hc; done) | (refine X.skip ?_))))) <;> (first | refine Ex.then ?_ | (refine N.next ?_ <;> (refine X.seq ?_ <;> (refine X.block ?_ <;> (refine X.seq ?_ <;> (refine X.text (L := (.op .fin 0 (.op .fin 1 .nil))) rfl ?_ <;>
    ((apply XL.det0F rfl rfl rfl rfl; exact D.move rfl)) <;>
    (obtain ⟨r, hr3⟩ := get_lt' (l := rows3) (k := k) (by rw [hL3.1]; exact hkl); have hr3l := lt_of_get' hr3; have hrb := (hL3.2 k u r hu hr3).1; obtain ⟨p, hp⟩ : ∃ p : Nat, x.p + (kk : Int) = p := (⟨(x.p + kk).toNat, by omega⟩); have hpl : p < r.b.length := (by omega); refine XL.mem (fun w h => Conf.rowOut (T := 4) hr3 (show Conf _ [pack (List.map (Br.own 4) rows3), own 73 1 (.slice (some ⟨gv, 0, none⟩) (List.length z) (List.length z)) (List.length z) (encR rows3), cells g [.int .i64 x.a, .int .i64 x.n, .int .i64 x.q, .int .i64 x.p] 57] w from h.takes)) ?_; refine XL.fact (fun w h => (h.rd (a := r.a)).sm (by omega)) (fun hsome => ?_); (apply XL.det0F rfl rfl rfl rfl; exact D.assign rfl)) <;>
    (refine XL.nil ?_)) <;> (first | refine Ex.then ?_ | (refine N.next ?_ <;> (refine X.draw (.op .v0 0 (.op .v0 1 (.op .v0 2 (.op .v1 3 (.op .v0 4 (.op .v0 5 (.op .v1 6 (.op .v0 7 (.op .v0 8 (.op .v0 9 (.op .fin 10 .nil))))))))))) mixed (by kernel_rfl) ?_ <;>
    ((apply XL.det0 rfl rfl rfl rfl; exact D.move rfl)) <;>
    ((apply XL.det0 rfl rfl rfl rfl; exact D.move rfl)) <;>
    ((apply XL.det0 rfl rfl rfl rfl; exact D.indexAddr k rfl rfl rfl hkl rfl)) <;>
    ((apply XL.det1 rfl rfl rfl rfl; exact D.load1 rfl (fun w hw => Rd.br (hw.rd (a := some ⟨gv, 0, none⟩)) hr3))) <;>
    ((apply XL.det0 rfl rfl rfl rfl; first | exact D.fieldAddrB0 rfl rfl | exact D.fieldAddrB rfl rfl | exact D.fieldAddrE0 rfl rfl | exact D.fieldAddrE rfl rfl)) <;>
    ((apply XL.det0 rfl rfl rfl rfl; first | exact D.fieldAddrB0 rfl rfl | exact D.fieldAddrB rfl rfl | exact D.fieldAddrE0 rfl rfl | exact D.fieldAddrE rfl rfl)) <;>
    ((apply XL.det1 rfl rfl rfl rfl; first | exact D.load1 rfl (fun w h => h.cellAt (Loc.at_) rfl) | exact D.loadN rfl rfl (fun w h j u hu => by rw [at_add, Nat.zero_add]; exact h.cellAt (Loc.at_) hu) | exact D.loadP rfl rfl)) <;>
    ((apply XL.det0 rfl rfl rfl rfl; exact D.move rfl)) <;>
    ((apply XL.det0 rfl rfl rfl rfl; exact D.add64 rfl rfl (by omega)); rw [hp]) <;>
    ((apply XL.det0 rfl rfl rfl rfl; exact D.indexAddr p rfl rfl rfl hpl hsome)) <;>
    ((refine XL.storeE (encB (r.b.set p true)) rfl rfl rfl rfl rfl (by omega) (encB_set r.b p true hpl) ?_)) <;>
    (refine XL.nil ?_))))) <;> (first | refine N.block ?_ | refine Ex.here ?_ | refine Ex.out rfl ?_)) <;> (first | refine Ex.then ?_ | (refine N.next ?_ <;> (refine X.text (L := (.op .fin 0 (.op .fin 1 .nil))) rfl ?_ <;>
    (refine XL.mem (fun w h => Conf.rowBack (T := 4) (i := k) (n := r.b.length) (r := ⟨r.a, r.c, r.b.set p true⟩) hr3l (by simp) (show Conf _ [own 4 1 (.slice r.a r.b.length r.c) r.b.length (encB (r.b.set p true)), pack ((rows3.map (Br.own 4)).eraseIdx k), own 73 1 (.slice (some ⟨gv, 0, none⟩) (List.length z) (List.length z)) (List.length z) (encR rows3), cells g [.int .i64 x.a, .int .i64 x.n, .int .i64 x.q, .int .i64 x.p] 57] w from h.takes)) ?_; have hme : encR rows3 = encR (rows3.set k ⟨r.a, r.c, r.b.set p true⟩) := (by rw [← encR_set _ _ _ hr3l]; simp only [List.length_set]; exact (encR_same hr3).symm); rw [hme]; (apply XL.det0F rfl rfl rfl rfl; exact D.add64 rfl rfl (by omega))) <;>
    ((apply XL.det0F rfl rfl rfl rfl; exact D.move rfl)) <;>
    (refine XL.nil ?_))))))))))) <;> (first | refine Ex.then ?_ | ((refine N.again ((kk + 1, rows3.set k ⟨r.a, r.c, r.b.set p true⟩)) ?_ ?_ ?_ ?_; (focus (exact ⟨by dsimp only; omega, hL3.mark hok hu hr3 hus (by omega) (by omega)⟩)); (focus (first | omega | (dsimp only; omega))); (focus (repeat (first | exact Sub.nil | refine Sub.cons rfl ?_))); exact (fun w h => h.takes))))) <;> (first | refine N.block ?_ | refine Ex.here ?_ | refine Ex.out rfl ?_))))))))))))))))) <;> (first | refine N.block ?_ | refine Ex.here ?_ | refine Ex.out rfl ?_)) <;> (first | refine Ex.then ?_ | (refine N.next ?_ <;> (refine X.text (L := (.op .fin 0 (.op .fin 1 .nil))) rfl ?_ <;>
    ((apply XL.det0F rfl rfl rfl rfl; first | exact D.add64 rfl rfl (by omega) | exact D.int rfl rfl rfl)) <;>
    ((apply XL.det0F rfl rfl rfl rfl; exact D.move rfl)) <;>
    (refine XL.nil ?_))))))))))) <;> (first | refine Ex.then ?_ | ((refine N.again ((i + 1, rows3)) ?_ ?_ ?_ ?_; (focus (exact ⟨by dsimp only; omega, by dsimp only; rw [take_snocE hx]; exact hL3.cutN (by omega), hO.step hx hr ⟨u, List.mem_of_getElem? hu, hus⟩ (by rintro ⟨u', hu', h7, h8⟩; have := hok.inj hu' (List.mem_of_getElem? hu) (by omega); subst this; omega)⟩)); (focus (first | omega | (dsimp only; omega))); (focus (repeat (first | exact Sub.nil | refine Sub.cons rfl ?_))); exact (fun w h => h.takes))))) <;> (first | refine N.block ?_ | refine Ex.here ?_ | refine Ex.out rfl ?_))))) <;> (first | refine Ex.then ?_ | (refine N.next ?_ <;> (refine X.seq ?_ <;> (refine X.text (L := (.op .fin 0 (.op .fin 1 (.op .fin 2 .nil)))) rfl ?_ <;>
    (have hje : l.take i = l := (List.take_of_length_le (by omega)); rw [hje] at hL; obtain rfl : i = l.length := (by omega); (apply XL.det0F rfl rfl rfl rfl; exact D.move rfl)) <;>
    ((refine XL.call rfl rfl rfl rfl (fun w hw => CloneU_spec w a c z (hz.conf0 hw) (by omega)) ?_; rintro v B' ⟨ao, co, rfl, rfl⟩; refine XL.both ?_)) <;>
    ((apply XL.det0F rfl rfl rfl rfl; exact D.assign rfl)) <;>
    (refine XL.nil ?_)) <;> (first | refine Ex.then ?_ | (refine N.next ?_ <;> (refine X.seq ?_ <;> (refine X.seq ?_ <;> (refine X.text (L := (.op .fin 0 (.op .fin 1 (.op .fin 2 .nil)))) rfl ?_ <;>
    (rw [show encU z = encU (outU z l 0) from (by simp [outU])]; (apply XL.det0F rfl rfl rfl rfl; exact D.move rfl)) <;>
    ((apply XL.det0F rfl rfl rfl rfl; first | exact D.len rfl | exact D.lenS rfl)) <;>
    ((apply XL.det0F rfl rfl rfl rfl; exact D.move rfl)) <;>
    (refine XL.nil ?_)) <;> (first | refine Ex.then ?_ | (refine N.next ?_ <;> (refine X.block ?_ <;> ((refine X.loop (ι := Nat) (fun i => [(7, .slice (some ⟨gv, 0, none⟩) z.length z.length), (15, .slice ao z.length co), (95, .slice ao z.length co), (96, .int .i64 z.length), (97, .int .i64 i)]) (fun i => [own 68 3 (.slice ao z.length co) z.length (encU (outU z l i)), pack (List.map (Br.own 4) rows2), own 73 1 (.slice (some ⟨gv, 0, none⟩) (List.length z) (List.length z)) (List.length z) (encR rows2)]) (fun i => i ≤ z.length) (fun i => z.length - i) (0) ?_ ?_ ?_ ?_; (focus (exact Nat.zero_le _)); (focus (repeat (first | exact Sub.nil | refine Sub.cons rfl ?_))); (focus (exact (fun w h => h.takes))); rintro i hi3; (dsimp only at *)) <;> (refine X.seq ?_ <;> (refine X.text (L := (.op .fin 0 .nil)) rfl ?_ <;>
    (first | refine XL.splitF rfl rfl rfl rfl (D.int rfl rfl rfl) (fun h5 => ?_) (fun h5 => ?_)) <;>
    (refine XL.nil ?_)) <;> (first | refine Ex.then ?_ | (refine N.next ?_ <;> (refine X.seq ?_ <;> ((
    refine X.cond rfl ?_ ?_; rotate_left; (focus (
    intro hc; first | exact absurd hc (by decide) | (cases hc; done) | (refine X.exit ?_))); rotate_right; (focus (
    intro hc; first | exact absurd hc (by decide) | (cases hc; done) | (refine X.skip ?_))))) <;> (first | refine Ex.then ?_ | (refine N.next ?_ <;> (refine X.seq ?_ <;> (refine X.block ?_ <;> (refine X.seq ?_ <;> (refine X.text (L := (.op .fin 0 (.op .fin 1 .nil))) rfl ?_ <;>
    ((apply XL.det0F rfl rfl rfl rfl; exact D.move rfl)) <;>
    ((apply XL.det0F rfl rfl rfl rfl; exact D.assign rfl)) <;>
    (refine XL.nil ?_)) <;> (first | refine Ex.then ?_ | (refine N.next ?_ <;> (refine X.seq ?_ <;> (refine X.text (L := (.op .fin 0 (.op .fin 1 (.op .fin 2 (.op .fin 3 (.op .fin 4 .nil)))))) rfl ?_ <;>
    ((apply XL.det0F rfl rfl rfl rfl; exact D.move rfl)) <;>
    ((apply XL.det0F rfl rfl rfl rfl; exact D.move rfl)) <;>
    (have hil : i < z.length := (by omega); obtain ⟨u, hu⟩ := get_lt' hil; obtain ⟨r, hr⟩ := get_lt' (l := rows2) (k := i) (by rw [hL.1]; exact hil); have hLr := hL.2 i u r hu hr; have hum := hok.at_ hu; unfold mayU seqS at hum; refine XL.fact (fun w h => (h.rd (a := ao)).sm (by omega)) (fun hsome => ?_); (apply XL.det0F rfl rfl rfl rfl; exact D.indexAddr i rfl rfl rfl hil hsome)) <;>
    ((apply XL.det0F rfl rfl rfl rfl; first | exact D.fieldAddrB0 rfl rfl | exact D.fieldAddrB rfl rfl | exact D.fieldAddrE0 rfl rfl | exact D.fieldAddrE rfl rfl)) <;>
    ((refine XL.storeE (encU ((outU z l i).set i ⟨u.s, u.z, ((cnt l u.s 0 : Nat) : Int)⟩)) rfl rfl rfl rfl rfl (by omega) (encU_setv _ i u 0 (outU_get hu)) ?_)) <;>
    (refine XL.nil ?_)) <;> (first | refine Ex.then ?_ | (refine N.next ?_ <;> (refine X.seq ?_ <;> (refine X.text (L := (.op .fin 0 (.op .fin 1 (.op .fin 2 (.op .fin 3 (.op .fin 4 (.op .fin 5 .nil))))))) rfl ?_ <;>
    ((apply XL.det0F rfl rfl rfl rfl; exact D.move rfl)) <;>
    ((apply XL.det0F rfl rfl rfl rfl; exact D.move rfl)) <;>
    ((apply XL.det0F rfl rfl rfl rfl; exact D.indexAddr i rfl rfl rfl hil rfl)) <;>
    ((apply XL.detF rfl rfl rfl rfl; exact D.load1 rfl (fun w hw => Rd.br (hw.rd (a := some ⟨gv, 0, none⟩)) hr))) <;>
    ((apply XL.det0F rfl rfl rfl rfl; first | exact D.len rfl | exact D.lenS rfl)) <;>
    ((apply XL.det0F rfl rfl rfl rfl; exact D.move rfl)) <;>
    (refine XL.nil ?_)) <;> (first | refine Ex.then ?_ | (refine N.next ?_ <;> (refine X.block ?_ <;> ((refine X.loop (ι := Nat) (fun t => [(7, .slice (some ⟨gv, 0, none⟩) z.length z.length), (15, .slice ao z.length co), (16, .int .i64 i), (95, .slice ao z.length co), (96, .int .i64 z.length), (97, .int .i64 i), (107, .slice r.a r.b.length r.c), (108, .int .i64 r.b.length), (109, .int .i64 t)]) (fun t => [own 68 3 (.slice ao z.length co) z.length (encU ((outU z l i).set i ⟨u.s, u.z, ((cnt l u.s t : Nat) : Int)⟩)), pack (List.map (Br.own 4) rows2), own 73 1 (.slice (some ⟨gv, 0, none⟩) (List.length z) (List.length z)) (List.length z) (encR rows2)]) (fun t => t ≤ r.b.length) (fun t => r.b.length - t) (0) ?_ ?_ ?_ ?_; (focus (exact Nat.zero_le _)); (focus (repeat (first | exact Sub.nil | refine Sub.cons rfl ?_))); (focus (exact (fun w h => h.takes))); rintro t ht; (dsimp only at *)) <;> (refine X.seq ?_ <;> (refine X.text (L := (.op .fin 0 .nil)) rfl ?_ <;>
    (first | refine XL.splitF rfl rfl rfl rfl (D.int rfl rfl rfl) (fun h6 => ?_) (fun h6 => ?_)) <;>
    (refine XL.nil ?_)) <;> (first | refine Ex.then ?_ | (refine N.next ?_ <;> (refine X.seq ?_ <;> ((
    refine X.cond rfl ?_ ?_; rotate_left; (focus (
    intro hc; first | exact absurd hc (by decide) | (cases hc; done) | (refine X.exit ?_))); rotate_right; (focus (
    intro hc; first | exact absurd hc (by decide) | (cases hc; done) | (refine X.skip ?_))))) <;> (first | refine Ex.then ?_ | (refine N.next ?_ <;> (refine X.seq ?_ <;> (refine X.block ?_ <;> (refine X.seq ?_ <;> (refine X.text (L := (.op .fin 0 (.op .fin 1 (.op .fin 2 .nil)))) rfl ?_ <;>
    (have htl : t < r.b.length := (by omega); have hbt := hLr.2 t (by omega); have hget : ((outU z l i).set i ⟨u.s, u.z, ((cnt l u.s t : Nat) : Int)⟩)[i]? = some ⟨u.s, u.z, ((cnt l u.s t : Nat) : Int)⟩ := (by rw [List.getElem?_set_self (by rw [outU_len]; exact hil)]); have hcn := cnt_le l u.s t; refine XL.fact (fun w h => (Conf.rowRd h (i := 1) rfl hr).sm (by omega)) (fun hsome2 => ?_); (apply XL.det0F rfl rfl rfl rfl; exact D.indexAddr t rfl rfl rfl htl hsome2)) <;>
    ((apply XL.detF rfl rfl rfl rfl; exact D.load1 rfl (fun w hw => Rd.bAt (Conf.rowRd hw (i := 1) rfl hr) hbt)); (by_cases hin : InX l u.s t <;> first | rw [decide_eq_true hin] | rw [decide_eq_false hin])) <;>
    ((apply XL.det0F rfl rfl rfl rfl; exact D.assign rfl)) <;>
    (refine XL.nil ?_)) <;> (first | refine Ex.then ?_ | (refine N.next ?_ <;> (refine X.seq ?_ <;> (refine X.text (L := (.op .fin 0 .nil)) rfl ?_ <;>
    ((apply XL.det0F rfl rfl rfl rfl; exact D.move rfl)) <;>
    (refine XL.nil ?_)) <;> (first | refine Ex.then ?_ | (refine N.next ?_ <;> ((
    refine X.cond rfl ?_ ?_; rotate_left; (focus (
    intro hc; first | exact absurd hc (by decide) | (cases hc; done) | (refine X.skip ?_))); rotate_right; (focus (
    intro hc; first | exact absurd hc (by decide) | (cases hc; done) | (refine X.text (L := (.op .fin 0 (.op .fin 1 (.op .fin 2 (.op .fin 3 (.op .fin 4 (.op .fin 5 (.op .fin 6 (.op .fin 7 (.op .fin 8 .nil)))))))))) rfl ?_ <;>
    ((apply XL.det0F rfl rfl rfl rfl; exact D.move rfl)) <;>
    ((apply XL.det0F rfl rfl rfl rfl; exact D.move rfl)) <;>
    ((apply XL.det0F rfl rfl rfl rfl; exact D.indexAddr i rfl rfl rfl hil hsome)) <;>
    ((apply XL.det0F rfl rfl rfl rfl; first | exact D.fieldAddrB0 rfl rfl | exact D.fieldAddrB rfl rfl | exact D.fieldAddrE0 rfl rfl | exact D.fieldAddrE rfl rfl)) <;>
    ((apply XL.detF rfl rfl rfl rfl; exact D.load1 rfl (fun w hw => Rd.usV (hw.rd (a := ao)) hget))) <;>
    ((apply XL.det0F rfl rfl rfl rfl; exact D.add64 rfl rfl (by omega)); rw [show ((cnt l u.s t : Nat) : Int) + 1 = ((cnt l u.s (t + 1) : Nat) : Int) from (by simp [cnt, hin])]) <;>
    ((apply XL.det0F rfl rfl rfl rfl; exact D.indexAddr i rfl rfl rfl hil hsome)) <;>
    ((apply XL.det0F rfl rfl rfl rfl; first | exact D.fieldAddrB0 rfl rfl | exact D.fieldAddrB rfl rfl | exact D.fieldAddrE0 rfl rfl | exact D.fieldAddrE rfl rfl)) <;>
    ((refine XL.storeE (encU ((outU z l i).set i ⟨u.s, u.z, ((cnt l u.s (t + 1) : Nat) : Int)⟩)) rfl rfl rfl rfl rfl (by omega) (by rw [encU_setv _ i _ _ hget, List.set_set]) ?_)) <;>
    (refine XL.nil ?_)))))))))))) <;> (first | refine N.block ?_ | refine Ex.here ?_ | refine Ex.out rfl ?_)) <;> (first | refine Ex.then ?_ | (refine N.next ?_ <;> (refine X.text (L := (.op .fin 0 (.op .fin 1 .nil))) rfl ?_ <;>
    ((first | (have hq : InX l u.s t := hin) | (rw [show cnt l u.s t = cnt l u.s (t + 1) from (by simp [cnt, hin])])); (apply XL.det0F rfl rfl rfl rfl; exact D.add64 rfl rfl (by omega))) <;>
    ((apply XL.det0F rfl rfl rfl rfl; exact D.move rfl)) <;>
    (refine XL.nil ?_))))))))))) <;> (first | refine Ex.then ?_ | ((refine N.again ((t + 1)) ?_ ?_ ?_ ?_; (focus (omega)); (focus (first | omega | (dsimp only; omega))); (focus (repeat (first | exact Sub.nil | refine Sub.cons rfl ?_))); exact (fun w h => h.takes))))) <;> (first | refine N.block ?_ | refine Ex.here ?_ | refine Ex.out rfl ?_))))))))))) <;> (first | refine N.block ?_ | refine Ex.here ?_ | refine Ex.out rfl ?_)) <;> (first | refine Ex.then ?_ | (refine N.next ?_ <;> (refine X.text (L := (.op .fin 0 (.op .fin 1 .nil))) rfl ?_ <;>
    (have hte : t = u.z.toNat := (by omega); rw [show (outU z l i).set i ⟨u.s, u.z, ((cnt l u.s t : Nat) : Int)⟩ = outU z l (i + 1) from (by rw [hte]; exact outU_step hu)]; (apply XL.det0F rfl rfl rfl rfl; exact D.add64 rfl rfl (by omega))) <;>
    ((apply XL.det0F rfl rfl rfl rfl; exact D.move rfl)) <;>
    (refine XL.nil ?_))))))))))) <;> (first | refine Ex.then ?_ | ((refine N.again ((i + 1)) ?_ ?_ ?_ ?_; (focus (omega)); (focus (first | omega | (dsimp only; omega))); (focus (repeat (first | exact Sub.nil | refine Sub.cons rfl ?_))); exact (fun w h => h.takes))))) <;> (first | refine N.block ?_ | refine Ex.here ?_ | refine Ex.out rfl ?_))))) <;> (first | refine Ex.then ?_ | (refine N.next ?_ <;> (refine X.seq ?_ <;> (refine X.text (L := (.op .fin 0 (.op .fin 1 (.op .fin 2 .nil)))) rfl ?_ <;>
    (obtain rfl : i = z.length := (by omega); rw [outU_all]; (apply XL.det0F rfl rfl rfl rfl; exact D.move rfl)) <;>
    ((apply XL.det0F rfl rfl rfl rfl; exact D.assign rfl)) <;>
    ((apply XL.det0F rfl rfl rfl rfl; exact D.assign rfl)) <;>
    (refine XL.nil ?_)) <;> (first | refine Ex.then ?_ | (refine N.next ?_ <;> ((refine X.ret ?_; (repeat (first | refine Rt.then ?_ | refine Rt.block ?_ | refine Rt.scope ?_)); apply Rt.done (Res.r2 Try.results24 (RV.tmp rfl) (RV.tmp rfl)); (focus (first | (exact ⟨none, 0, [], e, rfl, .inl ⟨hchk, h0, rfl⟩, rfl⟩) | (exact ⟨none, 0, [], 1, rfl, .inr (.inl ⟨hok, by rw [tbE_bad hO hx, if_pos hr], by decide, rfl⟩), rfl⟩) | (exact ⟨none, 0, [], 15, rfl, .inr (.inl ⟨hok, by rw [tbE_bad hO hx, if_neg (fun h => h hr), if_pos (hbf rfl)], by decide, rfl⟩), rfl⟩) | (exact ⟨none, 0, [], 31, rfl, .inr (.inl ⟨hok, by rw [tbE_bad hO hx, if_neg (fun h => h hr), if_neg (fun h => h u (List.mem_of_getElem? hu) hus), if_pos ⟨u, List.mem_of_getElem? hu, hus, h3⟩], by decide, rfl⟩), rfl⟩) | (exact ⟨ao, co, z.map (resU l), 0, by rw [List.length_map], .inr (.inr ⟨hok, tbE_all hO, rfl, rfl⟩), by rw [List.length_map]⟩))); exact fun w h => h.takes))))))))))))))))))))))))))
end Go.Lx
