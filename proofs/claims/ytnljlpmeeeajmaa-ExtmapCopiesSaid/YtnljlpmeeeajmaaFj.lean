/- Statement ExtmapCopies. -/
import Derived.Test.YtnljlpmeeeajmaaFi
namespace Go.Lx
open Go.Proofs
set_option linter.unusedVariables false
set_option linter.unusedSimpArgs false
set_option maxRecDepth 20000
set_option maxHeartbeats 8000000

theorem encE_set (o : List Ext) (k : Nat) (x : Ext) (h : k < o.length) : putAt (encE o) (k * 4) [.int .i64 x.a, .int .i64 x.n, .int .i64 x.q, .int .i64 x.p] = encE (o.set k x) := putAt_flat encE1 4 (fun _ => rfl) x o k h
theorem same_upto {α : Type} {l m : List α} {i : Nat} {v : α} (hl : l.length = m.length) (h : ∀ j, j < i → l[j]? = m[j]?) (hv : m[i]? = some v) : ∀ j, j < i + 1 → (l.set i v)[j]? = m[j]? := by
  intro j hj
  have := (List.getElem?_eq_some_iff.1 hv).1
  by_cases e : j = i
  · subst e
    rw [List.getElem?_set_self (by omega), hv]
  · rw [List.getElem?_set_ne (Ne.symm e)]
    exact h j (by omega)
theorem ExtmapCopies_spec (w : World) (a ak : Option Addr) (c ck : Nat) (l k : List OpL) (hl : Rd w 4 a l.length c (encO l)) (hk : Rd w 4 ak k.length ck (encO k)) (hg : ∀ o ∈ l, Rd w 4 o.a o.l.length o.c (encE o.l)) (hgk : ∀ o ∈ k, Rd w 4 o.a o.l.length o.c (encE o.l)) :
    Spec Try.prog 8 #[.slice a l.length c, .slice ak k.length ck] w (fun _ => False) (fun v A => v = .bool true ∧ A = []) := by
  have hb1 := hl.bd
  have hb2 := hk.bd
  refine Spec.enter (args := [.slice a l.length c, .slice ak k.length ck]) (A := []) Try.func8 rfl Try.ntmps8 rfl (fun _ h => h) ?_
  (refine X.seq ?_ <;> (refine X.text (L := (.op .fin 0 .nil)) rfl ?_ <;>
    ((apply XL.det0F rfl rfl rfl rfl; exact D.assign rfl)) <;>
    (refine XL.nil ?_)) <;> (first | refine Ex.then ?_ | (refine N.next ?_ <;> (refine X.seq ?_ <;> (refine X.text (L := (.op .fin 0 (.op .fin 1 .nil))) rfl ?_ <;>
    ((refine XL.call rfl rfl rfl rfl (fun w hw => New_spec w) ?_; rintro v B' ⟨gm, rfl, rfl⟩; refine XL.both ?_); refine XL.mem (fun w h => (show Conf _ [cells gm [.slice none (List.length (([] : List Ext))) 0] 76, own 30 4 (.slice none (List.length (([] : List Ext))) 0) (List.length (([] : List Ext))) (encE (([] : List Ext)))] w from (h.nilOwn 30 4).perm (List.Perm.swap _ _ _))) ?_) <;>
    ((apply XL.det0F rfl rfl rfl rfl; exact D.assign rfl)) <;>
    (refine XL.nil ?_)) <;> (first | refine Ex.then ?_ | (refine N.next ?_ <;> (refine X.seq ?_ <;> (refine X.seq ?_ <;> (refine X.text (L := (.op .fin 0 (.op .fin 1 (.op .fin 2 (.op .fin 3 (.op .fin 4 (.op .fin 5 (.op .fin 6 (.op .fin 7 (.op .fin 8 (.op .fin 9 (.op .fin 10 (.op .fin 11 .nil))))))))))))) rfl ?_ <;>
    ((apply XL.det0F rfl rfl rfl rfl; exact D.move rfl)) <;>
    (first | refine XL.cmpTF rfl rfl rfl rfl (D.int rfl rfl rfl) (by omega) ?_ | refine XL.cmpFF rfl rfl rfl rfl (D.int rfl rfl rfl) (by omega) ?_ | refine XL.splitF rfl rfl rfl rfl (D.int rfl rfl rfl) (fun _ => ?_) (fun _ => ?_) | refine XL.cmpTF rfl rfl rfl rfl (D.eqS2 rfl rfl) (by omega) ?_ | refine XL.cmpFF rfl rfl rfl rfl (D.eqS2 rfl rfl) (by omega) ?_ | refine XL.splitF rfl rfl rfl rfl (D.eqS2 rfl rfl) (fun _ => ?_) (fun _ => ?_) | (apply XL.det0F rfl rfl rfl rfl; first | exact D.eqNilS rfl rfl | exact D.boolEq rfl rfl | exact D.eqNilP rfl rfl)) <;>
    ((apply XL.det0F rfl rfl rfl rfl; exact D.move rfl)) <;>
    (first | refine XL.skipF rfl rfl rfl rfl ?_ | ((apply XL.det0F rfl rfl rfl rfl; exact D.move rfl))) <;>
    (first | refine XL.skipF rfl rfl rfl rfl ?_ | ((refine XL.call rfl rfl rfl rfl (fun w hw => FewO_spec w a c l (hl.conf0 hw) (fun o ho => (hg o ho).conf0 hw)) ?_; rintro v B' ⟨b, rfl, hb, rfl⟩; refine XL.both ?_); cases b)) <;>
    (first | refine XL.skipF rfl rfl rfl rfl ?_ | ((apply XL.det0F rfl rfl rfl rfl; exact D.not rfl))) <;>
    ((apply XL.det0F rfl rfl rfl rfl; first | exact D.pickT rfl rfl | exact D.pickF rfl rfl | exact D.pick rfl rfl rfl)) <;>
    ((apply XL.det0F rfl rfl rfl rfl; exact D.move rfl)) <;>
    (first | refine XL.skipF rfl rfl rfl rfl ?_ | ((apply XL.det0F rfl rfl rfl rfl; exact D.move rfl))) <;>
    (first | refine XL.skipF rfl rfl rfl rfl ?_ | ((refine XL.call rfl rfl rfl rfl (fun w hw => FewO_spec w ak ck k (hk.conf0 hw) (fun o ho => (hgk o ho).conf0 hw)) ?_; rintro v B' ⟨b, rfl, hbk, rfl⟩; refine XL.both ?_); cases b)) <;>
    (first | refine XL.skipF rfl rfl rfl rfl ?_ | ((apply XL.det0F rfl rfl rfl rfl; exact D.not rfl))) <;>
    ((apply XL.det0F rfl rfl rfl rfl; first | exact D.pickT rfl rfl | exact D.pickF rfl rfl | exact D.pick rfl rfl rfl)) <;>
    (refine XL.nil ?_)) <;> (first | refine Ex.then ?_ | (refine N.next ?_ <;> ((
    refine X.cond rfl ?_ ?_; rotate_left; (focus (
    intro hc; first | exact absurd hc (by decide) | (cases hc; done) | (refine X.skip ?_))); rotate_right; (focus (
    intro hc; first | exact absurd hc (by decide) | (cases hc; done) | (refine X.seq ?_ <;> (refine X.text (L := (.op .fin 0 (.op .fin 1 (.op .fin 2 (.op .fin 3 (.op .fin 4 (.op .fin 5 .nil))))))) rfl ?_ <;>
    ((apply XL.det0F rfl rfl rfl rfl; exact D.move rfl)) <;>
    (first | refine XL.cmpTF rfl rfl rfl rfl (D.int rfl rfl rfl) (by omega) ?_ | refine XL.cmpFF rfl rfl rfl rfl (D.int rfl rfl rfl) (by omega) ?_ | refine XL.splitF rfl rfl rfl rfl (D.int rfl rfl rfl) (fun _ => ?_) (fun _ => ?_) | refine XL.cmpTF rfl rfl rfl rfl (D.neS2 rfl rfl) (by omega) ?_ | refine XL.cmpFF rfl rfl rfl rfl (D.neS2 rfl rfl) (by omega) ?_ | refine XL.splitF rfl rfl rfl rfl (D.neS2 rfl rfl) (fun _ => ?_) (fun _ => ?_) | (apply XL.det0F rfl rfl rfl rfl; first | exact D.neNilS rfl rfl | exact D.boolNe rfl rfl | exact D.neNilP rfl rfl)) <;>
    ((apply XL.det0F rfl rfl rfl rfl; exact D.move rfl)) <;>
    (first | refine XL.skipF rfl rfl rfl rfl ?_ | ((refine XL.call rfl rfl rfl rfl (fun w hw => awakeM_spec w) ?_; rintro v B' ⟨rfl, rfl⟩; refine XL.both ?_))) <;>
    ((apply XL.det0F rfl rfl rfl rfl; first | exact D.pickT rfl rfl | exact D.pickF rfl rfl | exact D.pick rfl rfl rfl)) <;>
    ((apply XL.det0F rfl rfl rfl rfl; exact D.assign rfl)) <;>
    (refine XL.nil ?_)) <;> (first | refine Ex.then ?_ | (refine N.next ?_ <;> ((refine X.ret ?_; (repeat (first | refine Rt.then ?_ | refine Rt.block ?_ | refine Rt.scope ?_)); apply Rt.done (Res.r1 Try.results8 (RV.tmp rfl)); (focus (exact ⟨rfl, rfl⟩)); exact fun w h => h.takes)))))))))))) <;> (first | refine Ex.then ?_ | (refine N.next ?_ <;> (refine X.seq ?_ <;> (refine X.text (L := (.op .fin 0 (.op .fin 1 .nil))) rfl ?_ <;>
    (have hfew := hb.1 rfl; have hfewk := hbk.1 rfl; (refine XL.call rfl rfl rfl rfl (fun w hw => refNew_spec w) ?_; rintro v B' ⟨gr, pa, ca, ps, cs, is, sp, rfl, hR, rfl⟩; refine XL.both ?_)) <;>
    ((apply XL.det0F rfl rfl rfl rfl; exact D.assign rfl)) <;>
    (refine XL.nil ?_)) <;> (first | refine Ex.then ?_ | (refine N.next ?_ <;> (refine X.seq ?_ <;> (refine X.seq ?_ <;> (refine X.text (L := (.op .fin 0 .nil)) rfl ?_ <;>
    ((apply XL.det0F rfl rfl rfl rfl; exact D.assign rfl)) <;>
    (refine XL.nil ?_)) <;> (first | refine Ex.then ?_ | (refine N.next ?_ <;> (refine X.block ?_ <;> ((refine X.loop (ι := Nat × Option Addr × Nat × List Ext × List Bool × List Sp × Sig) (fun y => [(0, .slice a l.length c), (1, .slice ak k.length ck), (5, .pointer (some ⟨gm, 0, none⟩)), (6, .pointer (some ⟨gr, 0, none⟩)), (7, .int .i64 y.1)]) (fun y => [cells gm [.slice y.2.1 (List.length y.2.2.2.1) y.2.2.1] 76, own 30 4 (.slice y.2.1 (List.length y.2.2.2.1) y.2.2.1) (List.length y.2.2.2.1) (encE y.2.2.2.1), cells gr [.slice pa 300 ca, .slice ps 300 cs] 67, own 4 1 (.slice pa 300 ca) 300 (encB y.2.2.2.2.1), own 28 2 (.slice ps 300 cs) 300 (encS y.2.2.2.2.2.1)]) (fun y => y.1 ≤ l.length ∧ IsMap y.2.2.2.1 y.2.2.2.2.2.2 ∧ IsRef y.2.2.2.2.1 y.2.2.2.2.2.1 y.2.2.2.2.2.2) (fun y => l.length - y.1) ((0, none, 0, [], is, sp, noneS)) ?_ ?_ ?_ ?_; (focus (exact ⟨Nat.zero_le _, IsMap.empty, hR⟩)); (focus (repeat (first | exact Sub.nil | refine Sub.cons rfl ?_))); (focus (exact (fun w h => h.takes))); rintro ⟨i, a2, c2, l2, is2, sp2, σ2⟩ ⟨hi, hM2, hR2⟩; (dsimp only at *)) <;> (refine X.seq ?_ <;> (refine X.seq ?_ <;> (refine X.text (L := (.op .fin 0 (.op .fin 1 (.op .fin 2 (.op .fin 3 .nil))))) rfl ?_ <;>
    ((apply XL.det0F rfl rfl rfl rfl; exact D.move rfl)) <;>
    ((apply XL.det0F rfl rfl rfl rfl; exact D.move rfl)) <;>
    ((apply XL.det0F rfl rfl rfl rfl; first | exact D.len rfl | exact D.lenS rfl)) <;>
    (first | refine XL.splitF rfl rfl rfl rfl (D.int rfl rfl rfl) (fun h0 => ?_) (fun h0 => ?_)) <;>
    (refine XL.nil ?_)) <;> (first | refine Ex.then ?_ | (refine N.next ?_ <;> ((
    refine X.cond rfl ?_ ?_; rotate_left; (focus (
    intro hc; first | exact absurd hc (by decide) | (cases hc; done) | (refine X.exit ?_))); rotate_right; (focus (
    intro hc; first | exact absurd hc (by decide) | (cases hc; done) | (refine X.skip ?_)))))))) <;> (first | refine Ex.then ?_ | (refine N.next ?_ <;> (refine X.seq ?_ <;> (refine X.block ?_ <;> (refine X.seq ?_ <;> (refine X.text (L := (.op .fin 0 (.op .fin 1 (.op .fin 2 (.op .fin 3 (.op .fin 4 (.op .fin 5 (.op .fin 6 (.op .fin 7 .nil))))))))) rfl ?_ <;>
    ((apply XL.det0F rfl rfl rfl rfl; exact D.move rfl)) <;>
    ((apply XL.det0F rfl rfl rfl rfl; exact D.move rfl)) <;>
    ((apply XL.det0F rfl rfl rfl rfl; exact D.move rfl)) <;>
    ((apply XL.det0F rfl rfl rfl rfl; exact D.move rfl)) <;>
    (have hil : i < l.length := (by omega); obtain ⟨o, ho⟩ := get_lt hil; have hom := List.mem_of_getElem? ho; have hno := hfew.2 o hom; (apply XL.det0F rfl rfl rfl rfl; exact D.indexAddr i rfl rfl rfl hil (hl.sm (by omega)))) <;>
    ((apply XL.detF rfl rfl rfl rfl; exact D.loadN rfl rfl (fun w hw j u hu => Rd.op (hl.conf0 hw) ho j u hu))) <;>
    ((refine XL.callF [cells gm [.slice a2 (List.length l2) c2] 76, own 30 4 (.slice a2 (List.length l2) c2) (List.length l2) (encE l2), cells gr [.slice pa 300 ca, .slice ps 300 cs] 67, own 4 1 (.slice pa 300 ca) 300 (encB is2), own 28 2 (.slice ps 300 cs) 300 (encS sp2)] rfl rfl rfl rfl (fun w F hF hm hw => does_spec w F gm gr a2 pa ps o.a c2 ca cs o.c l2 o.l is2 sp2 σ2 o.k o.q o.p hF (RdX.call0 (hg o hom) hw hm) hM2 hR2 hno.1 hno.2) ?_; rintro v B' ⟨a3, c3, l3, is3, sp3, σ3, rfl, hM3, hR3, rfl⟩; refine XL.both ?_)) <;>
    ((apply XL.det0F rfl rfl rfl rfl; exact D.not rfl)) <;>
    (refine XL.nil ?_)) <;> (first | refine Ex.then ?_ | (refine N.next ?_ <;> ((
    refine X.cond rfl ?_ ?_; rotate_left; (focus (
    intro hc; first | exact absurd hc (by decide) | (cases hc; done) | (refine X.skip ?_))); rotate_right; (focus (
    intro hc; first | exact absurd hc (by decide) | (cases hc; done) | (refine X.seq ?_ <;> (refine X.text (L := (.op .fin 0 .nil)) rfl ?_ <;>
    ((apply XL.det0F rfl rfl rfl rfl; exact D.assign rfl)) <;>
    (refine XL.nil ?_)) <;> (first | refine Ex.then ?_ | (refine N.next ?_ <;> ((refine X.ret ?_; (repeat (first | refine Rt.then ?_ | refine Rt.block ?_ | refine Rt.scope ?_)); apply Rt.done (Res.r1 Try.results8 (RV.tmp rfl)); (focus (exact ⟨rfl, rfl⟩)); exact fun w h => h.takes)))))))))))) <;> (first | refine N.block ?_ | refine Ex.here ?_ | refine Ex.out rfl ?_)) <;> (first | refine Ex.then ?_ | (refine N.next ?_ <;> (refine X.text (L := (.op .fin 0 (.op .fin 1 (.op .fin 2 .nil)))) rfl ?_ <;>
    ((apply XL.det0F rfl rfl rfl rfl; exact D.move rfl)) <;>
    ((apply XL.det0F rfl rfl rfl rfl; first | exact D.add64 rfl rfl (by omega) | exact D.int rfl rfl rfl)) <;>
    ((apply XL.det0F rfl rfl rfl rfl; exact D.assign rfl)) <;>
    (refine XL.nil ?_)))))))) <;> (first | refine Ex.then ?_ | ((refine N.again ((i + 1, a3, c3, l3, is3, sp3, σ3)) ?_ ?_ ?_ ?_; (focus (exact ⟨by dsimp only; omega, hM3, hR3⟩)); (focus (first | omega | (dsimp only; omega))); (focus (repeat (first | exact Sub.nil | refine Sub.cons rfl ?_))); exact (fun w h => h.takes))))) <;> (first | refine N.block ?_ | refine Ex.here ?_ | refine Ex.out rfl ?_))))) <;> (first | refine Ex.then ?_ | (refine N.next ?_ <;> (refine X.seq ?_ <;> (refine X.text (L := (.op .fin 0 (.op .fin 1 (.op .fin 2 .nil)))) rfl ?_ <;>
    ((apply XL.det0F rfl rfl rfl rfl; exact D.move rfl)) <;>
    (have hlen2 := rise_len l2 0 hM2.rise (by omega); (refine XL.call rfl rfl rfl rfl (fun w hw => Copy_spec w gm a2 c2 l2 (hw.cellAt (Loc.at_) rfl) (hw.rd (a := a2)) (by omega)) ?_; rintro v B' ⟨gn, an, cn, rfl, rfl⟩; refine XL.both ?_)) <;>
    ((apply XL.det0F rfl rfl rfl rfl; exact D.assign rfl)) <;>
    (refine XL.nil ?_)) <;> (first | refine Ex.then ?_ | (refine N.next ?_ <;> (refine X.seq ?_ <;> (refine X.text (L := (.op .fin 0 (.op .fin 1 (.op .fin 2 .nil)))) rfl ?_ <;>
    ((apply XL.det0F rfl rfl rfl rfl; exact D.move rfl)) <;>
    ((refine XL.call rfl rfl rfl rfl (fun w hw => All_spec w gm a2 c2 l2 (hw.cellAt (Loc.at_) rfl) (hw.rd (a := a2)) (by omega)) ?_; rintro v B' ⟨aw, cw, rfl, rfl⟩; refine XL.both ?_)) <;>
    ((apply XL.det0F rfl rfl rfl rfl; exact D.assign rfl)) <;>
    (refine XL.nil ?_)) <;> (first | refine Ex.then ?_ | (refine N.next ?_ <;> (refine X.seq ?_ <;> (refine X.seq ?_ <;> (refine X.text (L := (.op .fin 0 .nil)) rfl ?_ <;>
    ((apply XL.det0F rfl rfl rfl rfl; exact D.assign rfl)) <;>
    (refine XL.nil ?_)) <;> (first | refine Ex.then ?_ | (refine N.next ?_ <;> (refine X.block ?_ <;> ((refine X.loop (ι := Nat × List Ext) (fun y => [(1, .slice ak k.length ck), (5, .pointer (some ⟨gm, 0, none⟩)), (6, .pointer (some ⟨gr, 0, none⟩)), (8, .pointer (some ⟨gn, 0, none⟩)), (9, .slice aw l2.length cw), (10, .int .i64 y.1)]) (fun y => [own 30 4 (.slice aw l2.length cw) l2.length (encE y.2), cells gn [.slice an (List.length l2) cn] 76, own 30 4 (.slice an (List.length l2) cn) (List.length l2) (encE l2), cells gm [.slice a2 (List.length l2) c2] 76, own 30 4 (.slice a2 (List.length l2) c2) (List.length l2) (encE l2), cells gr [.slice pa 300 ca, .slice ps 300 cs] 67, own 4 1 (.slice pa 300 ca) 300 (encB is2), own 28 2 (.slice ps 300 cs) 300 (encS sp2)]) (fun y => y.1 ≤ l2.length ∧ y.2.length = l2.length) (fun y => l2.length - y.1) ((0, l2)) ?_ ?_ ?_ ?_; (focus (exact ⟨Nat.zero_le _, rfl⟩)); (focus (repeat (first | exact Sub.nil | refine Sub.cons rfl ?_))); (focus (exact (fun w h => h.takes))); rintro ⟨i, A⟩ ⟨hi, hAl⟩; (dsimp only at *)) <;> (refine X.seq ?_ <;> (refine X.seq ?_ <;> (refine X.text (L := (.op .fin 0 (.op .fin 1 (.op .fin 2 (.op .fin 3 .nil))))) rfl ?_ <;>
    ((apply XL.det0F rfl rfl rfl rfl; exact D.move rfl)) <;>
    ((apply XL.det0F rfl rfl rfl rfl; exact D.move rfl)) <;>
    ((apply XL.det0F rfl rfl rfl rfl; first | exact D.len rfl | exact D.lenS rfl)) <;>
    (first | refine XL.splitF rfl rfl rfl rfl (D.int rfl rfl rfl) (fun h0 => ?_) (fun h0 => ?_)) <;>
    (refine XL.nil ?_)) <;> (first | refine Ex.then ?_ | (refine N.next ?_ <;> ((
    refine X.cond rfl ?_ ?_; rotate_left; (focus (
    intro hc; first | exact absurd hc (by decide) | (cases hc; done) | (refine X.exit ?_))); rotate_right; (focus (
    intro hc; first | exact absurd hc (by decide) | (cases hc; done) | (refine X.skip ?_)))))))) <;> (first | refine Ex.then ?_ | (refine N.next ?_ <;> (refine X.seq ?_ <;> (refine X.block ?_ <;> (refine X.text (L := (.op .fin 0 (.op .fin 1 (.op .fin 2 (.op .fin 3 (.op .fin 4 .nil)))))) rfl ?_ <;>
    ((apply XL.det0F rfl rfl rfl rfl; exact D.move rfl)) <;>
    ((apply XL.det0F rfl rfl rfl rfl; exact D.move rfl)) <;>
    (have hil : i < l2.length := (by omega); refine XL.fact (fun w h => (h.rd (a := aw)).sm (by omega)) (fun hsome => ?_); (refine XL.call rfl rfl rfl rfl (fun w hw => Ext_spec 7 7 7 7 w) ?_; rintro v B' ⟨rfl, rfl⟩; refine XL.both ?_); unfold valE) <;>
    ((apply XL.det0F rfl rfl rfl rfl; exact D.indexAddr i rfl rfl rfl hil hsome)) <;>
    ((refine XL.storeE (cs := [.int .i64 7, .int .i64 7, .int .i64 7, .int .i64 7]) (encE (A.set i ⟨7, 7, 7, 7⟩)) rfl rfl rfl rfl rfl (by omega) (encE_set A i ⟨7, 7, 7, 7⟩ (by omega)) ?_)) <;>
    (refine XL.nil ?_)) <;> (first | refine N.block ?_ | refine Ex.here ?_ | refine Ex.out rfl ?_)) <;> (first | refine Ex.then ?_ | (refine N.next ?_ <;> (refine X.text (L := (.op .fin 0 (.op .fin 1 (.op .fin 2 .nil)))) rfl ?_ <;>
    ((apply XL.det0F rfl rfl rfl rfl; exact D.move rfl)) <;>
    ((apply XL.det0F rfl rfl rfl rfl; first | exact D.add64 rfl rfl (by omega) | exact D.int rfl rfl rfl)) <;>
    ((apply XL.det0F rfl rfl rfl rfl; exact D.assign rfl)) <;>
    (refine XL.nil ?_)))))))) <;> (first | refine Ex.then ?_ | ((refine N.again ((i + 1, A.set i ⟨7, 7, 7, 7⟩)) ?_ ?_ ?_ ?_; (focus (exact ⟨by dsimp only; omega, by simp [hAl]⟩)); (focus (first | omega | (dsimp only; omega))); (focus (repeat (first | exact Sub.nil | refine Sub.cons rfl ?_))); exact (fun w h => h.takes))))) <;> (first | refine N.block ?_ | refine Ex.here ?_ | refine Ex.out rfl ?_))))) <;> (first | refine Ex.then ?_ | (refine N.next ?_ <;> (refine X.seq ?_ <;> (refine X.text (L := (.op .fin 0 (.op .fin 1 (.op .fin 2 (.op .fin 3 (.op .fin 4 (.op .fin 5 (.op .fin 6 (.op .fin 7 .nil))))))))) rfl ?_ <;>
    ((apply XL.det0F rfl rfl rfl rfl; exact D.move rfl)) <;>
    ((apply XL.det0F rfl rfl rfl rfl; exact D.build rfl)) <;>
    ((refine XL.call rfl rfl rfl rfl (fun w hw => Find_spec w gm a2 c2 l2 (0, 300) (hw.cellAt (Loc.at_) rfl) (hw.rd (a := a2)) hM2.rise) ?_; rintro v B' ⟨pf, cf, I, ef, rfl, hef, rfl⟩; refine XL.both ?_)) <;>
    ((apply XL.det0F rfl rfl rfl rfl; exact D.move rfl)) <;>
    ((apply XL.det0F rfl rfl rfl rfl; exact D.extract rfl rfl)) <;>
    ((apply XL.det0F rfl rfl rfl rfl; exact D.extract rfl rfl)) <;>
    ((apply XL.det0F rfl rfl rfl rfl; exact D.assign rfl)) <;>
    ((apply XL.det0F rfl rfl rfl rfl; exact D.assign rfl)) <;>
    (refine XL.nil ?_)) <;> (first | refine Ex.then ?_ | (refine N.next ?_ <;> (refine X.seq ?_ <;> (refine X.seq ?_ <;> (refine X.text (L := (.op .fin 0 .nil)) rfl ?_ <;>
    ((apply XL.det0F rfl rfl rfl rfl; exact D.assign rfl)) <;>
    (refine XL.nil ?_)) <;> (first | refine Ex.then ?_ | (refine N.next ?_ <;> (refine X.block ?_ <;> ((refine X.loop (ι := Nat × List Ext) (fun y => [(1, .slice ak k.length ck), (5, .pointer (some ⟨gm, 0, none⟩)), (6, .pointer (some ⟨gr, 0, none⟩)), (8, .pointer (some ⟨gn, 0, none⟩)), (11, .slice pf I.length cf), (13, .int .i64 y.1)]) (fun y => [own 30 4 (.slice pf I.length cf) I.length (encE y.2), cells gn [.slice an (List.length l2) cn] 76, own 30 4 (.slice an (List.length l2) cn) (List.length l2) (encE l2), cells gm [.slice a2 (List.length l2) c2] 76, own 30 4 (.slice a2 (List.length l2) c2) (List.length l2) (encE l2), cells gr [.slice pa 300 ca, .slice ps 300 cs] 67, own 4 1 (.slice pa 300 ca) 300 (encB is2), own 28 2 (.slice ps 300 cs) 300 (encS sp2)]) (fun y => y.1 ≤ I.length ∧ y.2.length = I.length) (fun y => I.length - y.1) ((0, I)) ?_ ?_ ?_ ?_; (focus (exact ⟨Nat.zero_le _, rfl⟩)); (focus (repeat (first | exact Sub.nil | refine Sub.cons rfl ?_))); (focus (exact (fun w h => h.takes))); rintro ⟨i, B⟩ ⟨hi, hAl⟩; (dsimp only at *; have hIb : I.length ≤ 65536 := (by rcases hef with ⟨_, _, _, h⟩ | ⟨_, _, h⟩; omega; (subst h; exact Nat.zero_le _)))) <;> (refine X.seq ?_ <;> (refine X.seq ?_ <;> (refine X.text (L := (.op .fin 0 (.op .fin 1 (.op .fin 2 (.op .fin 3 .nil))))) rfl ?_ <;>
    ((apply XL.det0F rfl rfl rfl rfl; exact D.move rfl)) <;>
    ((apply XL.det0F rfl rfl rfl rfl; exact D.move rfl)) <;>
    ((apply XL.det0F rfl rfl rfl rfl; first | exact D.len rfl | exact D.lenS rfl)) <;>
    (first | refine XL.splitF rfl rfl rfl rfl (D.int rfl rfl rfl) (fun h0 => ?_) (fun h0 => ?_)) <;>
    (refine XL.nil ?_)) <;> (first | refine Ex.then ?_ | (refine N.next ?_ <;> ((
    refine X.cond rfl ?_ ?_; rotate_left; (focus (
    intro hc; first | exact absurd hc (by decide) | (cases hc; done) | (refine X.exit ?_))); rotate_right; (focus (
    intro hc; first | exact absurd hc (by decide) | (cases hc; done) | (refine X.skip ?_)))))))) <;> (first | refine Ex.then ?_ | (refine N.next ?_ <;> (refine X.seq ?_ <;> (refine X.block ?_ <;> (refine X.text (L := (.op .fin 0 (.op .fin 1 (.op .fin 2 (.op .fin 3 (.op .fin 4 .nil)))))) rfl ?_ <;>
    ((apply XL.det0F rfl rfl rfl rfl; exact D.move rfl)) <;>
    ((apply XL.det0F rfl rfl rfl rfl; exact D.move rfl)) <;>
    (have hil : i < I.length := (by omega); refine XL.fact (fun w h => (h.rd (a := pf)).sm (by omega)) (fun hsome => ?_); (refine XL.call rfl rfl rfl rfl (fun w hw => Ext_spec 7 7 7 7 w) ?_; rintro v B' ⟨rfl, rfl⟩; refine XL.both ?_); unfold valE) <;>
    ((apply XL.det0F rfl rfl rfl rfl; exact D.indexAddr i rfl rfl rfl hil hsome)) <;>
    ((refine XL.storeE (cs := [.int .i64 7, .int .i64 7, .int .i64 7, .int .i64 7]) (encE (B.set i ⟨7, 7, 7, 7⟩)) rfl rfl rfl rfl rfl (by omega) (encE_set B i ⟨7, 7, 7, 7⟩ (by omega)) ?_)) <;>
    (refine XL.nil ?_)) <;> (first | refine N.block ?_ | refine Ex.here ?_ | refine Ex.out rfl ?_)) <;> (first | refine Ex.then ?_ | (refine N.next ?_ <;> (refine X.text (L := (.op .fin 0 (.op .fin 1 (.op .fin 2 .nil)))) rfl ?_ <;>
    ((apply XL.det0F rfl rfl rfl rfl; exact D.move rfl)) <;>
    ((apply XL.det0F rfl rfl rfl rfl; first | exact D.add64 rfl rfl (by omega) | exact D.int rfl rfl rfl)) <;>
    ((apply XL.det0F rfl rfl rfl rfl; exact D.assign rfl)) <;>
    (refine XL.nil ?_)))))))) <;> (first | refine Ex.then ?_ | ((refine N.again ((i + 1, B.set i ⟨7, 7, 7, 7⟩)) ?_ ?_ ?_ ?_; (focus (exact ⟨by dsimp only; omega, by simp [hAl]⟩)); (focus (first | omega | (dsimp only; omega))); (focus (repeat (first | exact Sub.nil | refine Sub.cons rfl ?_))); exact (fun w h => h.takes))))) <;> (first | refine N.block ?_ | refine Ex.here ?_ | refine Ex.out rfl ?_))))) <;> (first | refine Ex.then ?_ | (refine N.next ?_ <;> (refine X.seq ?_ <;> (refine X.seq ?_ <;> (refine X.text (L := (.op .fin 0 (.op .fin 1 (.op .fin 2 (.op .fin 3 (.op .fin 4 (.op .fin 5 (.op .fin 6 (.op .fin 7 (.op .fin 8 (.op .fin 9 (.op .fin 10 (.op .fin 11 (.op .fin 12 (.op .fin 13 .nil))))))))))))))) rfl ?_ <;>
    ((apply XL.det0F rfl rfl rfl rfl; exact D.move rfl)) <;>
    (first | refine XL.cmpTF rfl rfl rfl rfl (D.int rfl rfl rfl) (by omega) ?_ | refine XL.cmpFF rfl rfl rfl rfl (D.int rfl rfl rfl) (by omega) ?_ | refine XL.splitF rfl rfl rfl rfl (D.int rfl rfl rfl) (fun _ => ?_) (fun _ => ?_) | refine XL.cmpTF rfl rfl rfl rfl (D.eqS2 rfl rfl) (by omega) ?_ | refine XL.cmpFF rfl rfl rfl rfl (D.eqS2 rfl rfl) (by omega) ?_ | refine XL.splitF rfl rfl rfl rfl (D.eqS2 rfl rfl) (fun _ => ?_) (fun _ => ?_) | (apply XL.det0F rfl rfl rfl rfl; first | exact D.eqNilS rfl rfl | exact D.boolEq rfl rfl | exact D.eqNilP rfl rfl)) <;>
    ((apply XL.det0F rfl rfl rfl rfl; exact D.move rfl)) <;>
    (first | refine XL.skipF rfl rfl rfl rfl ?_ | ((apply XL.det0F rfl rfl rfl rfl; exact D.move rfl))) <;>
    (first | refine XL.skipF rfl rfl rfl rfl ?_ | ((apply XL.det0F rfl rfl rfl rfl; exact D.move rfl))) <;>
    (first | refine XL.skipF rfl rfl rfl rfl ?_ | ((refine XL.call rfl rfl rfl rfl (fun w hw => SameM_spec w gn gr an pa ps cn ca cs l2 is2 sp2 σ2 (hw.cellAt (Loc.at_) rfl) (hw.rd (a := an)) (hw.cellAt (Loc.at_) rfl) (hw.cellAt (Loc.at_) rfl) (hw.rd (a := pa)) (hw.rd (a := ps)) hM2 hR2) ?_; rintro v B' ⟨rfl, rfl⟩; refine XL.both ?_))) <;>
    (first | refine XL.skipF rfl rfl rfl rfl ?_ | ((apply XL.det0F rfl rfl rfl rfl; exact D.not rfl))) <;>
    ((apply XL.det0F rfl rfl rfl rfl; first | exact D.pickT rfl rfl | exact D.pickF rfl rfl | exact D.pick rfl rfl rfl)) <;>
    ((apply XL.det0F rfl rfl rfl rfl; exact D.move rfl)) <;>
    (first | refine XL.skipF rfl rfl rfl rfl ?_ | ((apply XL.det0F rfl rfl rfl rfl; exact D.move rfl))) <;>
    (first | refine XL.skipF rfl rfl rfl rfl ?_ | ((apply XL.det0F rfl rfl rfl rfl; exact D.move rfl))) <;>
    (first | refine XL.skipF rfl rfl rfl rfl ?_ | ((refine XL.call rfl rfl rfl rfl (fun w hw => SameM_spec w gm gr a2 pa ps c2 ca cs l2 is2 sp2 σ2 (hw.cellAt (Loc.at_) rfl) (hw.rd (a := a2)) (hw.cellAt (Loc.at_) rfl) (hw.cellAt (Loc.at_) rfl) (hw.rd (a := pa)) (hw.rd (a := ps)) hM2 hR2) ?_; rintro v B' ⟨rfl, rfl⟩; refine XL.both ?_))) <;>
    (first | refine XL.skipF rfl rfl rfl rfl ?_ | ((apply XL.det0F rfl rfl rfl rfl; exact D.not rfl))) <;>
    ((apply XL.det0F rfl rfl rfl rfl; first | exact D.pickT rfl rfl | exact D.pickF rfl rfl | exact D.pick rfl rfl rfl)) <;>
    (refine XL.nil ?_)) <;> (first | refine Ex.then ?_ | (refine N.next ?_ <;> ((
    refine X.cond rfl ?_ ?_; rotate_left; (focus (
    intro hc; first | exact absurd hc (by decide) | (cases hc; done) | (refine X.skip ?_))); rotate_right; (focus (
    intro hc; first | exact absurd hc (by decide) | (cases hc; done) | (refine X.seq ?_ <;> (refine X.text (L := (.op .fin 0 .nil)) rfl ?_ <;>
    ((apply XL.det0F rfl rfl rfl rfl; exact D.assign rfl)) <;>
    (refine XL.nil ?_)) <;> (first | refine Ex.then ?_ | (refine N.next ?_ <;> ((refine X.ret ?_; (repeat (first | refine Rt.then ?_ | refine Rt.block ?_ | refine Rt.scope ?_)); apply Rt.done (Res.r1 Try.results8 (RV.tmp rfl)); (focus (exact ⟨rfl, rfl⟩)); exact fun w h => h.takes)))))))))))) <;> (first | refine Ex.then ?_ | (refine N.next ?_ <;> (refine X.seq ?_ <;> (refine X.text (L := (.op .fin 0 (.op .fin 1 .nil))) rfl ?_ <;>
    ((refine XL.call rfl rfl rfl rfl (fun w hw => refNew_spec w) ?_; rintro v B' ⟨go, pb, cb, pt, ct, it0, st0, rfl, hRo, rfl⟩; refine XL.both ?_)) <;>
    ((apply XL.det0F rfl rfl rfl rfl; exact D.assign rfl)) <;>
    (refine XL.nil ?_)) <;> (first | refine Ex.then ?_ | (refine N.next ?_ <;> (refine X.seq ?_ <;> (refine X.seq ?_ <;> (refine X.text (L := (.op .fin 0 .nil)) rfl ?_ <;>
    ((apply XL.det0F rfl rfl rfl rfl; exact D.assign rfl)) <;>
    (refine XL.nil ?_)) <;> (first | refine Ex.then ?_ | (refine N.next ?_ <;> (refine X.block ?_ <;> ((refine X.loop (ι := Nat × List Bool × List Sp) (fun y => [(1, .slice ak k.length ck), (5, .pointer (some ⟨gm, 0, none⟩)), (6, .pointer (some ⟨gr, 0, none⟩)), (8, .pointer (some ⟨gn, 0, none⟩)), (14, .pointer (some ⟨go, 0, none⟩)), (15, .int .i64 y.1)]) (fun y => [cells go [.slice pb 300 cb, .slice pt 300 ct] 67, own 4 1 (.slice pb 300 cb) 300 (encB y.2.1), own 28 2 (.slice pt 300 ct) 300 (encS y.2.2), cells gn [.slice an (List.length l2) cn] 76, own 30 4 (.slice an (List.length l2) cn) (List.length l2) (encE l2), cells gm [.slice a2 (List.length l2) c2] 76, own 30 4 (.slice a2 (List.length l2) c2) (List.length l2) (encE l2), cells gr [.slice pa 300 ca, .slice ps 300 cs] 67, own 4 1 (.slice pa 300 ca) 300 (encB is2), own 28 2 (.slice ps 300 cs) 300 (encS sp2)]) (fun y => y.1 ≤ 300 ∧ y.2.1.length = is2.length ∧ y.2.2.length = sp2.length ∧ (∀ j, j < y.1 → y.2.1[j]? = is2[j]?) ∧ ∀ j, j < y.1 → y.2.2[j]? = sp2[j]?) (fun y => 300 - y.1) ((0, it0, st0)) ?_ ?_ ?_ ?_; (focus (exact ⟨Nat.zero_le _, by rw [hRo.l1, hR2.l1], by rw [hRo.l2, hR2.l2], fun j hj => absurd hj (Nat.not_lt_zero j), fun j hj => absurd hj (Nat.not_lt_zero j)⟩)); (focus (repeat (first | exact Sub.nil | refine Sub.cons rfl ?_))); (focus (exact (fun w h => h.takes))); rintro ⟨i, it, st⟩ ⟨hi, hq1, hq2, hq3, hq4⟩; (dsimp only at *; have hl1 := hR2.l1; have hl2 := hR2.l2)) <;> (refine X.seq ?_ <;> (refine X.seq ?_ <;> (refine X.text (L := (.op .fin 0 (.op .fin 1 .nil))) rfl ?_ <;>
    ((apply XL.det0F rfl rfl rfl rfl; exact D.move rfl)) <;>
    (first | refine XL.splitF rfl rfl rfl rfl (D.int rfl rfl rfl) (fun h0 => ?_) (fun h0 => ?_)) <;>
    (refine XL.nil ?_)) <;> (first | refine Ex.then ?_ | (refine N.next ?_ <;> ((
    refine X.cond rfl ?_ ?_; rotate_left; (focus (
    intro hc; first | exact absurd hc (by decide) | (cases hc; done) | (refine X.exit ?_))); rotate_right; (focus (
    intro hc; first | exact absurd hc (by decide) | (cases hc; done) | (refine X.skip ?_)))))))) <;> (first | refine Ex.then ?_ | (refine N.next ?_ <;> (refine X.seq ?_ <;> (refine X.block ?_ <;> (refine X.seq ?_ <;> (refine X.draw (.op .v0 0 (.op .v0 1 (.op .v0 2 (.op .v1 3 (.op .v0 4 (.op .v0 5 (.op .v0 6 (.op .v0 7 (.op .v1 8 (.op .v0 9 (.op .v0 10 (.op .v1 11 (.op .v0 12 (.op .fin 13 .nil)))))))))))))) mixed (by kernel_rfl) ?_ <;>
    ((apply XL.det0 rfl rfl rfl rfl; exact D.move rfl)) <;>
    ((apply XL.det0 rfl rfl rfl rfl; exact D.nilCheck rfl)) <;>
    ((apply XL.det0 rfl rfl rfl rfl; first | exact D.fieldAddrB0 rfl rfl | exact D.fieldAddrB rfl rfl | exact D.fieldAddrE0 rfl rfl | exact D.fieldAddrE rfl rfl)) <;>
    (have hi3 : i < 300 := (by omega); obtain ⟨bv, hbv⟩ := get_lt (l := is2) (k := i) (by omega); obtain ⟨sv, hsv⟩ := get_lt (l := sp2) (k := i) (by omega); refine XL.fact (fun w h => (h.rd (a := pa)).sm (by omega)) (fun hs1 => ?_); refine XL.fact (fun w h => (h.rd (a := ps)).sm (by omega)) (fun hs2 => ?_); refine XL.fact (fun w h => (h.rd (a := pb)).sm (by omega)) (fun hs3 => ?_); refine XL.fact (fun w h => (h.rd (a := pt)).sm (by omega)) (fun hs4 => ?_); (apply XL.det1 rfl rfl rfl rfl; exact D.load1 rfl (fun w h => h.cellAt (Loc.at_) rfl))) <;>
    ((apply XL.det0 rfl rfl rfl rfl; exact D.move rfl)) <;>
    ((apply XL.det0 rfl rfl rfl rfl; exact D.move rfl)) <;>
    ((apply XL.det0 rfl rfl rfl rfl; exact D.nilCheck rfl)) <;>
    ((apply XL.det0 rfl rfl rfl rfl; first | exact D.fieldAddrB0 rfl rfl | exact D.fieldAddrB rfl rfl | exact D.fieldAddrE0 rfl rfl | exact D.fieldAddrE rfl rfl)) <;>
    ((apply XL.det1 rfl rfl rfl rfl; first | exact D.load1 rfl (fun w h => h.cellAt (Loc.at_) rfl) | exact D.loadN rfl rfl (fun w h j u hu => by rw [at_add, Nat.zero_add]; exact h.cellAt (Loc.at_) hu) | exact D.loadP rfl rfl)) <;>
    ((apply XL.det0 rfl rfl rfl rfl; exact D.move rfl)) <;>
    ((apply XL.det0 rfl rfl rfl rfl; exact D.indexAddr i rfl rfl rfl hi3 hs1)) <;>
    ((apply XL.det1 rfl rfl rfl rfl; exact D.load1 rfl (fun w hw => Rd.bAt (hw.rd (a := pa)) hbv))) <;>
    ((apply XL.det0 rfl rfl rfl rfl; exact D.indexAddr i rfl rfl rfl hi3 hs3)) <;>
    ((refine XL.storeE (encB (it.set i bv)) rfl rfl rfl rfl rfl (by omega) (encB_set it i bv (by omega)) ?_)) <;>
    (refine XL.nil ?_)) <;> (first | refine Ex.then ?_ | (refine N.next ?_ <;> (refine X.draw (.op .v0 0 (.op .v0 1 (.op .v0 2 (.op .v1 3 (.op .v0 4 (.op .v0 5 (.op .v0 6 (.op .v0 7 (.op .v1 8 (.op .v0 9 (.op .v0 10 (.op .v1 11 (.op .v0 12 (.op .fin 13 .nil)))))))))))))) mixed (by kernel_rfl) ?_ <;>
    ((apply XL.det0 rfl rfl rfl rfl; exact D.move rfl)) <;>
    ((apply XL.det0 rfl rfl rfl rfl; exact D.nilCheck rfl)) <;>
    ((apply XL.det0 rfl rfl rfl rfl; first | exact D.fieldAddrB0 rfl rfl | exact D.fieldAddrB rfl rfl | exact D.fieldAddrE0 rfl rfl | exact D.fieldAddrE rfl rfl)) <;>
    ((apply XL.det1 rfl rfl rfl rfl; first | exact D.load1 rfl (fun w h => h.cellAt (Loc.at_) rfl) | exact D.loadN rfl rfl (fun w h j u hu => by rw [at_add, Nat.zero_add]; exact h.cellAt (Loc.at_) hu) | exact D.loadP rfl rfl)) <;>
    ((apply XL.det0 rfl rfl rfl rfl; exact D.move rfl)) <;>
    ((apply XL.det0 rfl rfl rfl rfl; exact D.move rfl)) <;>
    ((apply XL.det0 rfl rfl rfl rfl; exact D.nilCheck rfl)) <;>
    ((apply XL.det0 rfl rfl rfl rfl; first | exact D.fieldAddrB0 rfl rfl | exact D.fieldAddrB rfl rfl | exact D.fieldAddrE0 rfl rfl | exact D.fieldAddrE rfl rfl)) <;>
    ((apply XL.det1 rfl rfl rfl rfl; first | exact D.load1 rfl (fun w h => h.cellAt (Loc.at_) rfl) | exact D.loadN rfl rfl (fun w h j u hu => by rw [at_add, Nat.zero_add]; exact h.cellAt (Loc.at_) hu) | exact D.loadP rfl rfl)) <;>
    ((apply XL.det0 rfl rfl rfl rfl; exact D.move rfl)) <;>
    ((apply XL.det0 rfl rfl rfl rfl; exact D.indexAddr i rfl rfl rfl hi3 hs2)) <;>
    ((apply XL.det1 rfl rfl rfl rfl; exact D.loadN rfl rfl (fun w hw j u hu => Rd.sp (hw.rd (a := ps)) hsv j u hu))) <;>
    ((apply XL.det0 rfl rfl rfl rfl; exact D.indexAddr i rfl rfl rfl hi3 hs4)) <;>
    ((refine XL.storeE (encS (st.set i sv)) rfl rfl rfl rfl rfl (by omega) (encS_set st i sv (by omega)) ?_)) <;>
    (refine XL.nil ?_))))) <;> (first | refine N.block ?_ | refine Ex.here ?_ | refine Ex.out rfl ?_)) <;> (first | refine Ex.then ?_ | (refine N.next ?_ <;> (refine X.text (L := (.op .fin 0 (.op .fin 1 (.op .fin 2 .nil)))) rfl ?_ <;>
    ((apply XL.det0F rfl rfl rfl rfl; exact D.move rfl)) <;>
    ((apply XL.det0F rfl rfl rfl rfl; first | exact D.add64 rfl rfl (by omega) | exact D.int rfl rfl rfl)) <;>
    ((apply XL.det0F rfl rfl rfl rfl; exact D.assign rfl)) <;>
    (refine XL.nil ?_)))))))) <;> (first | refine Ex.then ?_ | ((refine N.again ((i + 1, it.set i bv, st.set i sv)) ?_ ?_ ?_ ?_; (focus (exact ⟨by dsimp only; omega, by simp [hq1], by simp [hq2], same_upto hq1 hq3 hbv, same_upto hq2 hq4 hsv⟩)); (focus (first | omega | (dsimp only; omega))); (focus (repeat (first | exact Sub.nil | refine Sub.cons rfl ?_))); exact (fun w h => h.takes))))) <;> (first | refine N.block ?_ | refine Ex.here ?_ | refine Ex.out rfl ?_))))) <;> (first | refine Ex.then ?_ | (refine N.next ?_ <;> (refine X.seq ?_ <;> (refine X.seq ?_ <;> (refine X.text (L := (.op .fin 0 .nil)) rfl ?_ <;>
    (have e1 : it = is2 := (List.ext_getElem? (fun j => by rcases Nat.lt_or_ge j i with h | h; exact hq3 j h; rw [List.getElem?_eq_none (by omega), List.getElem?_eq_none (by omega)])); have e2 : st = sp2 := (List.ext_getElem? (fun j => by rcases Nat.lt_or_ge j i with h | h; exact hq4 j h; rw [List.getElem?_eq_none (by omega), List.getElem?_eq_none (by omega)])); rw [e1, e2]; (apply XL.det0F rfl rfl rfl rfl; exact D.assign rfl)) <;>
    (refine XL.nil ?_)) <;> (first | refine Ex.then ?_ | (refine N.next ?_ <;> (refine X.block ?_ <;> ((refine X.loop (ι := Nat × Option Addr × Nat × List Ext × List Bool × List Sp × Sig) (fun y => [(1, .slice ak k.length ck), (5, .pointer (some ⟨gm, 0, none⟩)), (6, .pointer (some ⟨gr, 0, none⟩)), (8, .pointer (some ⟨gn, 0, none⟩)), (14, .pointer (some ⟨go, 0, none⟩)), (16, .int .i64 y.1)]) (fun y => [cells gn [.slice y.2.1 (List.length y.2.2.2.1) y.2.2.1] 76, own 30 4 (.slice y.2.1 (List.length y.2.2.2.1) y.2.2.1) (List.length y.2.2.2.1) (encE y.2.2.2.1), cells go [.slice pb 300 cb, .slice pt 300 ct] 67, own 4 1 (.slice pb 300 cb) 300 (encB y.2.2.2.2.1), own 28 2 (.slice pt 300 ct) 300 (encS y.2.2.2.2.2.1), cells gm [.slice a2 (List.length l2) c2] 76, own 30 4 (.slice a2 (List.length l2) c2) (List.length l2) (encE l2), cells gr [.slice pa 300 ca, .slice ps 300 cs] 67, own 4 1 (.slice pa 300 ca) 300 (encB is2), own 28 2 (.slice ps 300 cs) 300 (encS sp2)]) (fun y => y.1 ≤ k.length ∧ IsMap y.2.2.2.1 y.2.2.2.2.2.2 ∧ IsRef y.2.2.2.2.1 y.2.2.2.2.2.1 y.2.2.2.2.2.2) (fun y => k.length - y.1) ((0, an, cn, l2, is2, sp2, σ2)) ?_ ?_ ?_ ?_; (focus (exact ⟨Nat.zero_le _, hM2, hR2⟩)); (focus (repeat (first | exact Sub.nil | refine Sub.cons rfl ?_))); (focus (exact (fun w h => h.takes))); rintro ⟨i, a5, c5, l5, is5, sp5, σ5⟩ ⟨hi, hM5, hR5⟩; (dsimp only at *)) <;> (refine X.seq ?_ <;> (refine X.seq ?_ <;> (refine X.text (L := (.op .fin 0 (.op .fin 1 (.op .fin 2 (.op .fin 3 .nil))))) rfl ?_ <;>
    ((apply XL.det0F rfl rfl rfl rfl; exact D.move rfl)) <;>
    ((apply XL.det0F rfl rfl rfl rfl; exact D.move rfl)) <;>
    ((apply XL.det0F rfl rfl rfl rfl; first | exact D.len rfl | exact D.lenS rfl)) <;>
    (first | refine XL.splitF rfl rfl rfl rfl (D.int rfl rfl rfl) (fun h0 => ?_) (fun h0 => ?_)) <;>
    (refine XL.nil ?_)) <;> (first | refine Ex.then ?_ | (refine N.next ?_ <;> ((
    refine X.cond rfl ?_ ?_; rotate_left; (focus (
    intro hc; first | exact absurd hc (by decide) | (cases hc; done) | (refine X.exit ?_))); rotate_right; (focus (
    intro hc; first | exact absurd hc (by decide) | (cases hc; done) | (refine X.skip ?_)))))))) <;> (first | refine Ex.then ?_ | (refine N.next ?_ <;> (refine X.seq ?_ <;> (refine X.block ?_ <;> (refine X.seq ?_ <;> (refine X.text (L := (.op .fin 0 (.op .fin 1 (.op .fin 2 (.op .fin 3 (.op .fin 4 (.op .fin 5 (.op .fin 6 (.op .fin 7 .nil))))))))) rfl ?_ <;>
    ((apply XL.det0F rfl rfl rfl rfl; exact D.move rfl)) <;>
    ((apply XL.det0F rfl rfl rfl rfl; exact D.move rfl)) <;>
    ((apply XL.det0F rfl rfl rfl rfl; exact D.move rfl)) <;>
    ((apply XL.det0F rfl rfl rfl rfl; exact D.move rfl)) <;>
    (have hil : i < k.length := (by omega); obtain ⟨o, ho⟩ := get_lt hil; have hom := List.mem_of_getElem? ho; have hno := hfewk.2 o hom; (apply XL.det0F rfl rfl rfl rfl; exact D.indexAddr i rfl rfl rfl hil (hk.sm (by omega)))) <;>
    ((apply XL.detF rfl rfl rfl rfl; exact D.loadN rfl rfl (fun w hw j u hu => Rd.op (hk.conf0 hw) ho j u hu))) <;>
    ((refine XL.callF [cells gn [.slice a5 (List.length l5) c5] 76, own 30 4 (.slice a5 (List.length l5) c5) (List.length l5) (encE l5), cells go [.slice pb 300 cb, .slice pt 300 ct] 67, own 4 1 (.slice pb 300 cb) 300 (encB is5), own 28 2 (.slice pt 300 ct) 300 (encS sp5)] rfl rfl rfl rfl (fun w F hF hm hw => does_spec w F gn go a5 pb pt o.a c5 cb ct o.c l5 o.l is5 sp5 σ5 o.k o.q o.p hF (RdX.call0 (hgk o hom) hw hm) hM5 hR5 hno.1 hno.2) ?_; rintro v B' ⟨a6, c6, l6, is6, sp6, σ6, rfl, hM6, hR6, rfl⟩; refine XL.both ?_)) <;>
    ((apply XL.det0F rfl rfl rfl rfl; exact D.not rfl)) <;>
    (refine XL.nil ?_)) <;> (first | refine Ex.then ?_ | (refine N.next ?_ <;> ((
    refine X.cond rfl ?_ ?_; rotate_left; (focus (
    intro hc; first | exact absurd hc (by decide) | (cases hc; done) | (refine X.skip ?_))); rotate_right; (focus (
    intro hc; first | exact absurd hc (by decide) | (cases hc; done) | (refine X.seq ?_ <;> (refine X.text (L := (.op .fin 0 .nil)) rfl ?_ <;>
    ((apply XL.det0F rfl rfl rfl rfl; exact D.assign rfl)) <;>
    (refine XL.nil ?_)) <;> (first | refine Ex.then ?_ | (refine N.next ?_ <;> ((refine X.ret ?_; (repeat (first | refine Rt.then ?_ | refine Rt.block ?_ | refine Rt.scope ?_)); apply Rt.done (Res.r1 Try.results8 (RV.tmp rfl)); (focus (exact ⟨rfl, rfl⟩)); exact fun w h => h.takes)))))))))))) <;> (first | refine N.block ?_ | refine Ex.here ?_ | refine Ex.out rfl ?_)) <;> (first | refine Ex.then ?_ | (refine N.next ?_ <;> (refine X.text (L := (.op .fin 0 (.op .fin 1 (.op .fin 2 .nil)))) rfl ?_ <;>
    ((apply XL.det0F rfl rfl rfl rfl; exact D.move rfl)) <;>
    ((apply XL.det0F rfl rfl rfl rfl; first | exact D.add64 rfl rfl (by omega) | exact D.int rfl rfl rfl)) <;>
    ((apply XL.det0F rfl rfl rfl rfl; exact D.assign rfl)) <;>
    (refine XL.nil ?_)))))))) <;> (first | refine Ex.then ?_ | ((refine N.again ((i + 1, a6, c6, l6, is6, sp6, σ6)) ?_ ?_ ?_ ?_; (focus (exact ⟨by dsimp only; omega, hM6, hR6⟩)); (focus (first | omega | (dsimp only; omega))); (focus (repeat (first | exact Sub.nil | refine Sub.cons rfl ?_))); exact (fun w h => h.takes))))) <;> (first | refine N.block ?_ | refine Ex.here ?_ | refine Ex.out rfl ?_))))) <;> (first | refine Ex.then ?_ | (refine N.next ?_ <;> (refine X.seq ?_ <;> (refine X.text (L := (.op .fin 0 (.op .fin 1 (.op .fin 2 (.op .fin 3 (.op .fin 4 (.op .fin 5 (.op .fin 6 (.op .fin 7 (.op .fin 8 (.op .fin 9 (.op .fin 10 (.op .fin 11 .nil))))))))))))) rfl ?_ <;>
    ((apply XL.det0F rfl rfl rfl rfl; exact D.move rfl)) <;>
    ((apply XL.det0F rfl rfl rfl rfl; exact D.move rfl)) <;>
    ((refine XL.call rfl rfl rfl rfl (fun w hw => SameM_spec w gn go a5 pb pt c5 cb ct l5 is5 sp5 σ5 (hw.cellAt (Loc.at_) rfl) (hw.rd (a := a5)) (hw.cellAt (Loc.at_) rfl) (hw.cellAt (Loc.at_) rfl) (hw.rd (a := pb)) (hw.rd (a := pt)) hM5 hR5) ?_; rintro v B' ⟨rfl, rfl⟩; refine XL.both ?_)) <;>
    ((apply XL.det0F rfl rfl rfl rfl; exact D.move rfl)) <;>
    (first | refine XL.skipF rfl rfl rfl rfl ?_ | ((apply XL.det0F rfl rfl rfl rfl; exact D.move rfl))) <;>
    (first | refine XL.skipF rfl rfl rfl rfl ?_ | ((apply XL.det0F rfl rfl rfl rfl; exact D.move rfl))) <;>
    (first | refine XL.skipF rfl rfl rfl rfl ?_ | ((refine XL.call rfl rfl rfl rfl (fun w hw => SameM_spec w gm gr a2 pa ps c2 ca cs l2 is2 sp2 σ2 (hw.cellAt (Loc.at_) rfl) (hw.rd (a := a2)) (hw.cellAt (Loc.at_) rfl) (hw.cellAt (Loc.at_) rfl) (hw.rd (a := pa)) (hw.rd (a := ps)) hM2 hR2) ?_; rintro v B' ⟨rfl, rfl⟩; refine XL.both ?_))) <;>
    ((apply XL.det0F rfl rfl rfl rfl; first | exact D.pickT rfl rfl | exact D.pickF rfl rfl | exact D.pick rfl rfl rfl)) <;>
    ((apply XL.det0F rfl rfl rfl rfl; exact D.move rfl)) <;>
    (first | refine XL.skipF rfl rfl rfl rfl ?_ | ((refine XL.call rfl rfl rfl rfl (fun w hw => awakeM_spec w) ?_; rintro v B' ⟨rfl, rfl⟩; refine XL.both ?_))) <;>
    ((apply XL.det0F rfl rfl rfl rfl; first | exact D.pickT rfl rfl | exact D.pickF rfl rfl | exact D.pick rfl rfl rfl)) <;>
    ((apply XL.det0F rfl rfl rfl rfl; exact D.assign rfl)) <;>
    (refine XL.nil ?_)) <;> (first | refine Ex.then ?_ | (refine N.next ?_ <;> ((refine X.ret ?_; (repeat (first | refine Rt.then ?_ | refine Rt.block ?_ | refine Rt.scope ?_)); apply Rt.done (Res.r1 Try.results8 (RV.tmp rfl)); (focus (exact ⟨rfl, rfl⟩)); exact fun w h => h.takes)))))))))))))))))))))))))))))))))))))))))))))))
end Go.Lx
