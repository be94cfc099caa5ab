/- Package extmap's walks, part k: holes. -/
import Derived.Test.YtnljlpmeeeajmaaEj
import Derived.Test.YtnljlpmeeeajmaaSe
namespace Go.Lx
open Go.Proofs
set_option linter.unusedVariables false
set_option linter.unusedSimpArgs false
set_option maxRecDepth 20000
set_option maxHeartbeats 2000000

def spnE (x : Ext) : Sp := (x.a, x.n)
theorem inS_spn {l : List Ext} {t : Int} : inS (l.map spnE) t ↔ ∃ p, atE l t p := by
  constructor
  · rintro ⟨s, hs, h1, h2⟩
    obtain ⟨x, hx, rfl⟩ := List.mem_map.1 hs
    exact ⟨_, x, hx, h1, h2, rfl⟩
  · rintro ⟨p, x, hx, h1, h2, _⟩
    exact ⟨spnE x, List.mem_map.2 ⟨x, hx, rfl⟩, h1, h2⟩
theorem inE.may {x : Ext} (h : inE x) : mayS (spnE x) := by unfold inE at h; unfold mayS spnE; dsimp only; omega
/-- What is nowhere. -/
structure IsHole (σ : Sig) (s : Sp) (O : List Sp) : Prop where
  set : SetOK O O.length
  at_ : ∀ t, inS O t ↔ s.1 ≤ t ∧ t < s.1 + s.2 ∧ σ t = none
theorem hole_of {σ : Sig} {s : Sp} {I : List Ext} {o : List Sp} (hF : IsFind σ s I) (h1 : SetOK o o.length) (h2 : ∀ t, inS o t ↔ inS [s] t ∧ ¬ inS (I.map spnE) t) : IsHole σ s o := ⟨h1, fun t => by
  rw [h2, inS_one, inS_spn, and_assoc]
  refine and_congr_right (fun q1 => and_congr_right (fun q2 => ?_))
  rw [not_exists]
  constructor
  · intro hn
    cases hσ : σ t with
    | none => rfl
    | some p => exact absurd ((hF.at_ t p).2 ⟨hσ, q1, q2⟩) (hn p)
  · intro hn p hp
    have := ((hF.at_ t p).1 hp).1
    rw [hn] at this
    cases this⟩
theorem CutV_spec (w : World) (a b : Option Addr) (c n d : Nat) (l off : List Sp) (hn : off.length = n) (hl : Rd w 2 a l.length c (encS l)) (ho : Rd w 2 b n d (encS off)) (hbd : l.length + n ≤ 1000000) :
    Spec Try.prog 51 #[.slice a l.length c, .slice b n d] w (fun _ => False) (fun v A => ∃ a' c' o e, v = .tuple #[.slice a' (List.length o) c', .int .i64 e] ∧ ((e = 0 ∧ (SetOK l l.length ∧ ∀ x ∈ off, mayS x) ∧ SetOK o o.length ∧ (∀ t, inS o t ↔ inS l t ∧ ¬ inS off t) ∧ o.length ≤ l.length + off.length) ∨ (e = 1 ∧ ¬ (SetOK l l.length ∧ ∀ x ∈ off, mayS x) ∧ o = [])) ∧ A = [own 26 2 (.slice a' (List.length o) c') (List.length o) (encS o)]) := by
  subst hn
  exact Cut_spec w a b c d l off hl ho hbd
theorem Holes_spec (w : World) (gm : Nat) (a : Option Addr) (c : Nat) (l : List Ext) (σ : Sig) (s : Sp) (hm : w.cell? ⟨gm, 0, none⟩ = some (.slice a l.length c)) (hl : Rd w 4 a l.length c (encE l)) (hM : IsMap l σ) :
    Spec Try.prog 29 #[.pointer (some ⟨gm, 0, none⟩), .agg #[.int .i64 s.1, .int .i64 s.2]] w (fun _ => False) (fun v A => ∃ ph ch O e, v = .tuple #[.slice ph (List.length O) ch, .int .i64 e] ∧ ((e = 0 ∧ mayS s ∧ IsHole σ s O ∧ O.length ≤ 65538) ∨ (e = 1 ∧ ¬ mayS s ∧ O = [])) ∧ A = [own 26 2 (.slice ph (List.length O) ch) (List.length O) (encS O)]) := by
  have hlen := rise_len l 0 hM.rise (by omega)
  refine Spec.enter (args := [.pointer (some ⟨gm, 0, none⟩), .agg #[.int .i64 s.1, .int .i64 s.2]]) (A := []) Try.func29 rfl Try.ntmps29 rfl (fun _ h => h) ?_
  refine X.mem (B := [own 26 2 (.slice none (List.length (([] : List Sp))) 0) (List.length (([] : List Sp))) (encS (([] : List Sp)))]) (fun w h => h.nilOwn 26 2) ?_
  (refine X.seq ?_ <;> (refine X.text (L := (.op .fin 0 (.op .fin 1 (.op .fin 2 .nil)))) rfl ?_ <;>
    (first | refine XL.boxN rfl rfl rfl rfl (by intro g; infer_instance) (fun g => ?_) | refine XL.box1 rfl rfl rfl rfl rfl (by intro g; infer_instance) (fun g => ?_)) <;>
    ((apply XL.det0F rfl rfl rfl rfl; exact D.assign rfl)) <;>
    ((apply XL.det0F rfl rfl rfl rfl; exact D.assign rfl)) <;>
    (refine XL.nil ?_)) <;> (first | refine Ex.then ?_ | (refine N.next ?_ <;> (refine X.seq ?_ <;> (refine X.text (L := (.op .fin 0 (.op .fin 1 (.op .fin 2 (.op .fin 3 (.op .fin 4 (.op .fin 5 (.op .fin 6 (.op .fin 7 .nil))))))))) rfl ?_ <;>
    ((apply XL.det0F rfl rfl rfl rfl; exact D.move rfl)) <;>
    ((apply XL.detF rfl rfl rfl rfl; first | exact D.load1 rfl (fun w h => h.cellAt (Loc.at_) rfl) | exact D.loadN rfl rfl (fun w h j u hu => by rw [at_add, Nat.zero_add]; exact h.cellAt (Loc.at_) hu) | exact D.loadP rfl rfl)) <;>
    ((refine XL.call rfl rfl rfl rfl (fun w hw => Find_spec w gm a c l s (hw.cell0 hm (fun h => h)) (hl.conf0 hw) hM.rise) ?_; rintro v B' ⟨pi, ci, I, e, rfl, he, rfl⟩; refine XL.both ?_)) <;>
    ((apply XL.det0F rfl rfl rfl rfl; exact D.move rfl)) <;>
    ((apply XL.det0F rfl rfl rfl rfl; exact D.extract rfl rfl)) <;>
    ((apply XL.det0F rfl rfl rfl rfl; exact D.extract rfl rfl)) <;>
    ((apply XL.det0F rfl rfl rfl rfl; exact D.assign rfl)) <;>
    ((apply XL.det0F rfl rfl rfl rfl; exact D.assign rfl)) <;>
    (refine XL.nil ?_)) <;> (first | refine Ex.then ?_ | (refine N.next ?_ <;> (refine X.seq ?_ <;> (refine X.seq ?_ <;> (refine X.text (L := (.op .fin 0 (.op .fin 1 .nil))) rfl ?_ <;>
    ((apply XL.det0F rfl rfl rfl rfl; exact D.move rfl)) <;>
    (rcases he with ⟨rfl, hs, ⟨AA, KK, hA⟩, hIl⟩ | ⟨rfl, hs, rfl⟩ <;> first | refine XL.cmpTF rfl rfl rfl rfl (D.int rfl rfl rfl) (by omega) ?_ | refine XL.cmpFF rfl rfl rfl rfl (D.int rfl rfl rfl) (by omega) ?_) <;>
    (refine XL.nil ?_)) <;> (first | refine Ex.then ?_ | (refine N.next ?_ <;> ((
    refine X.cond rfl ?_ ?_; rotate_left; (focus (
    intro hc; first | exact absurd hc (by decide) | (cases hc; done) | (refine X.skip ?_))); rotate_right; (focus (
    intro hc; first | exact absurd hc (by decide) | (cases hc; done) | (refine X.seq ?_ <;> (refine X.text (L := (.op .fin 0 (.op .fin 1 (.op .fin 2 .nil)))) rfl ?_ <;>
    ((apply XL.det0F rfl rfl rfl rfl; exact D.move rfl)) <;>
    ((apply XL.det0F rfl rfl rfl rfl; exact D.assign rfl)) <;>
    ((apply XL.det0F rfl rfl rfl rfl; exact D.assign rfl)) <;>
    (refine XL.nil ?_)) <;> (first | refine Ex.then ?_ | (refine N.next ?_ <;> ((refine X.ret ?_; (repeat (first | refine Rt.then ?_ | refine Rt.block ?_ | refine Rt.scope ?_)); apply Rt.done (Res.r2 Try.results29 (RV.tmp rfl) (RV.tmp rfl)); (focus (first | (exact ⟨a9, c9, o, 0, rfl, .inl ⟨rfl, hs, hole_of hF ho1 ho2, by simp at ho3; omega⟩, rfl⟩) | (exact ⟨none, 0, [], 1, rfl, .inr ⟨rfl, hs, rfl⟩, rfl⟩))); exact fun w h => h.takes)))))))))))) <;> (first | refine Ex.then ?_ | (refine N.next ?_ <;> (refine X.seq ?_ <;> (refine X.text (L := (.op .fin 0 .nil)) rfl ?_ <;>
    ((apply XL.det0F rfl rfl rfl rfl; exact D.assign rfl)) <;>
    (refine XL.nil ?_)) <;> (first | refine Ex.then ?_ | (refine N.next ?_ <;> (refine X.seq ?_ <;> (refine X.seq ?_ <;> (refine X.text (L := (.op .fin 0 (.op .fin 1 (.op .fin 2 .nil)))) rfl ?_ <;>
    ((apply XL.det0F rfl rfl rfl rfl; exact D.move rfl)) <;>
    ((apply XL.det0F rfl rfl rfl rfl; first | exact D.len rfl | exact D.lenS rfl)) <;>
    (refine XL.mem (B := [own 26 2 (.slice none 0 0) 0 (encS ((I.take 0).map spnE)), own 30 4 (.slice pi (List.length I) ci) (List.length I) (encE I), cells g [.int .i64 s.1, .int .i64 s.2] 26]) (fun w h => (h.takes (B := [own 30 4 (.slice pi (List.length I) ci) (List.length I) (encE I), cells g [.int .i64 s.1, .int .i64 s.2] 26])).nilOwn 26 2) ?_; (apply XL.det0F rfl rfl rfl rfl; exact D.move rfl)) <;>
    (refine XL.nil ?_)) <;> (first | refine Ex.then ?_ | (refine N.next ?_ <;> (refine X.block ?_ <;> ((refine X.loop (ι := Nat × Option Addr × Nat) (fun y => [(3, .pointer (some ⟨g, 0, none⟩)), (8, .slice y.2.1 y.1 y.2.2), (20, .slice pi I.length ci), (21, .int .i64 I.length), (22, .int .i64 y.1)]) (fun y => [own 26 2 (.slice y.2.1 y.1 y.2.2) y.1 (encS ((I.take y.1).map spnE)), own 30 4 (.slice pi (List.length I) ci) (List.length I) (encE I), cells g [.int .i64 s.1, .int .i64 s.2] 26]) (fun y => y.1 ≤ I.length) (fun y => I.length - y.1) ((0, none, 0)) ?_ ?_ ?_ ?_; (focus (exact Nat.zero_le _)); (focus (repeat (first | exact Sub.nil | refine Sub.cons rfl ?_))); (focus (exact (fun w h => h.takes))); rintro ⟨i, a', c'⟩ hi; (dsimp only at *)) <;> (refine X.seq ?_ <;> (refine X.text (L := (.op .fin 0 .nil)) rfl ?_ <;>
    (first | refine XL.splitF rfl rfl rfl rfl (D.int rfl rfl rfl) (fun h0 => ?_) (fun h0 => ?_)) <;>
    (refine XL.nil ?_)) <;> (first | refine Ex.then ?_ | (refine N.next ?_ <;> (refine X.seq ?_ <;> ((
    refine X.cond rfl ?_ ?_; rotate_left; (focus (
    intro hc; first | exact absurd hc (by decide) | (cases hc; done) | (refine X.exit ?_))); rotate_right; (focus (
    intro hc; first | exact absurd hc (by decide) | (cases hc; done) | (refine X.skip ?_))))) <;> (first | refine Ex.then ?_ | (refine N.next ?_ <;> (refine X.seq ?_ <;> (refine X.block ?_ <;> (refine X.seq ?_ <;> (refine X.text (L := (.op .fin 0 (.op .fin 1 (.op .fin 2 (.op .fin 3 .nil))))) rfl ?_ <;>
    (have hil : i < I.length := (by omega); obtain ⟨x, hx⟩ := get_lt hil; refine XL.fact (fun w h => (h.rd (a := pi)).sm (by omega)) (fun hsome => ?_); (apply XL.detF rfl rfl rfl rfl; exact D.indexAddr i rfl rfl rfl hil hsome)) <;>
    ((apply XL.detF rfl rfl rfl rfl; exact D.loadN rfl rfl (fun w hw j u hu => Rd.ext (hw.rd (a := pi)) hx j u hu))) <;>
    (refine XL.alloc rfl rfl rfl (by intro g; infer_instance) (fun g => ?_)) <;>
    (first | refine XL.store1 rfl rfl rfl rfl rfl ?_ | refine XL.storeN rfl rfl rfl rfl rfl rfl ?_) <;>
    (refine XL.nil ?_)) <;> (first | refine Ex.then ?_ | (refine N.next ?_ <;> (refine X.text (L := (.op .fin 0 (.op .fin 1 (.op .fin 2 (.op .fin 3 (.op .fin 4 (.op .fin 5 .nil))))))) rfl ?_ <;>
    ((apply XL.det0F rfl rfl rfl rfl; exact D.move rfl)) <;>
    ((apply XL.det0F rfl rfl rfl rfl; first | exact D.fieldAddrB0 rfl rfl | exact D.fieldAddrB rfl rfl | exact D.fieldAddrE0 rfl rfl | exact D.fieldAddrE rfl rfl)) <;>
    ((apply XL.detF rfl rfl rfl rfl; first | exact D.load1 rfl (fun w h => h.cellAt (Loc.at_) rfl) | exact D.loadN rfl rfl (fun w h j u hu => by rw [at_add, Nat.zero_add]; exact h.cellAt (Loc.at_) hu) | exact D.loadP rfl rfl)) <;>
    (refine XL.slice1 rfl rfl rfl rfl rfl rfl (by intro g; infer_instance) (fun g => ?_)) <;>
    ((refine XL.append rfl rfl rfl rfl rfl rfl ?_ ?_ (fun a' c' => ?_); (focus (skip; unfold maxLen; omega)); (focus (intro _ _; infer_instance))); rw [show encS ((I.take i).map spnE) ++ [Value.int IntKind.i64 x.a, Value.int IntKind.i64 x.n] = encS ((I.take (i + 1)).map spnE) from (by rw [take_succ_snoc hx]; simp [encS, encS1, spnE])]) <;>
    ((apply XL.det0F rfl rfl rfl rfl; exact D.assign rfl)) <;>
    (refine XL.nil ?_))))) <;> (first | refine N.block ?_ | refine Ex.here ?_ | refine Ex.out rfl ?_)) <;> (first | refine Ex.then ?_ | (refine N.next ?_ <;> (refine X.text (L := (.op .fin 0 (.op .fin 1 .nil))) rfl ?_ <;>
    ((apply XL.det0F rfl rfl rfl rfl; first | exact D.add64 rfl rfl (by omega) | exact D.int rfl rfl rfl)) <;>
    ((apply XL.det0F rfl rfl rfl rfl; exact D.move rfl)) <;>
    (refine XL.nil ?_))))))))))) <;> (first | refine Ex.then ?_ | ((refine N.again ((i + 1, a', c')) ?_ ?_ ?_ ?_; (focus ((dsimp only; omega))); (focus (first | omega | (dsimp only; omega))); (focus (repeat (first | exact Sub.nil | refine Sub.cons rfl ?_))); exact (fun w h => h.takes))))) <;> (first | refine N.block ?_ | refine Ex.here ?_ | refine Ex.out rfl ?_))))) <;> (first | refine Ex.then ?_ | (refine N.next ?_ <;> (refine X.seq ?_ <;> (refine X.text (L := (.op .fin 0 (.op .fin 1 (.op .fin 2 (.op .fin 3 (.op .fin 4 (.op .fin 5 (.op .fin 6 (.op .fin 7 .nil))))))))) rfl ?_ <;>
    ((apply XL.detF rfl rfl rfl rfl; first | exact D.load1 rfl (fun w h => h.cellAt (Loc.at_) rfl) | exact D.loadN rfl rfl (fun w h j u hu => by rw [at_add, Nat.zero_add]; exact h.cellAt (Loc.at_) hu) | exact D.loadP rfl rfl)) <;>
    (refine XL.slice1 rfl rfl rfl rfl rfl rfl (by intro g; infer_instance) (fun g => ?_)) <;>
    ((apply XL.det0F rfl rfl rfl rfl; exact D.move rfl)) <;>
    (have hje : I.take i = I := (List.take_of_length_le (by omega)); rw [hje]; have hF := hM.find hA; have hmy : ∀ x ∈ I.map spnE, mayS x := (fun x hx => by obtain ⟨y, hy, rfl⟩ := List.mem_map.1 hx; exact (hA.riseI.mem hy).1.may); refine XL.mem (fun w h => h.cellsOwn (n := ([s] : List Sp).length) (sz := 2) rfl) ?_; have hn9 : (I.map spnE).length = i := (by simp; omega); have hb9 : [s].length + i ≤ 1000000 := (by simp; omega); (refine XL.call rfl rfl rfl rfl (fun w hw => CutV_spec w _ a' 1 i c' [s] (I.map spnE) hn9 (hw.rd (a := some ⟨_, 0, none⟩)) (hw.rd (a := a')) hb9) ?_; rintro v B' ⟨a9, c9, o, e9, rfl, h9, rfl⟩; refine XL.both ?_); obtain ⟨rfl, _, ho1, ho2, ho3⟩ := h9.resolve_right (fun h => h.2.1 ⟨SetOK.one hs, hmy⟩)) <;>
    ((apply XL.det0F rfl rfl rfl rfl; exact D.extract rfl rfl)) <;>
    ((apply XL.det0F rfl rfl rfl rfl; exact D.extract rfl rfl)) <;>
    ((apply XL.det0F rfl rfl rfl rfl; exact D.assign rfl)) <;>
    ((apply XL.det0F rfl rfl rfl rfl; exact D.assign rfl)) <;>
    (refine XL.nil ?_)) <;> (first | refine Ex.then ?_ | (refine N.next ?_ <;> ((refine X.ret ?_; (repeat (first | refine Rt.then ?_ | refine Rt.block ?_ | refine Rt.scope ?_)); apply Rt.done (Res.r2 Try.results29 (RV.tmp rfl) (RV.tmp rfl)); (focus (first | (exact ⟨a9, c9, o, 0, rfl, .inl ⟨rfl, hs, hole_of hF ho1 ho2, by simp at ho3; omega⟩, rfl⟩) | (exact ⟨none, 0, [], 1, rfl, .inr ⟨rfl, hs, rfl⟩, rfl⟩))); exact fun w h => h.takes))))))))))))))))))))
end Go.Lx
