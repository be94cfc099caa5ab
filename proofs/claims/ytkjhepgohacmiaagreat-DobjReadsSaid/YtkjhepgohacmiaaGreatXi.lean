/- Own layer, part i: calls that are handed blocks, and told what lies outside of them; what is read outside of the blocks that a call was handed. Plain theorems. -/
import Derived.Test.YtkjhepgohacmiaaGreatXh
namespace Go.Lx
set_option linter.unusedVariables false
set_option linter.unusedSimpArgs false

/-- What is known of the blocks that a call is handed. -/
structure Frm (C : Cx) (A : List Assn) (w : World) (F : Nat → Prop) : Prop where
  out : ∀ b, F b → C.H b ∨ C.w0.heap.size ≤ b
  apart : ∃ F2, Sep A w F2 ∧ ∀ b, F b → ¬ F2 b

/-- What may be read, and lies outside of some blocks. -/
structure RdX (w : World) (H : Nat → Prop) (sz : Nat) (a : Option Addr) (n c : Nat) (cs : List Value) : Prop where
  rd : Rd w sz a n c cs
  out : ∀ j v, cs[j]? = some v → ¬ H (el a j).block

variable {C : Cx} {A A' B B' : List Assn} {w w' : World} {Q : Exit → Act → World → Prop} {S : World → Prop} {env : Env} {ops : Array Oper} {r : Sd} {i d : Nat} {o : Oper} {v : Value} {cl : Cl}
variable {ty T : TypeId} {pos : String} {af : Array Edge} {gd : Option (Nat × Bool)} {x y : Operand}

theorem RdX.now {sz n c : Nat} {a : Option Addr} {cs : List Value} {P : Program} {m : Nat} {w0 : World} {H : Nat → Prop} (h : RdX w0 H sz a n c cs) (hw : Conf ⟨P, m, w0, H⟩ A w) : Rd w sz a n c cs :=
  Rd.conf (C := ⟨P, m, w0, H⟩) h.rd h.out hw
theorem Rd.toX {sz n c : Nat} {a : Option Addr} {cs : List Value} (h : Rd w sz a n c cs) : RdX w (fun _ => False) sz a n c cs := ⟨h, fun _ _ _ h => h⟩
theorem RdX.call {sz n c : Nat} {a : Option Addr} {cs : List Value} {P : Program} {m : Nat} {w0 : World} {H F : Nat → Prop} (h : RdX w0 H sz a n c cs) (hw : Conf ⟨P, m, w0, H⟩ A w) (hF : Frm ⟨P, m, w0, H⟩ A' w F) : RdX w F sz a n c cs :=
  ⟨h.now hw, fun j v hj hb => by
    have hlt := World.block_lt_of_cell? w0 _ (h.rd.cell j v hj)
    rcases hF.out _ hb with h1 | h1
    · exact h.out j v hj h1
    · simp only at h1
      omega⟩
theorem RdX.call0 {sz n c : Nat} {a : Option Addr} {cs : List Value} {P : Program} {m : Nat} {w0 : World} {F : Nat → Prop} (h : Rd w0 sz a n c cs) (hw : Conf ⟨P, m, w0, fun _ => False⟩ A w) (hF : Frm ⟨P, m, w0, fun _ => False⟩ A' w F) : RdX w F sz a n c cs :=
  h.toX.call hw hF
/-- A row of one's own that is not handed on. -/
theorem Frm.own {F : Nat → Prop} {a : Option Addr} {n c sz i : Nat} {xs : List Value} [h : OwnA A a n c T sz xs i] (hF : Frm C A w F) : RdX w F sz a n c xs := by
  obtain ⟨F2, hs, hd⟩ := hF.apart
  obtain ⟨F1, hp, hsub⟩ := hs.get h.at_
  refine ⟨(own_rd hp).1, fun j v hj hb => ?_⟩
  obtain ⟨⟨hl, ho⟩, hF1⟩ := hp
  rcases ho with ⟨he, hn⟩ | ⟨g, cap, cur, he, _⟩
  · subst hn
    have : xs = [] := List.length_eq_zero_iff.1 (by simpa using hl)
    subst this
    cases hj
  · cases he
    have : el (some ⟨g, 0, none⟩) j = ⟨g, j, none⟩ := by simp [el, at_add]
    rw [this] at hb
    exact hd g hb (hsub g ((hF1 g).2 rfl))
theorem Frm.cell {F : Nat → Prop} {g i k : Nat} {cs : List Value} {u : Value} [h : Loc A g cs T i] (hF : Frm C A w F) (hu : cs[k]? = some u) : w.cell? ⟨g, k, none⟩ = some u ∧ ¬ F g := by
  obtain ⟨F2, hs, hd⟩ := hF.apart
  obtain ⟨F1, ⟨h1, h2⟩, hsub⟩ := hs.get h.at_
  refine ⟨by simp [World.cell?, h1, hu], fun hb => hd g hb (hsub g ((h2 g).2 rfl))⟩
/-- A block of cells that is not handed on, read as a slice's row. -/
theorem Frm.lit {F : Nat → Prop} {g i n sz : Nat} {cs : List Value} [h : Loc A g cs T i] (hF : Frm C A w F) (hl : (cs.length == n * sz && decide (n ≤ 1000000)) = true) : RdX w F sz (some ⟨g, 0, none⟩) n n cs := by
  obtain ⟨hl1, hl2⟩ : cs.length = n * sz ∧ n ≤ 1000000 := by simpa using hl
  obtain ⟨F2, hs, hd⟩ := hF.apart
  obtain ⟨F1, ⟨h1, h2⟩, hsub⟩ := hs.get h.at_
  have e : ∀ j, el (some ⟨g, 0, none⟩) j = ⟨g, j, none⟩ := fun j => by simp [el, at_add]
  refine ⟨⟨hl1, Nat.le_refl _, by unfold maxLen; omega, fun _ => rfl, fun j v hj => ?_⟩, fun j v hj hb => ?_⟩
  · rw [e]
    simp [World.cell?, h1, hj]
  · rw [e] at hb
    exact hd g hb (hsub g ((h2 g).2 rfl))

theorem XL.callFG {f : FuncId} {args : Array Operand} {ats : Array TypeId} {fx : Operand} {fs cps vs : List Value} {R : Value → List Assn → Prop} {ds : Option Nat} (ho : ops[i]? = some ⟨ds, .call ⟨.value fx, args, ats⟩, ty, pos, af, gd⟩) (hg : gok ops env ⟨ds, .call ⟨.value fx, args, ats⟩, ty, pos, af, gd⟩ = some true)
    (hf : ev env fx = some (.func (.func f) fs.toArray cps.toArray)) (hargs : evs env args.toList = some vs) [hent : Enters C.P f]
    (hspec : ∀ w F, Sep B w F → Frm C A w F → Conf C (B ++ A) w → Spec C.P f (fs ++ vs ++ cps).toArray w F R)
    (k : ∀ v B', R v B' → (∀ d, ds = some d → Nat.blt d C.n.n = true) ∧ After cl S C (B' ++ A) ∧ XL C ops Q S r (match ds with | some d => (d, v) :: env | none => env) (B' ++ A)) : XL C ops Q S (.op cl i r) env (B ++ A) := by
  refine ⟨fun a w he hc => ?_⟩
  have hargs' : args.map a.eval = vs.toArray := by
    apply Array.ext'
    rw [Array.toList_map]
    exact he.evs _ _ hargs
  have hrun : (execOp a.eval ⟨ds, .call ⟨.value fx, args, ats⟩, ty, pos, af, gd⟩).run C.P w = .ok (.enter f (fs ++ vs ++ cps).toArray) w := by
    simp [execOp, resolve, he.ev hf, hargs', Deferred.ofValue, invoke, hent.run]
  obtain ⟨F, s, hF⟩ := hc.sep
  obtain ⟨F1, F2, s1, s2, hd, hFF⟩ := s.split
  have hsp := hspec w F1 s1 ⟨fun b hb => hF b ((hFF b).2 (.inl hb)), F2, s2, hd⟩ hc
  have hall : ∀ K : Value → World → Prop, (∀ v B' w', R v B' → Conf C (B' ++ A) w' → K v w') → Calls C.P f (fs ++ vs ++ cps).toArray w fun
      | .returned v, w'' => K v w''
      | .panicked chain, w'' => Q (.panic chain) a w''
      | .outgrown, _ => LetsOut Q := by
    intro K hK
    refine Calls.mono hsp ?_
    rintro e w' ⟨v, B', rfl, hR, hcf⟩
    refine hK v B' w' hR ?_
    obtain ⟨G, g, gF⟩ := hcf.sep
    have hd2 : ∀ b, F2 b → b < w.heap.size := fun b hb => Sep.dom s2 hb
    refine ⟨hcf.os.trans hc.os, hcf.tape.trans hc.tape, hcf.output.trans hc.output, Nat.le_trans hc.size hcf.size, Nat.le_trans hc.drawn hcf.drawn, fun b hb hH => ?_, fun b => G b ∨ F2 b, Sep.append g (s2.loc fun b hb => hcf.keep b (hd2 b hb) (fun h1 => hd b h1 hb)) ?_, ?_⟩
    · rw [hcf.keep b (Nat.lt_of_lt_of_le hb hc.size) (fun h1 => ?_), hc.keep b hb hH]
      rcases hF b ((hFF b).2 (.inl h1)) with h2 | h2
      · exact hH h2
      · omega
    · intro b hb hb2
      rcases gF b hb with h1 | h1
      · exact hd b h1 hb2
      · have := hd2 b hb2
        simp only at h1
        omega
    · rintro b (hb | hb)
      · rcases gF b hb with h1 | h1
        · exact hF b ((hFF b).2 (.inl h1))
        · exact .inr (Nat.le_trans hc.size h1)
      · exact hF b ((hFF b).2 (.inr hb))
  have fin : wpOp C.P ops Q i (fun a' w' => (cl = .fin ∨ S w') ∧ wpT C.P ops Q S r a' w') a w := by
    unfold wpOp
    simp only [ho, gok_wanted hg he, if_true, Oper.wp, hrun, Oper.upon]
    refine .inl (hall _ fun v B' w' hR hcw => ?_)
    obtain ⟨hdn, haf, hk⟩ := k v B' hR
    refine ⟨?_, ?_⟩
    · rcases haf.ok with h | ⟨_, h⟩
      · exact .inl h
      · exact .inr (h w' hcw)
    · cases ds with
      | none => exact hk.go _ w' he hcw
      | some d => exact hk.go _ w' (he.put (hdn d rfl) v) hcw
  have hcl : cl = .fin ∨ cl = .ch := by
    obtain ⟨e, w', fr, hR, _⟩ := hsp []
    obtain ⟨v, B', _, hR, _⟩ := hR
    rcases (k v B' hR).2.1.ok with h | ⟨h, _⟩
    · exact .inl h
    · exact .inr h
  rcases hcl with rfl | rfl
  · exact wpOp_mono (fun a' w' h => h.2) fin
  · exact wpOp_mono (fun a' w' h => ⟨h.1.resolve_left (by simp), h.2⟩) fin

/-- A call of a function by its name, that is given the blocks of B, and told what lies outside of these. -/
theorem XL.callF {f : FuncId} {args : Array Operand} {ats : Array TypeId} {vs : List Value} {R : Value → List Assn → Prop} (B : List Assn) (ho : ops[i]? = some ⟨some d, .call ⟨.value (.func f), args, ats⟩, ty, pos, af, gd⟩) (hg : gok ops env ⟨some d, .call ⟨.value (.func f), args, ats⟩, ty, pos, af, gd⟩ = some true) (hdn : Nat.blt d C.n.n = true)
    (hargs : evs env args.toList = some vs) [hent : Enters C.P f] [ht : Takes A B A']
    (hspec : ∀ w F, Sep B w F → Frm C A' w F → Conf C (B ++ A') w → Spec C.P f vs.toArray w F R)
    (k : ∀ v B', R v B' → After cl S C (B' ++ A') ∧ XL C ops Q S r ((d, v) :: env) (B' ++ A')) : XL C ops Q S (.op cl i r) env A := by
  refine XL.mem (B := B ++ A') (fun w h => h.takes2) ?_
  refine XL.callFG (B := B) (fs := []) (cps := []) (f := f) (ds := some d) ho hg rfl hargs ?_ (fun v B' hR => ⟨fun d' h => (by cases h; exact hdn), k v B' hR⟩)
  intro w F hF hm hc
  simpa using hspec w F hF hm hc
end Go.Lx
