/- Texts Xq Ka Kb, merged: a claim has at most 60 files. -/
import Derived.Test.YtgmfmcammaighaaGreatM4
import Derived.MapKept
import Derived.Test.YtgmfmcammaighaaGreatM25
import Derived.Test.YtgmfmcammaighaaGreatM24
/- Own layer, part q: maps whose keys are whole numbers: a block that holds one, and what is read of it and written into it. Plain theorems. -/
namespace Go.Lx
set_option linter.unusedVariables false
set_option linter.unusedSimpArgs false

section
variable {β : Type}
def getM : List (Int × β) → Int → Option β
  | [], _ => none
  | (a, b) :: l, k => if a = k then some b else getM l k
def setM : List (Int × β) → Int → β → List (Int × β)
  | [], k, v => [(k, v)]
  | (a, b) :: l, k, v => if a = k then (k, v) :: l else (a, b) :: setM l k v
def delM : List (Int × β) → Int → List (Int × β)
  | [], _ => []
  | (a, b) :: l, k => if a = k then l else (a, b) :: delM l k
def keyM (l : List (Int × β)) : List Int := l.map (·.1)
theorem getM_set (k : Int) (v : β) : ∀ (l : List (Int × β)) (j : Int), getM (setM l k v) j = if j = k then some v else getM l j
  | [], j => by
    simp only [setM, getM]
    by_cases h : j = k
    · rw [if_pos h, if_pos h.symm]
    · rw [if_neg h, if_neg (Ne.symm h)]
  | (a, b) :: l, j => by
    simp only [setM]
    by_cases ha : a = k
    · rw [if_pos ha]
      simp only [getM]
      by_cases h : j = k
      · rw [if_pos h, if_pos h.symm]
      · rw [if_neg h, if_neg (Ne.symm h), if_neg (fun e => h (e.symm.trans ha))]
    · rw [if_neg ha]
      simp only [getM, getM_set k v l j]
      by_cases hj : a = j
      · rw [if_pos hj, if_pos hj, if_neg (fun e => ha (hj.trans e))]
      · rw [if_neg hj, if_neg hj]
theorem key_set (k : Int) (v : β) : ∀ (l : List (Int × β)) (j : Int), j ∈ keyM (setM l k v) ↔ j = k ∨ j ∈ keyM l
  | [], j => by simp [setM, keyM]
  | (a, b) :: l, j => by
    have ih := key_set k v l j
    simp only [setM]
    by_cases ha : a = k
    · rw [if_pos ha]; subst ha; simp [keyM]
    · rw [if_neg ha]
      simp only [keyM, List.map_cons, List.mem_cons] at ih ⊢
      rw [ih]
      constructor
      · rintro (h | h | h) <;> simp [h]
      · rintro (h | h | h) <;> simp [h]
theorem nodup_set (k : Int) (v : β) : ∀ (l : List (Int × β)), (keyM l).Nodup → (keyM (setM l k v)).Nodup
  | [], _ => by simp [setM, keyM]
  | (a, b) :: l, h => by
    simp only [keyM, List.map_cons, List.nodup_cons] at h
    simp only [setM]
    by_cases ha : a = k
    · rw [if_pos ha]; subst ha; simpa [keyM] using h
    · rw [if_neg ha]
      simp only [keyM, List.map_cons, List.nodup_cons]
      refine ⟨fun hm => ?_, nodup_set k v l h.2⟩
      rcases (key_set k v l a).1 hm with h1 | h1
      · exact ha h1
      · exact h.1 h1
theorem getM_none : ∀ (l : List (Int × β)) (k : Int), getM l k = none ↔ k ∉ keyM l
  | [], k => by simp [getM, keyM]
  | (a, b) :: l, k => by
    have ih := getM_none l k
    simp only [getM, keyM, List.map_cons, List.mem_cons, not_or] at ih ⊢
    by_cases h : a = k
    · simp [h]
    · rw [if_neg h, ih]; exact ⟨fun g => ⟨Ne.symm h, g⟩, fun g => g.2⟩
theorem key_del (k : Int) : ∀ (l : List (Int × β)), (keyM l).Nodup → (∀ j, j ∈ keyM (delM l k) ↔ j ≠ k ∧ j ∈ keyM l) ∧ (keyM (delM l k)).Nodup
  | [], _ => by simp [delM, keyM]
  | (a, b) :: l, h => by
    simp only [keyM, List.map_cons, List.nodup_cons] at h
    obtain ⟨ih1, ih2⟩ := key_del k l h.2
    simp only [delM]
    by_cases ha : a = k
    · rw [if_pos ha]
      subst ha
      refine ⟨fun j => ?_, h.2⟩
      simp only [keyM, List.map_cons, List.mem_cons]
      constructor
      · intro hj; exact ⟨fun e => h.1 (e ▸ hj), .inr hj⟩
      · rintro ⟨h1, h2 | h2⟩
        · exact absurd h2 h1
        · exact h2
    · rw [if_neg ha]
      refine ⟨fun j => ?_, ?_⟩
      · have := ih1 j
        simp only [keyM, List.map_cons, List.mem_cons] at this ⊢
        rw [this]
        constructor
        · rintro (h | h)
          · exact ⟨fun e => ha (h ▸ e), .inl h⟩
          · exact ⟨h.1, .inr h.2⟩
        · rintro ⟨h1, h2 | h2⟩
          · exact .inl h2
          · exact .inr ⟨h1, h2⟩
      · simp only [keyM, List.map_cons, List.nodup_cons]
        exact ⟨fun hm => h.1 ((ih1 a).1 hm).2, ih2⟩
theorem getM_del (k : Int) : ∀ (l : List (Int × β)), (keyM l).Nodup → ∀ j, getM (delM l k) j = if j = k then none else getM l j
  | [], _, j => by simp [delM, getM]
  | (a, b) :: l, h, j => by
    simp only [keyM, List.map_cons, List.nodup_cons] at h
    have ih := getM_del k l h.2 j
    simp only [delM]
    by_cases ha : a = k
    · rw [if_pos ha]
      subst ha
      by_cases hj : j = a
      · rw [if_pos hj, hj]; exact (getM_none l a).2 h.1
      · rw [if_neg hj]; simp only [getM]; rw [if_neg (Ne.symm hj)]
    · rw [if_neg ha]
      simp only [getM, ih]
      by_cases hj : a = j
      · rw [if_pos hj, if_pos hj, if_neg (fun e => ha (hj.trans e))]
      · rw [if_neg hj, if_neg hj]
def getI (l : List (Int × Int)) (k : Int) : Int := (getM l k).getD 0

/-- A block that holds a map. -/
def kvE (e : MapEntry) : Value × Value := (e.key, e.val)
def kvM (f : β → Value) (p : Int × β) : Value × Value := (.int .i64 p.1, f p.2)
def mapA (f : β → Value) (g : Nat) (l : List (Int × β)) : Assn where
  holds w F := (∃ es clock, w.heap[g]? = some (.map es clock) ∧ es.toList.map kvE = l.map (kvM f)) ∧ ∀ b, F b ↔ b = g
  loc := fun ⟨⟨es, c, h, h2⟩, hF⟩ hk => ⟨⟨es, c, (hk g ((hF g).2 rfl)).trans h, h2⟩, hF⟩
  dom := fun ⟨⟨es, c, h, _⟩, hF⟩ hb => by rw [(hF _).1 hb]; exact (Array.getElem?_eq_some_iff.1 h).1
class MapAt (A : List Assn) (g : Nat) (β : outParam Type) (f : outParam (β → Value)) (l : outParam (List (Int × β))) (i : outParam Nat) : Prop where at_ : A[i]? = some (mapA f g l)
instance {f : β → Value} {g : Nat} {l : List (Int × β)} {A : List Assn} : MapAt (mapA f g l :: A) g β f l 0 := ⟨rfl⟩
instance (priority := low) {f : β → Value} {g i : Nat} {l : List (Int × β)} {A : List Assn} {q : Assn} [h : MapAt A g β f l i] : MapAt (q :: A) g β f l (i + 1) := ⟨by simpa using h.at_⟩
class MpT (P : Program) (t : TypeId) (k e : outParam TypeId) : Prop where und : P.underlying t = some (.map k e)

theorem find_map (f : β → Value) (k : Int) : ∀ (es : List MapEntry) (l : List (Int × β)) (n : Nat), es.map kvE = l.map (kvM f) →
    (Instr.findNow (.int .i64) (.int .i64 k) es n = some none ∧ getM l k = none ∧ (∀ v, l.map (kvM f) ++ [(.int .i64 k, f v)] = (setM l k v).map (kvM f)) ∧ delM l k = l) ∨
    ∃ j b, Instr.findNow (.int .i64) (.int .i64 k) es n = some (some (n + j, f b)) ∧ getM l k = some b ∧ j < es.length ∧ (∃ e, es[j]? = some e ∧ e.key = .int .i64 k) ∧ (∀ v (h : MapEntry → MapEntry), (∀ e, kvE (h e) = (.int .i64 k, f v)) → (es.modify j h).map kvE = (setM l k v).map (kvM f)) ∧ (es.eraseIdx j).map kvE = (delM l k).map (kvM f)
  | [], [], n, _ => .inl ⟨rfl, rfl, fun v => rfl, rfl⟩
  | [], _ :: _, _, h => by simp at h
  | _ :: _, [], _, h => by simp at h
  | e :: es, (a, b) :: l, n, h => by
    simp only [List.map_cons, List.cons.injEq] at h
    obtain ⟨h1, h2⟩ := h
    have hk : e.key = .int .i64 a := congrArg Prod.fst h1
    have hv : e.val = f b := congrArg Prod.snd h1
    by_cases hak : a = k
    · subst hak
      refine .inr ⟨0, b, ?_, by simp [getM], by simp, ⟨e, rfl, hk⟩, fun v g hg => ?_, ?_⟩
      · simp [Instr.findNow, Instr.sameNow, hk, hv]
      · simp [setM, hg, h2, kvM]
      · simp [delM, h2]
    · have hka : ¬ k = a := Ne.symm hak
      have hf : ∀ r, Instr.findNow (.int .i64) (.int .i64 k) es (n + 1) = r → Instr.findNow (.int .i64) (.int .i64 k) (e :: es) n = r := fun r hr => by
        have : (k == a) = false := by simpa using hka
        simp [Instr.findNow, Instr.sameNow, hk, this, hr]
      rcases find_map f k es l (n + 1) h2 with ⟨g1, g2, g3, g4⟩ | ⟨j, b', g1, g2, g3, ⟨e', g4, g5⟩, g6, g7⟩
      · refine .inl ⟨hf _ g1, by simp only [getM]; rw [if_neg hak]; exact g2, fun v => ?_, by simp only [delM]; rw [if_neg hak, g4]⟩
        simp only [setM]
        rw [if_neg hak, List.map_cons, List.map_cons, List.cons_append, g3]
      · refine .inr ⟨j + 1, b', (hf _ g1).trans (by rw [Nat.add_right_comm, Nat.add_assoc]), by simp only [getM]; rw [if_neg hak]; exact g2, by simp; omega, ⟨e', by simpa using g4, g5⟩, fun v h hh => ?_, ?_⟩
        · simp only [setM]
          rw [if_neg hak, List.modify_succ_cons, List.map_cons, List.map_cons, g6 v h hh, h1]
        · simp only [delM]
          rw [if_neg hak, List.eraseIdx_cons_succ, List.map_cons, List.map_cons, g7, h1]

theorem run_checkKeyI {P : Program} {t : TypeId} {k : IntKind} (ht : P.underlying t = some (.int k)) (em : Bool) (n : Int) (w : World) : (Instr.checkKey em 10000 t (.int .i64 n)).run P w = .ok () w := by
  have : ∀ d, (Instr.checkKey em (d + 1) t (.int .i64 n)).run P w = .ok () w := fun d => by
    unfold Instr.checkKey
    simp [run_underlying ht]
  exact this 9999
theorem sameBits_int (k : Int) : Instr.sameBits 10000 (.int .i64 k) (.int .i64 k) = true := by
  have : ∀ d, Instr.sameBits (d + 1) (.int .i64 k) (.int .i64 k) = true := fun d => by
    unfold Instr.sameBits
    simp
  exact this 9999

section
variable {C : Cx} {A A' : List Assn} {w : World} {g i : Nat} {f : β → Value} {l : List (Int × β)}
theorem Conf.mapAt [h : MapAt A g β f l i] (hc : Conf C A w) : ∃ es clock, w.heap[g]? = some (.map es clock) ∧ es.toList.map kvE = l.map (kvM f) := by
  obtain ⟨F, hF, _⟩ := hc.get h.at_
  exact hF.1
theorem Conf.setMap [h : MapAt A g β f l i] {l' : List (Int × β)} [hu : Upd A i (mapA f g l') A'] (hc : Conf C A w) {es : Array MapEntry} {clock : Nat} (he : es.toList.map kvE = l'.map (kvM f)) : Conf C A' (w.putObj g (.map es clock)) := by
  rw [← hu.eq]
  obtain ⟨F, hF, _⟩ := hc.get h.at_
  obtain ⟨⟨es0, c0, h0, _⟩, _⟩ := hF
  have hlt := (Array.getElem?_eq_some_iff.1 h0).1
  refine hc.update h.at_ rfl rfl rfl (by simp [World.putObj]) (Nat.le_refl _) fun F' ⟨_, hF'⟩ => ⟨F', ⟨⟨es, clock, by simp [World.putObj, hlt], he⟩, hF'⟩, fun b hb => .inl hb, fun b hb hn => ?_⟩
  have hne : ¬ g = b := fun e => hn ((hF' b).2 e.symm)
  simp [World.putObj, hne]
end
end

section
variable {β : Type} {C : Cx} {A A' As : List Assn} {Q : Exit → Act → World → Prop} {S : World → Prop} {env : Env} {ops : Array Oper} {r : Sd} {i d g j : Nat} {v : Value} {cl : Cl} {x y z : Operand} {t u kt e : TypeId} {op : Op} {f : β → Value} {l : List (Int × β)}
variable {ty : TypeId} {pos : String} {af : Array Edge} {gd : Option (Nat × Bool)}

def lkV (f : β → Value) (z : Value) (l : List (Int × β)) (k : Int) : Value := match getM l k with
  | some b => f b
  | none => z
theorem lkV_int (l : List (Int × Int)) (k : Int) : lkV (Value.int .i64) (.int .i64 0) l k = .int .i64 (getI l k) := by
  unfold lkV getI
  cases getM l k <;> rfl
theorem run_lookupM {P : Program} {w : World} [ht : MpT P t kt e] [hk : IntT P kt .i64] {z0 : Value} [hz : Zr P e z0] {es : Array MapEntry} {clock : Nat} (hb : w.heap[g]? = some (.map es clock)) (he : es.toList.map kvE = l.map (kvM f)) (k : Int) (ok : Bool) :
    (Instr.lookup t (.map (some g)) (.int .i64 k) ok).run P w = .ok (if ok then .tuple #[lkV f z0 l k, .bool (getM l k).isSome] else lkV f z0 l k) w := by
  have h1 : ∀ em, (Instr.checkKey em 10000 kt (.int .i64 k)).run P w = .ok () w := fun em => run_checkKeyI hk.und em k w
  have hg : (getObj g).run P w = .ok (.map es clock) w := MapKept.run_getObj_map hb
  rcases find_map f k es.toList l 0 he with ⟨g1, g2, _⟩ | ⟨j, b, g1, g2, _⟩
  · have h2 : (Instr.findKey kt (.int .i64 k) es.toList).run P w = .ok none w := by simp [Instr.findKey, run_underlying hk.und, g1]
    cases ok <;> simp [Instr.lookup, run_underlying ht.und, hg, h1, h2, hz.run, lkV, g2]
  · have h2 : (Instr.findKey kt (.int .i64 k) es.toList).run P w = .ok (some (0 + j, f b)) w := by simp [Instr.findKey, run_underlying hk.und, g1]
    cases ok <;> simp [Instr.lookup, run_underlying ht.und, hg, h1, h2, lkV, g2]

/-- An operation that yields nothing that is kept. -/
theorem XL.chgN {o : Oper} (ho : ops[i]? = some o) (hg : gok ops env o = some true) (hd : o.dst = none)
    (h : ∀ a w, EnvOK C.n env a → Conf C A w → ∃ v A' w', (execOp a.eval o).run C.P w = .ok (.value v) w' ∧ Conf C A' w' ∧ After cl S C A' ∧ XL C ops Q S r env A') : XL C ops Q S (.op cl i r) env A := by
  refine ⟨fun a w he hc => ?_⟩
  obtain ⟨v, A', w', hr, hc', haf, k⟩ := h a w he hc
  have key := k.go _ w' he hc'
  rcases haf.ok with rfl | ⟨rfl, hS⟩
  · unfold wpT wpOp
    simp only [ho, gok_wanted hg he, if_true, Oper.wp, hr, Oper.upon, hd]
    exact .inl key
  · unfold wpT wpOp
    simp only [ho, gok_wanted hg he, if_true, Oper.wp, hr, Oper.upon, hd]
    exact .inl ⟨hS w' hc', key⟩

/-- A new map. -/
theorem XL.makeMap (f : β → Value) (ho : ops[i]? = some ⟨some d, .makeMap t none, ty, pos, af, gd⟩) (hg : gok ops env ⟨some d, .makeMap t none, ty, pos, af, gd⟩ = some true) (hdn : Nat.blt d C.n.n = true) (haf : ∀ g, After cl S C (mapA f g [] :: A))
    (k : ∀ g, XL C ops Q S r ((d, .map (some g)) :: env) (mapA f g [] :: A)) : XL C ops Q S (.op cl i r) env A := by
  refine XL.chg ho hg rfl hdn fun a w he hc => ?_
  refine ⟨_, _, w.alloc (.map #[] 0), ?_, hc.new (q := mapA f w.heap.size []) rfl rfl rfl (by simp) (Nat.le_refl _) (fun b hb => RowKit.Below.heap_alloc w _ b hb) ⟨fun b => b = w.heap.size, ⟨⟨#[], 0, heap_alloc_new w _, rfl⟩, fun b => Iff.rfl⟩, fun b hb => by rw [hb]; exact Nat.le_refl _⟩, haf _, k _⟩
  have hm : (Instr.makeMap t none).run C.P w = .ok (.map (some w.heap.size)) (w.alloc (.map #[] 0)) := rfl
  simp [execOp, hm]

/-- A key's element is set. -/
theorem XL.mapSet {k : Int} (b : β) (ho : ops[i]? = some ⟨none, .mapUpdate t x y z, ty, pos, af, gd⟩) (hg : gok ops env ⟨none, .mapUpdate t x y z, ty, pos, af, gd⟩ = some true) [ht : MpT C.P t kt e] [hk : IntT C.P kt .i64] (hx : ev env x = some (.map (some g))) (hy : ev env y = some (.int .i64 k))
    [hl : MapAt A g β f l j] (hz : ev env z = some (f b)) [hu : Upd A j (mapA f g (setM l k b)) A'] [haf : After cl S C A'] (kk : XL C ops Q S r env A') : XL C ops Q S (.op cl i r) env A := by
  refine XL.chg0 ho hg rfl fun a w he hc => ?_
  obtain ⟨es, clock, hb, hes⟩ := hc.mapAt (g := g)
  have h1 : ∀ em, (Instr.checkKey em 10000 kt (.int .i64 k)).run C.P w = .ok () w := fun em => run_checkKeyI hk.und em k w
  have hg : (getObj g).run C.P w = .ok (.map es clock) w := MapKept.run_getObj_map hb
  have hset : ∀ o, (setObj g o).run C.P w = .ok () (w.putObj g o) := fun o => MapKept.run_setObj_map o hb
  rcases find_map f k es.toList l 0 hes with ⟨g1, g2, g3, _⟩ | ⟨jj, b', g1, g2, g3, ⟨e', g4, g5⟩, g6, _⟩
  · have h2 : (Instr.findKey kt (.int .i64 k) es.toList).run C.P w = .ok none w := by simp [Instr.findKey, run_underlying hk.und, g1]
    refine ⟨A', w.putObj g (.map (es.push ⟨.int .i64 k, f b, clock⟩) (clock + 1)), ?_, hc.setMap (l' := setM l k b) ?_, haf, kk⟩
    · simp [execOp, he.ev hx, he.ev hy, he.ev hz, Instr.mapUpdate, run_underlying ht.und, hg, h1, h2, hset]
    · rw [Array.toList_push, List.map_append, hes, ← g3 b]
      rfl
  · have h2 : (Instr.findKey kt (.int .i64 k) es.toList).run C.P w = .ok (some (0 + jj, f b')) w := by simp [Instr.findKey, run_underlying hk.und, g1]
    have h3 : (es[jj]?.map (·.key)).getD (.int .i64 k) = .int .i64 k := by
      have : es[jj]? = some e' := by rw [← Array.getElem?_toList]; exact g4
      rw [this]
      exact g5
    have h4 : (Instr.keyThatStays (.int .i64 k) (.int .i64 k)).run C.P w = .ok (.int .i64 k) w := by
      simp [Instr.keyThatStays, sameBits_int]
    refine ⟨A', w.putObj g (.map (es.modify jj fun e => { e with key := .int .i64 k, val := f b }) clock), ?_, hc.setMap (l' := setM l k b) ?_, haf, kk⟩
    · simp [execOp, he.ev hx, he.ev hy, he.ev hz, Instr.mapUpdate, run_underlying ht.und, hg, h1, h2, h3, h4, hset]
    · rw [Array.toList_modify]
      exact g6 b _ (fun e => rfl)

/-- A key is struck. -/
theorem XL.mapDel {k : Int} {ats : TypeId} (ho : ops[i]? = some ⟨none, .call ⟨.builtin .delete, #[x, y], #[t, ats]⟩, ty, pos, af, gd⟩) (hg : gok ops env ⟨none, .call ⟨.builtin .delete, #[x, y], #[t, ats]⟩, ty, pos, af, gd⟩ = some true) [ht : MpT C.P t kt e] [hk : IntT C.P kt .i64] (hx : ev env x = some (.map (some g))) (hy : ev env y = some (.int .i64 k))
    [hl : MapAt A g β f l j] [hu : Upd A j (mapA f g (delM l k)) A'] [haf : After cl S C A'] (kk : XL C ops Q S r env A') : XL C ops Q S (.op cl i r) env A := by
  refine XL.chgN ho hg rfl fun a w he hc => ?_
  obtain ⟨es, clock, hb, hes⟩ := hc.mapAt (g := g)
  have h1 : ∀ em, (Instr.checkKey em 10000 kt (.int .i64 k)).run C.P w = .ok () w := fun em => run_checkKeyI hk.und em k w
  have hg : (getObj g).run C.P w = .ok (.map es clock) w := MapKept.run_getObj_map hb
  have hset : ∀ o, (setObj g o).run C.P w = .ok () (w.putObj g o) := fun o => MapKept.run_setObj_map o hb
  rcases find_map f k es.toList l 0 hes with ⟨g1, g2, g3, g4⟩ | ⟨jj, b', g1, g2, g3, _, _, g7⟩
  · have h2 : (Instr.findKey kt (.int .i64 k) es.toList).run C.P w = .ok none w := by simp [Instr.findKey, run_underlying hk.und, g1]
    refine ⟨.tuple #[], A', w.putObj g (.map es clock), ?_, hc.setMap (l' := delM l k) (by rw [g4]; exact hes), haf, kk⟩
    simp [execOp, resolve, invoke, builtin, Builtin.delete_, he.ev hx, he.ev hy, run_underlying ht.und, hg, h1, h2, hset]
  · have h2 : (Instr.findKey kt (.int .i64 k) es.toList).run C.P w = .ok (some (0 + jj, f b')) w := by simp [Instr.findKey, run_underlying hk.und, g1]
    refine ⟨.tuple #[], A', w.putObj g (.map (es.eraseIdxIfInBounds jj) clock), ?_, hc.setMap (l' := delM l k) ?_, haf, kk⟩
    · simp [execOp, resolve, invoke, builtin, Builtin.delete_, he.ev hx, he.ev hy, run_underlying ht.und, hg, h1, h2, hset]
    · rw [← g7]
      congr 1
      unfold Array.eraseIdxIfInBounds
      have : jj < es.size := by simpa using g3
      simp [this]

namespace Z
theorem ix [Nc cl] {ad : Option Addr} {n c ee sz : Nat} {kk : IntKind} {jj : Int} (m : Nat) (hn : nx C.n.n ops env i = some (d, .indexAddr t x y)) [h : SlT C.P t ee] [hs : Sz C.P ee sz] (hx : ev env x = some (.slice ad n c)) (hy : ev env y = some (.int kk jj)) (hj : jj = (m : Int)) (hm : m < n) (hsome : ad.isSome = true)
    (k : XL C ops Q S r ((d, .pointer (some (el ad (m * sz)))) :: env) A) : XL C ops Q S (.op cl i r) env A := XL.dt hn (fun ty pos af gd => D.indexAddr m hx hy hj hm hsome) k
theorem la [Rl cl C S A As] {p : Addr} (hn : nx C.n.n ops env i = some (d, .load t x)) [h1 : One C.P t] (hx : ev env x = some (.pointer (some p))) (hv : ∀ w, Conf C As w → w.cell? p = some v) (k : XL C ops Q S r ((d, v) :: env) A) : XL C ops Q S (.op cl i r) env A :=
  XL.ld hn (fun ty pos af gd => D.load1 hx hv) k
theorem lb [Rl cl C S A As] {p : Addr} {sz : Nat} {cs : List Value} (hn : nx C.n.n ops env i = some (d, .load t x)) [h1 : Ag C.P t] [hs : Sz C.P t sz] (hx : ev env x = some (.pointer (some p))) (hlen : (cs.length == sz) = true) (hv : ∀ w, Conf C As w → ∀ j u, cs[j]? = some u → w.cell? (p.add j) = some u) (k : XL C ops Q S r ((d, .agg cs.toArray) :: env) A) : XL C ops Q S (.op cl i r) env A :=
  XL.ld hn (fun ty pos af gd => D.loadN hx hlen hv) k
theorem lk [Rl cl C S A As] {k : Int} {z0 : Value} (hn : nx C.n.n ops env i = some (d, .lookup t x y false)) [ht : MpT C.P t kt e] [hk : IntT C.P kt .i64] [hz : Zr C.P e z0] (hx : ev env x = some (.map (some g))) (hy : ev env y = some (.int .i64 k)) [hl : MapAt As g β f l j]
    (kk : XL C ops Q S r ((d, lkV f z0 l k) :: env) A) : XL C ops Q S (.op cl i r) env A :=
  XL.ld hn (fun ty pos af gd => ⟨fun a w he hw => by
    obtain ⟨es, clock, hb, hes⟩ := hw.mapAt (g := g)
    have := run_lookupM (P := C.P) (t := t) (z0 := z0) hb hes k false
    simp [execOp, he.ev hx, he.ev hy, this]⟩) kk
theorem lkOk [Rl cl C S A As] {k : Int} {z0 : Value} (hn : nx C.n.n ops env i = some (d, .lookup t x y true)) [ht : MpT C.P t kt e] [hk : IntT C.P kt .i64] [hz : Zr C.P e z0] (hx : ev env x = some (.map (some g))) (hy : ev env y = some (.int .i64 k)) [hl : MapAt As g β f l j]
    (kk : XL C ops Q S r ((d, .tuple #[lkV f z0 l k, .bool (getM l k).isSome]) :: env) A) : XL C ops Q S (.op cl i r) env A :=
  XL.ld hn (fun ty pos af gd => ⟨fun a w he hw => by
    obtain ⟨es, clock, hb, hes⟩ := hw.mapAt (g := g)
    have := run_lookupM (P := C.P) (t := t) (z0 := z0) hb hes k true
    simp [execOp, he.ev hx, he.ev hy, this]⟩) kk
theorem lkI [Rl cl C S A As] {k : Int} {l : List (Int × Int)} (hn : nx C.n.n ops env i = some (d, .lookup t x y false)) [ht : MpT C.P t kt e] [hk : IntT C.P kt .i64] [hz : Zr C.P e (.int .i64 0)] (hx : ev env x = some (.map (some g))) (hy : ev env y = some (.int .i64 k)) [hl : MapAt As g Int (Value.int .i64) l j]
    (kk : XL C ops Q S r ((d, .int .i64 (getI l k)) :: env) A) : XL C ops Q S (.op cl i r) env A := Z.lk hn hx hy (by rw [lkV_int]; exact kk)
theorem lnM [Rl cl C S A As] (hn : nx C.n.n ops env i = some (d, .call ⟨.builtin .len, #[x], #[t]⟩)) [ht : MpT C.P t kt e] (hx : ev env x = some (.map (some g))) [hl : MapAt As g β f l j]
    (kk : XL C ops Q S r ((d, .int .i64 l.length) :: env) A) : XL C ops Q S (.op cl i r) env A :=
  XL.ld hn (fun ty pos af gd => ⟨fun a w he hw => by
    obtain ⟨es, clock, hb, hes⟩ := hw.mapAt (g := g)
    have hlen : es.size = l.length := by have := congrArg List.length hes; simpa using this
    have hg : (getObj g).run C.P w = .ok (.map es clock) w := MapKept.run_getObj_map hb
    simp [execOp, resolve, invoke, builtin, Builtin.len_, he.ev hx, run_underlying ht.und, hg, goInt, hlen]⟩) kk
end Z
end
end Go.Lx

/- What states are, and which bytes: plain laws. -/
namespace Go.Lx
open Go.Proofs
set_option linter.unusedVariables false
set_option linter.unusedSimpArgs false

abbrev Kr := Int × Int × Int
def encK1 (x : Kr) : List Value := [.int .i64 x.1, .int .i64 x.2.1, .int .i64 x.2.2]
def encK (xs : List Kr) : List Value := xs.flatMap encK1
theorem Rd.kr {w : World} {a : Option Addr} {n c m : Nat} {xs : List Kr} {x : Kr} (h : Rd w 3 a n c (encK xs)) (hx : xs[m]? = some x) : ∀ j u, [Value.int .i64 x.1, .int .i64 x.2.1, .int .i64 x.2.2][j]? = some u → w.cell? ((el a (m * 3)).add j) = some u := Rd.elem (f := encK1) h (fun _ => rfl) hx
theorem encK_snoc (xs : List Kr) (x : Kr) : encK xs ++ [.int .i64 x.1, .int .i64 x.2.1, .int .i64 x.2.2] = encK (xs ++ [x]) := by simp [encK, encK1]
theorem encK_len (xs : List Kr) : (encK xs).length = xs.length * 3 := flat_len encK1 3 (fun _ => rfl) xs
theorem encK_one (l : List Kr) : ∀ u ∈ encK l, u.oneCell' = true := fun u hu => by
  obtain ⟨x, _, hx⟩ := List.mem_flatMap.1 hu
  simp only [encK1, List.mem_cons, List.not_mem_nil, or_false] at hx
  rcases hx with rfl | rfl | rfl <;> rfl
structure Ck where
  k : Nat
  ep : Int
  sq : Int
  up : Int
  sz : Int
  m : List Ext
  r : List Kr
  nt : Bs
def zK : Ck := ⟨0, 0, 0, 0, 0, [], [], []⟩

/-! ### how many sectors of an object there are -/
def liveN : List Ext → Int → Int
  | [], _ => 0
  | x :: l, q => (if x.q = q then x.n else 0) + liveN l q
theorem liveN_append (q : Int) : ∀ l m : List Ext, liveN (l ++ m) q = liveN l q + liveN m q
  | [], m => by simp [liveN]
  | x :: l, m => by simp only [List.cons_append, liveN, liveN_append q l m]; omega
theorem liveN_take {l : List Ext} {i : Nat} {x : Ext} (h : l[i]? = some x) (q : Int) : liveN (l.take (i + 1)) q = liveN (l.take i) q + (if x.q = q then x.n else 0) := by
  rw [take_snocE h, liveN_append]; simp [liveN]
theorem liveN_bd (q : Int) : ∀ {l : List Ext} {lo : Int}, Rise lo l → 0 ≤ liveN l q ∧ lo + liveN l q ≤ endE lo l
  | [], lo, _ => by simp [liveN, endE]
  | x :: l, lo, h => by
    obtain ⟨h1, h2, h3⟩ := h
    have ih := liveN_bd q h3
    unfold inE at h2
    simp only [liveN, endE]
    split <;> omega
theorem liveN_top {l : List Ext} (h : Rise 0 l) (q : Int) : 0 ≤ liveN l q ∧ liveN l q ≤ 65536 := by
  have h1 := liveN_bd q h
  have h2 := h.endTop (by omega)
  omega
/-! ### which states may be -/
def prevK (l : List Kr) : Nat → Int
  | 0 => 0
  | i + 1 => match l[i]? with
    | some x => x.1
    | none => 0
theorem prevK_succ {l : List Kr} {i : Nat} {x : Kr} (h : l[i]? = some x) : prevK l (i + 1) = x.1 := by simp [prevK, h]
def RowP (c : Ck) (p : Int) (x : Kr) : Prop := p < x.1 ∧ x.1 ≤ c.sq ∧ 0 ≤ x.2.1 ∧ x.2.1 ≤ 65536 ∧ x.2.2 = liveN c.m x.1 ∧ x.2.2 ≤ x.2.1
def rowsN (c : Ck) (n : Nat) : Prop := ∀ i x, i < n → c.r[i]? = some x → RowP c (prevK c.r i) x
def inK (l : List Kr) (q : Int) : Prop := ∃ x ∈ l, x.1 = q
def hasK (c : Ck) : Prop := ∀ x ∈ c.m, inK c.r x.q
def rowedP (c : Ck) : Prop := rowsN c c.r.length ∧ hasK c
def mappedP (c : Ck) : Prop := ExtOK c.m c.m.length ∧ NF c.m ∧ ∀ x ∈ c.m, x.a + x.n ≤ c.sz
def numsK (c : Ck) : Prop := (1 ≤ c.ep ∧ c.ep < 1099511627776) ∧ (0 ≤ c.sq ∧ c.sq < 1099511627776) ∧ (0 ≤ c.up ∧ c.up < 1099511627776) ∧ 1 ≤ c.sz ∧ c.sz ≤ 65536
theorem rowsN.step {c : Ck} {i : Nat} {x : Kr} (h : rowsN c i) (hx : c.r[i]? = some x) (hp : RowP c (prevK c.r i) x) : rowsN c (i + 1) := fun j y hj hy => by
  rcases Nat.lt_or_ge j i with g | g
  · exact h j y g hy
  · obtain rfl : j = i := by omega
    rw [hx] at hy; cases hy; exact hp
theorem rowsN.prev {c : Ck} : ∀ {i : Nat}, rowsN c i → i ≤ c.r.length → 0 ≤ prevK c.r i ∧ ∀ q, inK (c.r.take i) q → 1 ≤ q ∧ q ≤ prevK c.r i
  | 0, _, _ => ⟨Int.le_refl _, fun q ⟨x, hx, _⟩ => by simp at hx⟩
  | i + 1, h, hi => by
    obtain ⟨x, hx⟩ := get_lt (l := c.r) (k := i) hi
    obtain ⟨h1, h2⟩ := rowsN.prev (i := i) (fun j y hj hy => h j y (by omega) hy) (by omega)
    have hp := h i x (by omega) hx
    unfold RowP at hp
    rw [prevK_succ hx]
    refine ⟨by omega, fun q ⟨y, hy, hyq⟩ => ?_⟩
    rw [take_snocE hx] at hy
    rcases List.mem_append.1 hy with g | g
    · have := h2 q ⟨y, g, hyq⟩; omega
    · obtain rfl : y = x := by simpa using g
      omega
theorem rowsN.fresh {c : Ck} {i : Nat} {q : Int} (h : rowsN c i) (hi : i ≤ c.r.length) (hq : prevK c.r i < q) : ¬ inK (c.r.take i) q := fun g => by
  have := (h.prev hi).2 q g
  omega

/-! ### bytes -/
def kdK : Bs := [67, 75, 80, 49]
def krB (x : Kr) : Bs := (varB x.1.toNat ++ varB x.2.1.toNat) ++ varB x.2.2.toNat
def OkR (x : Kr) : Prop := ((0 ≤ x.1 ∧ x.1 ≤ 1099511627776) ∧ (0 ≤ x.2.1 ∧ x.2.1 ≤ 1099511627776)) ∧ (0 ≤ x.2.2 ∧ x.2.2 ≤ 1099511627776)
abbrev Zk := ((((((Nat × Nat) × Nat) × Nat) × Nat) × List Ext) × List Kr) × Bs
def hkE (z : Zk) : Bs := ((((((fixB z.1.1.1.1.1.1.1 8 ++ varB z.1.1.1.1.1.1.2) ++ varB z.1.1.1.1.1.2) ++ varB z.1.1.1.1.2) ++ varB z.1.1.1.2) ++ cntB ptB z.1.1.2) ++ cntB krB z.1.2) ++ textB z.2
def zCk (c : Ck) : Zk := (((((((c.k, c.ep.toNat), c.sq.toNat), c.up.toNat), c.sz.toNat), c.m), c.r), c.nt)
def ckZ (z : Zk) : Ck := ⟨z.1.1.1.1.1.1.1, z.1.1.1.1.1.1.2, z.1.1.1.1.1.2, z.1.1.1.1.2, z.1.1.1.2, z.1.1.2, z.1.2, z.2⟩
def bodK (c : Ck) : Bs := kdK ++ hkE (zCk c)
def stK (c : Ck) : Bs := sealS (bodK c)
theorem krB_len (x : Kr) : (krB x).length ≤ 27 := by
  have h1 := varB_le x.1.toNat
  have h2 := varB_le x.2.1.toNat
  have h3 := varB_le x.2.2.toNat
  simp only [krB, List.length_append]
  omega
open Classical in
noncomputable def chkK (c : Ck) : Int := if numsK c then if mappedP c ∧ rowedP c ∧ c.nt.length ≤ 16384 then if (stK c).length ≤ 65536 then 0 else 31 else 1 else 1
theorem chkK_ok {c : Ck} (h : chkK c = 0) : numsK c ∧ mappedP c ∧ rowedP c ∧ c.nt.length ≤ 16384 ∧ (stK c).length ≤ 65536 := by
  unfold chkK at h
  split at h
  · rename_i h1
    split at h
    · rename_i h2
      split at h
      · rename_i h3; exact ⟨h1, h2.1, h2.2.1, h2.2.2, h3⟩
      · cases h
    · cases h
  · cases h
theorem chkK_of {c : Ck} (h1 : numsK c) (h2 : mappedP c) (h3 : rowedP c) (h4 : c.nt.length ≤ 16384) (h5 : (stK c).length ≤ 65536) : chkK c = 0 := by
  unfold chkK
  rw [if_pos h1, if_pos ⟨h2, h3, h4⟩, if_pos h5]
theorem bodK_len (c : Ck) : (bodK c).length ≤ 100 + 36 * c.m.length + 27 * c.r.length + c.nt.length := by
  have h1 := varB_le c.ep.toNat
  have h2 := varB_le c.sq.toNat
  have h3 := varB_le c.up.toNat
  have h4 := varB_le c.sz.toNat
  have h5 := varB_le c.m.length
  have h6 := varB_le c.r.length
  have h7 := flatMap_len ptB 36 c.m ptB_len
  have h8 := flatMap_len krB 27 c.r krB_len
  have h9 := textB_len c.nt
  have h0 := fixB_len c.k 8
  simp only [bodK, hkE, zCk, cntB, List.length_append]
  have : kdK.length = 4 := rfl
  omega
theorem stK_len (c : Ck) : (stK c).length = (bodK c).length + 4 := by unfold stK; rw [sealS_len]
theorem mappedP.rise {c : Ck} (h : mappedP c) : Rise 0 c.m := h.1.rise0
def PosE (x : Ext) : Prop := (0 ≤ x.a ∧ x.a ≤ 1099511693312) ∧ (0 ≤ x.n ∧ x.n ≤ 1099511693312) ∧ (0 ≤ x.q ∧ x.q ≤ 1099511693312) ∧ 0 ≤ x.p ∧ x.p ≤ 1099511693312
theorem posE_in {x : Ext} (h : inE x) : PosE x := by
  unfold inE at h
  unfold PosE
  omega
theorem Rise.pos {l : List Ext} {lo : Int} (h : Rise lo l) : ∀ x ∈ l, PosE x := fun x hx => posE_in (h.mem hx).1
theorem okR_of {c : Ck} (h : rowsN c c.r.length) (hn : numsK c) (hr : Rise 0 c.m) : ∀ x ∈ c.r, OkR x := fun x hx => by
  obtain ⟨i, hi⟩ := List.mem_iff_getElem?.1 hx
  have hil := lt_of_get hi
  have h1 := h i x hil hi
  have h2 := (rowsN.prev (c := c) (i := i) (fun j y hj hy => h j y (by omega) hy) (by omega)).1
  have h3 := liveN_top hr x.1
  unfold RowP at h1
  unfold numsK at hn
  unfold OkR
  omega
/-- As few extents as can be: what of a list is itself. -/
theorem few_self {l o : List Ext} (h : (ExtOK l l.length ∧ JnI 0 l l.length o) ∨ (¬ ExtOK l l.length ∧ o = [])) : o = l ↔ ExtOK l l.length ∧ NF l := by
  rcases h with ⟨h1, hJ⟩ | ⟨h1, rfl⟩
  · have hr := h1.rise0
    constructor
    · rintro rfl; exact ⟨h1, hJ.nf⟩
    · rintro ⟨_, hn⟩
      exact ext_unique o l hJ.rise hr hJ.nf hn (fun t s => by rw [hJ.at_, List.take_length])
  · constructor
    · rintro rfl; exact absurd (fun k x hk => by simp at hk) h1
    · rintro ⟨h, _⟩; exact absurd h h1
end Go.Lx

/- Package ckpt's walks: which states may be, and their bytes. -/
namespace Go.Lx
open Go.Proofs
set_option linter.unusedVariables false
set_option linter.unusedSimpArgs false
set_option maxRecDepth 20000
set_option maxHeartbeats 4000000
instance : MpT Tryz.prog 148 3 3 := ⟨Tryz.underlying148⟩
instance : Zr Tryz.prog 3 (.int .i64 0) := Zr.mk' (by kernel_rfl)
theorem kNumber_spec (n f : Int) (w : World) : Spec Tryz.prog 60 #[.int .i64 n, .int .i64 f] w (fun _ => False) (fun v A => v = .bool (decide (f ≤ n ∧ n < 1099511627776)) ∧ A = []) := by
  refine Spec.enter (args := [.int .i64 n, .int .i64 f]) (A := []) Tryz.func60 rfl Tryz.ntmps60 rfl (fun _ h => h) ?_
  ((refine X.st (by kernel_rfl) ?_<;>repeat' first|refine Z.p rfl ?_|refine XL.nn ?_)<;>(refine X.st (by kernel_rfl) ?_<;>repeat' first|refine Z.p rfl ?_|(refine XL.at 2 ?_;(refine Z.cs rfl (fun h1 => ?_) (fun h1 => ?_)))|(refine XL.at 5 ?_;(refine Z.cs rfl (fun h2 => ?_) (fun h2 => ?_)))|refine Z.pk rfl rfl rfl rfl ?_|refine XL.nn ?_)<;>(apply X.r1 Tryz.results60 (RV.tmp rfl);(focus (first | exact ⟨by rw [decide_eq_true (show f ≤ n ∧ n < 1099511627776 from ⟨by omega, by omega⟩)], rfl⟩ | exact ⟨by rw [decide_eq_false (show ¬ (f ≤ n ∧ n < 1099511627776) from by omega)], rfl⟩));exact fun _=>Conf.takes))
theorem EqualE_spec (w : World) (a b : Option Addr) (c d : Nat) (l m : List Ext) (hl : Rd w 4 a l.length c (encE l)) (hm : Rd w 4 b m.length d (encE m)) :
    Spec Tryz.prog 114 #[.slice a l.length c, .slice b m.length d] w (fun _ => False) (fun v A => ∃ f : Bool, v = .bool f ∧ (f = true ↔ l = m) ∧ A = []) := by
  have hb1 := hl.bd'
  have hb2 := hm.bd'
  refine Spec.enter (args := [.slice a l.length c, .slice b m.length d]) (A := []) Tryz.func114 rfl Tryz.ntmps114 rfl (fun _ h => h) ?_
  ((refine X.st (by kernel_rfl) ?_<;>repeat' first|refine Z.p rfl ?_|refine XL.nn ?_)<;>refine X.seq ?_<;>((refine X.st (by kernel_rfl) ?_<;>repeat' first|refine Z.p rfl ?_|refine Z.ln rfl rfl ?_|refine Z.lnL rfl rfl ?_|refine Z.lnS rfl rfl ?_|refine Z.ct rfl (by omega) ?_|refine Z.cf rfl (by omega) ?_|refine Z.cs rfl (fun _=>?_) (fun _=>?_)|refine XL.nn ?_)<;>(refine X.cond rfl ?_ ?_;rotate_left;(focus (intro hc;first|exact no_ hc rfl|(refine X.skip ?_)));rotate_right;(focus (intro hc;first|exact no_ hc rfl|((refine X.st (by kernel_rfl) ?_<;>repeat' first|refine Z.p rfl ?_|refine XL.nn ?_)<;>(apply X.r1 Tryz.results114 (RV.tmp rfl);(focus (first | exact ⟨true, rfl, iff_of_true rfl (by have e : i = l.length := (by omega); rw [List.take_of_length_le (by omega), List.take_of_length_le (by omega)] at ht; exact ht), rfl⟩ | exact ⟨false, rfl, iff_of_false Bool.false_ne_true (fun e => by subst e; first | omega | (rw [hx] at hy; cases hy; exact h4 ⟨rfl, rfl, rfl, rfl⟩)), rfl⟩));exact fun _=>Conf.takes))))))<;>(first|refine Ex.then ?_|refine N.next ?_<;>(refine X.seq ?_<;>((refine X.st (by kernel_rfl) ?_<;>repeat' first|refine Z.p rfl ?_|refine Z.ln rfl rfl ?_|refine Z.lnL rfl rfl ?_|refine Z.lnS rfl rfl ?_|refine XL.nn ?_)<;>refine X.block ?_<;>((refine X.loop (ι := Nat) (fun i => [(0, .slice a l.length c), (1, .slice b m.length d), (12, .int .i64 l.length), (13, .int .i64 ((i : Nat) : Int))]) (fun _ => []) (fun i => i ≤ l.length ∧ l.take i = m.take i) (fun i => l.length - i) (0) ?_ ?_ ?_ ?_; (focus (exact ⟨Nat.zero_le _, rfl⟩)); (focus (repeat (first | exact Sub.nil | refine Sub.cons rfl ?_))); (focus (exact (fun w h => h.takes))); rintro i ⟨hi, ht⟩; (dsimp only at *)) <;> ((refine X.st (by kernel_rfl) ?_<;>repeat' first|(refine XL.at 0 ?_;(refine Z.cs rfl (fun h3 => ?_) (fun h3 => ?_)))|refine XL.nn ?_)<;>refine X.seq ?_<;>((refine X.cond rfl ?_ ?_;rotate_left;(focus (intro hc;first|exact no_ hc rfl|(refine X.exit ?_)));rotate_right;(focus (intro hc;first|exact no_ hc rfl|(refine X.skip ?_)))))<;>(first|refine Ex.then ?_|refine N.next ?_<;>(refine X.seq ?_<;>(refine X.block ?_<;>((refine X.st (by kernel_rfl) ?_<;>repeat' first|(refine XL.at 0 ?_;(have hil : i < l.length := (by omega); (obtain ⟨x, hx⟩ := get_lt hil); (obtain ⟨y, hy⟩ := get_lt (l := m) (k := i) (by omega)); refine Z.p rfl ?_))|refine Z.p rfl ?_|refine XL.nn ?_)<;>(refine X.sd (.a 0 (.a 1 (.a 2 (.b 3 (.a 4 (.a 5 (.a 6 (.b 7 (.a 8 .n))))))))) mixed (by kernel_rfl) ?_<;>repeat' first|refine Z.p rfl ?_|(refine XL.at 2 ?_;(refine Z.ix i rfl rfl rfl rfl hil (hl.sm (by omega)) ?_))|(refine XL.at 3 ?_;(refine Z.lb rfl rfl rfl (fun w hw j u hu => Rd.ext (hl.conf0 hw) hx j u hu) ?_))|(refine XL.at 6 ?_;(refine Z.ix i rfl rfl rfl rfl (by omega) (hm.sm (by omega)) ?_))|(refine XL.at 7 ?_;(refine Z.lb rfl rfl rfl (fun w hw j u hu => Rd.ext (hm.conf0 hw) hy j u hu) ?_))|(refine XL.at 8 ?_;((by_cases h4 : x.a = y.a ∧ x.n = y.n ∧ x.q = y.q ∧ x.p = y.p) <;> (first | refine XL.cmpF0 rfl rfl rfl rfl (D.neS4 rfl rfl rfl) (fun g => g h4) ?_ | refine XL.cmpT0 rfl rfl rfl rfl (D.neS4 rfl rfl rfl) h4 ?_)))|refine XL.nn ?_)<;>(refine X.cond rfl ?_ ?_;rotate_left;(focus (intro hc;first|exact no_ hc rfl|(refine X.skip ?_)));rotate_right;(focus (intro hc;first|exact no_ hc rfl|((refine X.st (by kernel_rfl) ?_<;>repeat' first|refine Z.p rfl ?_|refine XL.nn ?_)<;>(apply X.r1 Tryz.results114 (RV.tmp rfl);(focus (first | exact ⟨true, rfl, iff_of_true rfl (by have e : i = l.length := (by omega); rw [List.take_of_length_le (by omega), List.take_of_length_le (by omega)] at ht; exact ht), rfl⟩ | exact ⟨false, rfl, iff_of_false Bool.false_ne_true (fun e => by subst e; first | omega | (rw [hx] at hy; cases hy; exact h4 ⟨rfl, rfl, rfl, rfl⟩)), rfl⟩));exact fun _=>Conf.takes))))))<;>(first|refine N.block ?_|refine Ex.here ?_|refine Ex.out rfl ?_))<;>(first|refine Ex.then ?_|refine N.next ?_<;>(refine X.tx (by kernel_rfl) ?_<;>repeat' first|refine Z.p rfl ?_|refine Z.g rfl (by omega) ?_|refine Z.w rfl ?_|refine XL.nil ?_))))) <;> (first | refine Ex.then ?_ | ((refine N.again ((i + 1)) ?_ ?_ ?_ ?_; (focus (exact ⟨hil, by rw [take_snocE hx, take_snocE hy, ht, Ext.eq' h4.1 h4.2.1 h4.2.2.1 h4.2.2.2]⟩)); (focus (first | omega | (dsimp only; omega))); (focus (repeat (first | exact Sub.nil | refine Sub.cons rfl ?_))); exact (fun w h => h.takes)))))<;>(first|refine N.block ?_|refine Ex.here ?_|refine Ex.out rfl ?_))<;>(first|refine Ex.then ?_|refine N.next ?_<;>((refine X.st (by kernel_rfl) ?_<;>repeat' first|refine Z.p rfl ?_|refine XL.nn ?_)<;>(apply X.r1 Tryz.results114 (RV.tmp rfl);(focus (first | exact ⟨true, rfl, iff_of_true rfl (by have e : i = l.length := (by omega); rw [List.take_of_length_le (by omega), List.take_of_length_le (by omega)] at ht; exact ht), rfl⟩ | exact ⟨false, rfl, iff_of_false Bool.false_ne_true (fun e => by subst e; first | omega | (rw [hx] at hy; cases hy; exact h4 ⟨rfl, rfl, rfl, rfl⟩)), rfl⟩));exact fun _=>Conf.takes))))))
theorem mapped1_spec (w : World) (g : Nat) (x : Ext) (cs : List Value) (sz : Int) (hg : w.cell? ⟨g, 4, none⟩ = some (.int .i64 sz)) (hx : -9223372036854775808 ≤ x.a + x.n ∧ x.a + x.n ≤ 9223372036854775807) : Spec Tryz.prog 116 #[.agg #[.int .i64 x.a, .int .i64 x.n, .int .i64 x.q, .int .i64 x.p], .pointer (some ⟨g, 0, none⟩)] w (fun _ => False) (fun v A => v = .bool (decide (sz < x.a + x.n)) ∧ A = []) := by
  refine Spec.enter (args := [.agg #[.int .i64 x.a, .int .i64 x.n, .int .i64 x.q, .int .i64 x.p], .pointer (some ⟨g, 0, none⟩)]) (A := []) Tryz.func116 rfl Tryz.ntmps116 rfl (fun _ h => h) ?_
  ((refine X.st (by kernel_rfl) ?_<;>repeat' first|refine Z.p rfl ?_|(refine XL.at 0 ?_;(refine XL.boxN rfl rfl rfl rfl (by intro g; infer_instance) (fun g2 => ?_)))|refine XL.nn ?_)<;>(refine X.sd (.a 0 (.b 1 (.a 3 (.b 4 (.c 2 (.a 5 (.a 6 .n))))))) mixed (by kernel_rfl) ?_<;>repeat' first|refine Z.p rfl ?_|(refine XL.at 2 ?_;((refine XL.call rfl rfl rfl rfl (fun w hw => dEnd_spec (x.a, x.n) hx w) ?_; rintro v B' ⟨rfl, rfl⟩; refine XL.both ?_)))|(refine XL.at 4 ?_;(refine Z.la rfl rfl (fun w hw => hw.cell0 hg (fun h => h)) ?_))|(refine XL.at 5 ?_;(refine Z.cs rfl (fun h1 => ?_) (fun h1 => ?_)))|refine Z.fa rfl rfl rfl ?_|refine Z.l1 rfl rfl rfl ?_|refine Z.lN rfl rfl rfl ?_|refine Z.lP rfl rfl rfl ?_|refine XL.nn ?_)<;>(apply X.r1 Tryz.results116 (RV.tmp rfl);(focus (first | exact ⟨by rw [decide_eq_true h1], rfl⟩ | exact ⟨by rw [decide_eq_false h1], rfl⟩));exact fun _=>Conf.takes))
theorem List.any_eq_false' {α : Type} {p : α → Bool} {l : List α} : l.any p = false ↔ ∀ x ∈ l, p x = false := by simp [List.any_eq_false]
theorem mapped_spec (w : World) (c : Ck) (a b : Option Addr) (n d : Nat) (hl : Rd w 4 a c.m.length n (encE c.m)) (hbd : c.m.length ≤ 1000000) : Spec Tryz.prog 61 #[.agg #[.int .u64 ((c.k : Nat) : Int), .int .i64 c.ep, .int .i64 c.sq, .int .i64 c.up, .int .i64 c.sz, .slice a c.m.length n, .slice b c.r.length d, .string ⟨List.toArray c.nt⟩]] w (fun _ => False) (fun v A => ∃ f : Bool, v = .bool f ∧ (f = true ↔ mappedP c) ∧ A = []) := by
  refine Spec.enter (args := [.agg #[.int .u64 ((c.k : Nat) : Int), .int .i64 c.ep, .int .i64 c.sq, .int .i64 c.up, .int .i64 c.sz, .slice a c.m.length n, .slice b c.r.length d, .string ⟨List.toArray c.nt⟩]]) (A := []) Tryz.func61 rfl Tryz.ntmps61 rfl (fun _ h => h) ?_
  ((refine X.st (by kernel_rfl) ?_<;>repeat' first|refine Z.p rfl ?_|(refine XL.at 0 ?_;(refine XL.boxN rfl rfl rfl rfl (by intro g; infer_instance) (fun g1 => ?_)))|refine XL.nn ?_)<;>(refine X.sd (.a 0 (.b 1 (.a 3 (.b 4 (.c 2 (.c 5 (.a 6 (.a 7 (.b 8 (.a 9 (.c 10 (.a 11 (.a 12 (.a 13 .n)))))))))))))) mixed (by kernel_rfl) ?_<;>repeat' first|refine XL.skipC rfl rfl rfl rfl ?_|refine Z.p rfl ?_|(refine XL.at 2 ?_;((refine XL.call rfl rfl rfl rfl (fun w hw => FewE_spec w a n c.m (hl.conf0 hw) hbd) ?_; rintro v B' ⟨a2, c2, o, rfl, ho, rfl⟩; refine XL.both ?_); have hfs := few_self ho))|(refine XL.at 5 ?_;((refine XL.call rfl rfl rfl rfl (fun w hw => EqualE_spec w a2 a c2 n o c.m (hw.rd (a := a2)) (hl.conf0 hw)) ?_; rintro v B' ⟨f, rfl, hf, rfl⟩; refine XL.both ?_); cases f))|(refine XL.at 10 ?_;(have hE := hfs.1 (hf.1 rfl); (refine XL.call rfl rfl rfl rfl (fun w hw => ContainsFuncE_spec w a c.m.length n c.m (hl.conf0 hw) 116 [.pointer (some ⟨g1, 0, none⟩)] (fun x => decide (c.sz < x.a + x.n)) (fun x hx w' hw' => mapped1_spec w' g1 x [] c.sz ((hw'.cell0 (hw.cellAt (o := 4) (Loc.at_) rfl) (fun h => h))) (by have := (hE.1.rise0.mem hx).1; unfold inE at this; omega))) ?_; rintro v B' ⟨rfl, rfl⟩; refine XL.both ?_); (cases hf2 : c.m.any (fun x : Ext => decide (c.sz < x.a + x.n)))))|refine Z.fa rfl rfl rfl ?_|refine Z.l1 rfl rfl rfl ?_|refine Z.lN rfl rfl rfl ?_|refine Z.lP rfl rfl rfl ?_|refine Z.mf rfl rfl rfl ?_|refine Z.pk rfl rfl rfl rfl ?_|refine XL.nn ?_)<;>(apply X.r1 Tryz.results61 (RV.tmp rfl);(focus (first | exact ⟨true, rfl, iff_of_true rfl ⟨hE.1, hE.2, fun x hx => by have := of_decide_eq_false (List.any_eq_false'.1 hf2 x hx); omega⟩, rfl⟩ | exact ⟨false, rfl, iff_of_false Bool.false_ne_true (fun h => by obtain ⟨x, hx, hz⟩ := List.any_eq_true.1 hf2; have := h.2.2 x hx; have := of_decide_eq_true hz; omega), rfl⟩ | exact ⟨false, rfl, iff_of_false Bool.false_ne_true (fun h => Bool.false_ne_true (hf.2 (hfs.2 ⟨h.1, h.2.1⟩))), rfl⟩));exact fun _=>Conf.takes))
theorem lives_spec (w : World) (c : Ck) (a b : Option Addr) (n d : Nat) (hl : Rd w 4 a c.m.length n (encE c.m)) (hr : Rise 0 c.m) : Spec Tryz.prog 90 #[.agg #[.int .u64 ((c.k : Nat) : Int), .int .i64 c.ep, .int .i64 c.sq, .int .i64 c.up, .int .i64 c.sz, .slice a c.m.length n, .slice b c.r.length d, .string ⟨List.toArray c.nt⟩]] w (fun _ => False)
    (fun v A => ∃ g L, v = .map (some g) ∧ (keyM L).Nodup ∧ (∀ q, getI L q = liveN c.m q) ∧ (∀ q, q ∈ keyM L ↔ ∃ x ∈ c.m, x.q = q) ∧ A = [mapA (Value.int .i64) g L]) := by
  have hbd := rise_len c.m 0 hr (by omega)
  refine Spec.enter (args := [.agg #[.int .u64 ((c.k : Nat) : Int), .int .i64 c.ep, .int .i64 c.sq, .int .i64 c.up, .int .i64 c.sz, .slice a c.m.length n, .slice b c.r.length d, .string ⟨List.toArray c.nt⟩]]) (A := []) Tryz.func90 rfl Tryz.ntmps90 rfl (fun _ h => h) ?_
  ((refine X.st (by kernel_rfl) ?_<;>repeat' first|refine Z.p rfl ?_|(refine XL.at 0 ?_;(refine XL.boxN rfl rfl rfl rfl (by intro g; infer_instance) (fun g1 => ?_)))|refine XL.nn ?_)<;>(refine X.st (by kernel_rfl) ?_<;>repeat' first|refine Z.p rfl ?_|(refine XL.at 0 ?_;(refine XL.makeMap (Value.int .i64) rfl rfl rfl (fun _ => by infer_instance) (fun gm => ?_)))|refine XL.nn ?_)<;>refine X.seq ?_<;>((refine X.st (by kernel_rfl) ?_<;>repeat' first|refine Z.p rfl ?_|refine Z.fa rfl rfl rfl ?_|refine Z.l1 rfl rfl rfl ?_|refine Z.lN rfl rfl rfl ?_|refine Z.lP rfl rfl rfl ?_|refine Z.ln rfl rfl ?_|refine Z.lnL rfl rfl ?_|refine Z.lnS rfl rfl ?_|refine XL.nn ?_)<;>refine X.block ?_<;>((refine X.loop (ι := Nat × List (Int × Int)) (fun y => [(3, .map (some gm)), (8, .slice a c.m.length n), (9, .int .i64 c.m.length), (10, .int .i64 ((y.1 : Nat) : Int))]) (fun y => [mapA (Value.int .i64) gm y.2]) (fun y => y.1 ≤ c.m.length ∧ (keyM y.2).Nodup ∧ (∀ q, getI y.2 q = liveN (c.m.take y.1) q) ∧ (∀ q, q ∈ keyM y.2 ↔ ∃ x ∈ c.m.take y.1, x.q = q)) (fun y => c.m.length - y.1) ((0, [])) ?_ ?_ ?_ ?_; (focus (exact ⟨Nat.zero_le _, List.nodup_nil, fun _ => rfl, fun q => by simp [keyM]⟩)); (focus (repeat (first | exact Sub.nil | refine Sub.cons rfl ?_))); (focus (exact (fun w h => h.takes))); rintro ⟨i, L⟩ ⟨hi, hN, hG, hK⟩; (dsimp only at *)) <;> ((refine X.st (by kernel_rfl) ?_<;>repeat' first|(refine XL.at 0 ?_;(refine Z.cs rfl (fun h3 => ?_) (fun h3 => ?_)))|refine XL.nn ?_)<;>refine X.seq ?_<;>((refine X.cond rfl ?_ ?_;rotate_left;(focus (intro hc;first|exact no_ hc rfl|(refine X.exit ?_)));rotate_right;(focus (intro hc;first|exact no_ hc rfl|(refine X.skip ?_)))))<;>(first|refine Ex.then ?_|refine N.next ?_<;>(refine X.seq ?_<;>(refine X.block ?_<;>((refine X.st (by kernel_rfl) ?_<;>repeat' first|(refine XL.at 0 ?_;(have hil : i < c.m.length := (by omega); (obtain ⟨x, hx⟩ := get_lt hil); have hxi := (hr.mem (List.mem_of_getElem? hx)).1; unfold inE at hxi; have hlt := liveN_top (hr.take i) x.q; have hgx := hG x.q; refine Z.ix i rfl rfl rfl rfl hil (hl.sm (by omega)) ?_))|(refine XL.at 1 ?_;(refine Z.lb rfl rfl rfl (fun w hw j u hu => Rd.ext (hl.conf0 hw) hx j u hu) ?_))|refine XL.alloc rfl rfl rfl (by intro g; infer_instance) (fun g => ?_)|refine XL.store1 rfl rfl rfl rfl rfl ?_|refine XL.storeN rfl rfl rfl rfl rfl rfl ?_|refine XL.storeP rfl rfl rfl rfl rfl rfl ?_|refine XL.nn ?_)<;>refine X.tx (by kernel_rfl) ?_<;>repeat' first|refine Z.p rfl ?_|(refine XL.at 9 ?_;(refine XL.mapSet (getI L x.q + x.n) rfl rfl rfl rfl rfl ?_))|refine Z.fa rfl rfl rfl ?_|refine Z.l1 rfl rfl rfl ?_|refine Z.lN rfl rfl rfl ?_|refine Z.lP rfl rfl rfl ?_|refine Z.lkI rfl rfl rfl ?_|refine Z.lk rfl rfl rfl ?_|refine Z.lkOk rfl rfl rfl ?_|refine Z.g rfl (by omega) ?_|refine Z.w rfl ?_|refine XL.nil ?_)<;>(first|refine N.block ?_|refine Ex.here ?_|refine Ex.out rfl ?_))<;>(first|refine Ex.then ?_|refine N.next ?_<;>(refine X.tx (by kernel_rfl) ?_<;>repeat' first|refine Z.p rfl ?_|refine Z.g rfl (by omega) ?_|refine Z.w rfl ?_|refine XL.nil ?_))))) <;> (first | refine Ex.then ?_ | ((refine N.again ((i + 1, setM L x.q (getI L x.q + x.n))) ?_ ?_ ?_ ?_; (focus (exact ⟨hil, nodup_set _ _ L hN, fun q => by dsimp only; rw [liveN_take hx q]; unfold getI; rw [getM_set]; by_cases hq : q = x.q; (subst hq; rw [if_pos rfl, if_pos rfl, ← hG]; rfl); (rw [if_neg hq, if_neg (Ne.symm hq), ← hG q]; unfold getI; omega), fun q => by dsimp only; rw [key_set, hK, take_snocE hx]; simp only [List.mem_append, List.mem_singleton]; constructor; (rintro (rfl | ⟨y, hy, hq⟩); exact ⟨x, .inr rfl, rfl⟩; exact ⟨y, .inl hy, hq⟩); (rintro ⟨y, hy | rfl, hq⟩; exact .inr ⟨y, hy, hq⟩; exact .inl hq.symm)⟩)); (focus (first | omega | (dsimp only; omega))); (focus (repeat (first | exact Sub.nil | refine Sub.cons rfl ?_))); exact (fun w h => h.takes)))))<;>(first|refine N.block ?_|refine Ex.here ?_|refine Ex.out rfl ?_))<;>(first|refine Ex.then ?_|refine N.next ?_<;>((refine X.st (by kernel_rfl) ?_<;>repeat' first|refine Z.p rfl ?_|refine XL.nn ?_)<;>(apply X.r1 Tryz.results90 (RV.tmp rfl);(focus (exact ⟨gm, L, rfl, hN, fun q => by rw [hG, List.take_of_length_le (by omega)], fun q => by rw [hK, List.take_of_length_le (by omega)], rfl⟩));exact fun _=>Conf.takes))))
end Go.Lx
