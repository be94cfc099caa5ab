/- Own layer, part d: the rules of the operations that change memory (alloc, box, store, make, append), of calls, and of len, min, max, slices, conversions. Plain theorems. -/
import Derived.Test.YtkjhepgohacmiaaGreatXc
import Derived.Laws.Tables
namespace Go.Lx
set_option linter.unusedVariables false
set_option linter.unusedSimpArgs false

/-! ### small classes that reckon with lists -/
class SetAt (cs : List Value) (o : Nat) (v : Value) (cs' : outParam (List Value)) : Prop where
  eq : cs.set o v = cs'
  lt : o < cs.length
instance {a : Value} {cs : List Value} {v : Value} : SetAt (a :: cs) 0 v (v :: cs) := ⟨rfl, by simp⟩
instance {a : Value} {cs cs' : List Value} {o : Nat} {v : Value} [h : SetAt cs o v cs'] : SetAt (a :: cs) (o + 1) v (a :: cs') := ⟨by simp [h.eq], by have := h.lt; simp; omega⟩
class Upd (A : List Assn) (i : Nat) (p : Assn) (A' : outParam (List Assn)) : Prop where eq : A.set i p = A'
instance {q : Assn} {A : List Assn} {p : Assn} : Upd (q :: A) 0 p (p :: A) := ⟨rfl⟩
instance {q : Assn} {A A' : List Assn} {i : Nat} {p : Assn} [h : Upd A i p A'] : Upd (q :: A) (i + 1) p (q :: A') := ⟨by simp [h.eq]⟩
class App (A B : List Assn) (D : outParam (List Assn)) : Prop where eq : A ++ B = D
instance {B : List Assn} : App [] B B := ⟨rfl⟩
instance {p : Assn} {A B D : List Assn} [h : App A B D] : App (p :: A) B (p :: D) := ⟨by simp [h.eq]⟩
class Take (A : List Assn) (p : Assn) (A' : outParam (List Assn)) : Prop where perm : A.Perm (p :: A')
instance {p : Assn} {A : List Assn} : Take (p :: A) p A := ⟨List.Perm.refl _⟩
instance (priority := low) {p q : Assn} {A A' : List Assn} [h : Take A p A'] : Take (q :: A) p (q :: A') := ⟨(List.Perm.cons q h.perm).trans (List.Perm.swap p q A')⟩
class Takes (A B : List Assn) (A' : outParam (List Assn)) : Prop where perm : A.Perm (B ++ A')
instance {A : List Assn} : Takes A [] A := ⟨List.Perm.refl _⟩
instance {A A1 A2 B : List Assn} {p : Assn} [h : Take A p A1] [k : Takes A1 B A2] : Takes A (p :: B) A2 := ⟨h.perm.trans (List.Perm.cons p k.perm)⟩
class Suf (A B : List Assn) : Prop where sub : A.Sublist B
instance {A : List Assn} : Suf A A := ⟨List.Sublist.refl _⟩
instance (priority := low) {p : Assn} {A B : List Assn} [h : Suf A B] : Suf A (p :: B) := ⟨List.Sublist.cons _ h.sub⟩
/-- How an operation that changes memory stands in its region's order. -/
class After (cl : Cl) (S : World → Prop) (C : Cx) (A : List Assn) : Prop where ok : cl = .fin ∨ (cl = .ch ∧ ∀ w, Conf C A w → S w)
instance {S : World → Prop} {C : Cx} {A : List Assn} : After .fin S C A := ⟨.inl rfl⟩
instance {C : Cx} {As A : List Assn} [h : Suf As A] : After .ch (fun w => Conf C As w) C A := ⟨.inr ⟨rfl, fun w hw => hw.sub h.sub⟩⟩

variable {C : Cx} {A A' B B' : List Assn} {w : World} {Q : Exit → Act → World → Prop} {S : World → Prop} {env : Env} {ops : Array Oper} {r : Sd} {i d : Nat} {o : Oper} {v : Value} {cl : Cl}

theorem Conf.takes [h : Takes A B A'] (k : Conf C A w) : Conf C B w := (k.perm h.perm).sub (List.sublist_append_left B A')
theorem Conf.takes2 [h : Takes A B A'] (k : Conf C A w) : Conf C (B ++ A') w := k.perm h.perm
theorem XL.app [h : App A B A'] (k : XL C ops Q S r env A') : XL C ops Q S r env (A ++ B) := by rw [h.eq]; exact k

theorem XL.both {D : List Assn} [h : App A B D] [haf : After cl S C D] (k : XL C ops Q S r env D) : After cl S C (A ++ B) ∧ XL C ops Q S r env (A ++ B) := by rw [h.eq]; exact ⟨haf, k⟩

/-- An operation that yields v and leaves another memory. -/
theorem XL.chg (ho : ops[i]? = some o) (hg : gok ops env o = some true) (hd : o.dst = some d) (hdn : Nat.blt d C.n.n = true)
    (h : ∀ a w, EnvOK C.n env a → Conf C A w → ∃ v A' w', (execOp a.eval o).run C.P w = .ok (.value v) w' ∧ Conf C A' w' ∧ After cl S C A' ∧ XL C ops Q S r ((d, v) :: env) A') : XL C ops Q S (.op cl i r) env A := by
  refine ⟨fun a w he hc => ?_⟩
  obtain ⟨v, A', w', hr, hc', haf, k⟩ := h a w he hc
  have key := k.go _ w' (he.put hdn v) hc'
  rcases haf.ok with rfl | ⟨rfl, hS⟩
  · unfold wpT wpOp
    simp only [ho, gok_wanted hg he, if_true, Oper.wp, hr, Oper.upon, hd]
    exact .inl key
  · unfold wpT wpOp
    simp only [ho, gok_wanted hg he, if_true, Oper.wp, hr, Oper.upon, hd]
    exact .inl ⟨hS w' hc', key⟩

theorem XL.skipC (ho : ops[i]? = some o) (hg : gok ops env o = some false) (hd : o.dst = some d) (hdn : Nat.blt d C.n.n = true) [haf : After .ch S C A] (k : XL C ops Q S r ((d, undef) :: env) A) : XL C ops Q S (.op .ch i r) env A :=
  ⟨fun a w he hc => by
    unfold wpT wpOp
    simp only [ho, gok_wanted hg he, Bool.false_eq_true, if_false, hd]
    exact ⟨(haf.ok.resolve_left (by simp)).2 w hc, k.go _ w (he.put hdn undef) hc⟩⟩

/-- An operation without a value. -/
theorem XL.chg0 (ho : ops[i]? = some o) (hg : gok ops env o = some true) (hd : o.dst = none)
    (h : ∀ a w, EnvOK C.n env a → Conf C A w → ∃ A' w', (execOp a.eval o).run C.P w = .ok .skip w' ∧ Conf C A' w' ∧ After cl S C A' ∧ XL C ops Q S r env A') : XL C ops Q S (.op cl i r) env A := by
  refine ⟨fun a w he hc => ?_⟩
  obtain ⟨A', w', hr, hc', haf, k⟩ := h a w he hc
  have key := k.go _ w' he hc'
  rcases haf.ok with rfl | ⟨rfl, hS⟩
  · unfold wpT wpOp
    simp only [ho, gok_wanted hg he, if_true, Oper.wp, hr, Oper.upon, hd]
    exact .inl key
  · unfold wpT wpOp
    simp only [ho, gok_wanted hg he, if_true, Oper.wp, hr, Oper.upon, hd]
    exact .inl ⟨hS w' hc', key⟩

theorem Conf.alloc (h : Conf C A w) (cs : List Value) (T : TypeId) : Conf C (cells w.heap.size cs T :: A) (w.alloc (.cells cs.toArray T)) :=
  h.new rfl rfl rfl (by simp) (Nat.le_refl _) (fun b hb => Below.heap_alloc_old w _ b hb) ⟨fun b => b = w.heap.size, ⟨heap_alloc_new w _, fun b => Iff.rfl⟩, fun b hb => by rw [hb]; exact Nat.le_refl _⟩
where
  Below.heap_alloc_old (w : World) (o : Obj) (k : Nat) (h : k < w.heap.size) : (w.alloc o).heap[k]? = w.heap[k]? := RowKit.Below.heap_alloc w o k h

section
variable {ty T : TypeId} {pos : String} {af : Array Edge} {gd : Option (Nat × Bool)} {x y : Operand}

class Zc (P : Program) (t : TypeId) (cs : outParam (List Value)) : Prop where run : ∃ z, (∀ w, (zeroValue t).run P w = .ok z w) ∧ z.cells = cs.toArray
theorem Zc.mk' {P : Program} {t : Nat} {z : Value} {cs : List Value} (h : ((P.info? t).bind (·.zero)) = some z) (hz : z.cells = cs.toArray) : Zc P t cs := ⟨z, (Zr.mk' h).run, hz⟩

/-- A new variable. -/
theorem XL.alloc {cs : List Value} (ho : ops[i]? = some ⟨some d, .alloc T, ty, pos, af, gd⟩) (hg : gok ops env ⟨some d, .alloc T, ty, pos, af, gd⟩ = some true) (hdn : Nat.blt d C.n.n = true) [hz : Zc C.P T cs] (haf : ∀ g, After cl S C (cells g cs T :: A) := by intro g; infer_instance)
    (k : ∀ g, XL C ops Q S r ((d, .pointer (some ⟨g, 0, none⟩)) :: env) (cells g cs T :: A)) : XL C ops Q S (.op cl i r) env A := by
  refine XL.chg ho hg rfl hdn fun a w he hc => ?_
  obtain ⟨z, hrun, hcs⟩ := hz.run
  refine ⟨_, _, _, ?_, hc.alloc cs T, haf _, k _⟩
  simp [execOp, Instr.alloc, hrun, newVar, newRow, hcs]

/-- A new variable with a value of one cell. -/
theorem XL.box1 {u : Value} (ho : ops[i]? = some ⟨some d, .box T x, ty, pos, af, gd⟩) (hg : gok ops env ⟨some d, .box T x, ty, pos, af, gd⟩ = some true) (hdn : Nat.blt d C.n.n = true) (hx : ev env x = some u) (hu : u.oneCell' = true) (haf : ∀ g, After cl S C (cells g [u] T :: A) := by intro g; infer_instance)
    (k : ∀ g, XL C ops Q S r ((d, .pointer (some ⟨g, 0, none⟩)) :: env) (cells g [u] T :: A)) : XL C ops Q S (.op cl i r) env A := by
  refine XL.chg ho hg rfl hdn fun a w he hc => ?_
  refine ⟨_, _, _, ?_, hc.alloc [u] T, haf _, k _⟩
  have : u.cells = #[u] := by cases u <;> first | rfl | cases hu
  simp [execOp, he.ev hx, Instr.box, newVar, newRow, this]
/-- A new variable with a struct's value. -/
theorem XL.boxN {cs : List Value} (ho : ops[i]? = some ⟨some d, .box T x, ty, pos, af, gd⟩) (hg : gok ops env ⟨some d, .box T x, ty, pos, af, gd⟩ = some true) (hdn : Nat.blt d C.n.n = true) (hx : ev env x = some (.agg cs.toArray)) (haf : ∀ g, After cl S C (cells g cs T :: A) := by intro g; infer_instance)
    (k : ∀ g, XL C ops Q S r ((d, .pointer (some ⟨g, 0, none⟩)) :: env) (cells g cs T :: A)) : XL C ops Q S (.op cl i r) env A := by
  refine XL.chg ho hg rfl hdn fun a w he hc => ?_
  refine ⟨_, _, _, ?_, hc.alloc cs T, haf _, k _⟩
  simp [execOp, he.ev hx, Instr.box, newVar, newRow, Value.cells]

theorem setRow_other (w : World) (g : Nat) (cur : Array Value) (b : Nat) (h : b ≠ g) : (w.setRow g cur).heap[b]? = w.heap[b]? := by
  simp only [World.setRow, Array.getElem?_modify]
  rw [if_neg (Ne.symm h)]

theorem Conf.setRow {g T : Nat} {cs cs' : List Value} (h : Conf C A w) (hi : A[i]? = some (cells g cs T)) : Conf C (A.set i (cells g cs' T)) (w.setRow g cs'.toArray) := by
  refine h.update hi rfl rfl rfl (by simp [World.setRow]) (Nat.le_refl _) fun F ⟨hF1, hF2⟩ => ⟨F, ⟨setRow_heap w g _ _ T _ hF1, hF2⟩, fun b hb => .inl hb, fun b hb hn => setRow_other w g _ b (fun e => hn ((hF2 b).2 e))⟩

theorem list_set_parts (cs : List Value) (o : Nat) (v : Value) (h : o < cs.length) : cs.take o ++ [v] ++ cs.drop (o + 1) = cs.set o v := by
  rw [List.set_eq_take_append_cons_drop, if_pos h]
  simp

/-- A store of one cell into a block that is told. -/
theorem XL.store1 {g k0 T' : Nat} {cs cs' : List Value} {u : Value} {j : Nat} (ho : ops[i]? = some ⟨none, .store T x y, ty, pos, af, gd⟩) (hg : gok ops env ⟨none, .store T x y, ty, pos, af, gd⟩ = some true) (hx : ev env x = some (.pointer (some ⟨g, k0, none⟩))) (hy : ev env y = some u) (hu : u.oneCell' = true) [hs : Sz C.P T 1]
    [hl : Loc A g cs T' j] [hset : SetAt cs k0 u cs'] [hupd : Upd A j (cells g cs' T') A'] [haf : After cl S C A'] (k : XL C ops Q S r env A') : XL C ops Q S (.op cl i r) env A := by
  refine XL.chg0 ho hg rfl fun a w he hc => ?_
  have hk' : k0 < cs.length := hset.lt
  have h1 : u.cells = #[u] := by cases u <;> first | rfl | cases hu
  have hst := run_storeCells_at C.P g k0 T' [u] 0 cs.toArray w (hc.loc hl.at_) (by simp; omega) (by simp [hu])
  refine ⟨A', w.setRow g cs'.toArray, ?_, ?_, haf, k⟩
  rotate_left
  · rw [← hupd.eq]
    exact hc.setRow hl.at_
  · have e : cs.take k0 ++ [u] ++ cs.drop (k0 + 1) = cs.set k0 u := list_set_parts cs k0 u hk'
    simp only [Nat.add_zero, List.length_cons, List.length_nil, Nat.zero_add] at hst
    rw [e, hset.eq] at hst
    simp [execOp, he.ev hx, he.ev hy, Instr.storeAt, Instr.sureAddr, storeVar, h1, hs.run, hst]

/-- A store of a whole struct into a block that is told, from its first cell to its last. -/
theorem XL.storeN {g T' sz : Nat} {cs cs' : List Value} {j : Nat} (ho : ops[i]? = some ⟨none, .store T x y, ty, pos, af, gd⟩) (hg : gok ops env ⟨none, .store T x y, ty, pos, af, gd⟩ = some true) (hx : ev env x = some (.pointer (some ⟨g, 0, none⟩))) (hy : ev env y = some (.agg cs'.toArray)) [hs : Sz C.P T sz] (hu : cs'.all (·.oneCell') = true) (hlen : (cs'.length == sz && cs.length == sz) = true)
    [hl : Loc A g cs T' j] [hupd : Upd A j (cells g cs' T') A'] [haf : After cl S C A'] (k : XL C ops Q S r env A') : XL C ops Q S (.op cl i r) env A := by
  refine XL.chg0 ho hg rfl fun a w he hc => ?_
  obtain ⟨h1, h2⟩ : cs'.length = sz ∧ cs.length = sz := by simpa using hlen
  have hst := run_storeCells_at C.P g 0 T' cs' 0 cs.toArray w (hc.loc hl.at_) (by simp; omega) (by simpa using hu)
  refine ⟨A', w.setRow g cs'.toArray, ?_, ?_, haf, k⟩
  rotate_left
  · rw [← hupd.eq]
    exact hc.setRow hl.at_
  · have e : cs.drop (0 + 0 + cs'.length) = [] := by simp; omega
    simp only [Nat.add_zero, Nat.zero_add, List.take_zero, List.nil_append] at hst e
    rw [e, List.append_nil] at hst
    simp [execOp, he.ev hx, he.ev hy, Instr.storeAt, Instr.sureAddr, storeVar, Value.cells, hs.run, h1, hst]

/-! ### slices of literals, append -/
theorem fold_put : ∀ (l : List Value) (k : Nat) (acc : Array Value), acc.size = k + l.length → (l.zipIdx k).foldl (fun cs (x : Value × Nat) => cs.setIfInBounds x.2 x.1) acc = (acc.toList.take k ++ l).toArray
  | [], k, acc, h => by simp at h; apply Array.ext'; simp [← h, List.take_of_length_le]
  | a :: l, k, acc, h => by
    simp only [List.length_cons] at h
    have ih := fold_put l (k + 1) (acc.setIfInBounds k a) (by simp; omega)
    simp only [List.zipIdx_cons, List.foldl_cons]
    rw [ih]
    apply Array.ext'
    simp only [Array.toList_setIfInBounds]
    have hk : k < acc.toList.length := by simp; omega
    rw [List.take_add_one, List.take_set_of_le (Nat.le_refl k), List.getElem?_set_self hk]
    simp

theorem run_fill1 {sz : Nat} {v : Value} {cs : List Value} {z : Array Value} (hv : v.cells = cs.toArray) (hl : cs.length = sz) (hz : z.size = sz) : Instr.fill (fun i => some (i * sz, sz)) z [(0, v)] = some cs.toArray := by
  have h1 : ¬ ((cs.toArray.size ≠ sz || decide (0 + cs.toArray.size > z.size)) = true) := by simp; omega
  simp only [Instr.fill, hv, Nat.zero_mul, if_neg h1]
  have := fold_put cs 0 z (by omega)
  simp only [Nat.zero_add]
  congr 1
  rw [← Array.foldl_toList]
  simpa using this

/-- A slice literal; its cells are told and held against the model's own 'fill'. -/
theorem XL.buildSlice {len e sz : Nat} {parts : Array (Nat × Operand)} {vs : List (Nat × Value)} (cs : List Value) (ho : ops[i]? = some ⟨some d, .buildSlice T len parts, ty, pos, af, gd⟩) (hg : gok ops env ⟨some d, .buildSlice T len parts, ty, pos, af, gd⟩ = some true) (hdn : Nat.blt d C.n.n = true)
    [ht : SlT C.P T e] [hs : Sz C.P e sz] {zs : List Value} [hz : Zc C.P e zs] (hv : evps env parts.toList = some vs) (hsm : (decide (len * sz ≤ 2 ^ 24) && !(len * sz == 0)) = true)
    (hf : Instr.fill (fun i => some (i * sz, sz)) ((Array.range (len * sz)).map (zs.toArray[· % zs.toArray.size]!)) vs = some cs.toArray) (haf : ∀ g, After cl S C (cells g cs e :: A) := by intro g; infer_instance)
    (k : ∀ g, XL C ops Q S r ((d, .slice (some ⟨g, 0, none⟩) len len) :: env) (cells g cs e :: A)) : XL C ops Q S (.op cl i r) env A := by
  refine XL.chg ho hg rfl hdn fun a w he hc => ?_
  obtain ⟨z, hrun, hcs⟩ := hz.run
  refine ⟨_, _, _, ?_, hc.alloc cs e, haf _, k _⟩
  obtain ⟨h1, h2⟩ : len * sz ≤ 2 ^ 24 ∧ ¬ len * sz = 0 := by simpa using hsm
  have h1' : ¬ len * sz > 2 ^ 24 := by omega
  have hp : List.map (fun x => (x.1, a.eval x.2)) parts.toList = vs := by
    exact he.evps _ _ hv
  simp only [execOp]
  have hrun2 : (Instr.buildSlice T len (parts.map fun (i, x) => (i, a.eval x))).run C.P w = .ok (.slice (some ⟨w.heap.size, 0, none⟩) len len) (w.alloc (.cells cs.toArray e)) := by
    simp [Instr.buildSlice, run_underlying ht.und, hs.run, h1', h2, hrun, hcs, newRow]
    rw [hp]
    simp at hf
    simp [hf]
  simp [hrun2]

/-- A slice literal of one element. -/
theorem XL.slice1 {e sz : Nat} {x : Operand} {v : Value} {cs : List Value} (ho : ops[i]? = some ⟨some d, .buildSlice T 1 #[(0, x)], ty, pos, af, gd⟩) (hg : gok ops env ⟨some d, .buildSlice T 1 #[(0, x)], ty, pos, af, gd⟩ = some true) (hdn : Nat.blt d C.n.n = true)
    [ht : SlT C.P T e] [hs : Sz C.P e sz] {zs : List Value} [hz : Zc C.P e zs] (hv : ev env x = some v) (hvc : v.cells = cs.toArray) (hsm : (cs.length == sz && decide (sz ≤ 1000) && !(sz == 0)) = true) (haf : ∀ g, After cl S C (cells g cs e :: A) := by intro g; infer_instance)
    (k : ∀ g, XL C ops Q S r ((d, .slice (some ⟨g, 0, none⟩) 1 1) :: env) (cells g cs e :: A)) : XL C ops Q S (.op cl i r) env A := by
  obtain ⟨⟨h1, h2⟩, h3⟩ : (cs.length = sz ∧ sz ≤ 1000) ∧ ¬ sz = 0 := by simpa using hsm
  refine XL.buildSlice (vs := [(0, v)]) cs ho hg hdn (by simp [evps, hv]) (by simp; omega) ?_ haf k
  exact run_fill1 hvc h1 (by simp)

/-! ### calls -/
/-- A call by its contract: it is given the blocks of B, and leaves those that R tells. -/
theorem XL.callG {f : FuncId} {args : Array Operand} {ats : Array TypeId} {fx : Operand} {fs cps vs : List Value} {R : Value → List Assn → Prop} {ds : Option Nat} (ho : ops[i]? = some ⟨ds, .call ⟨.value fx, args, ats⟩, ty, pos, af, gd⟩) (hg : gok ops env ⟨ds, .call ⟨.value fx, args, ats⟩, ty, pos, af, gd⟩ = some true)
    (hf : ev env fx = some (.func (.func f) fs.toArray cps.toArray)) (hargs : evs env args.toList = some vs) [hent : Enters C.P f]
    (hspec : ∀ w F, Sep B w F → Conf C (B ++ A) w → Spec C.P f (fs ++ vs ++ cps).toArray w F R)
    (k : ∀ v B', R v B' → (∀ d, ds = some d → Nat.blt d C.n.n = true) ∧ After cl S C (B' ++ A) ∧ XL C ops Q S r (match ds with | some d => (d, v) :: env | none => env) (B' ++ A)) : XL C ops Q S (.op cl i r) env (B ++ A) := by
  refine ⟨fun a w he hc => ?_⟩
  have hargs' : args.map a.eval = vs.toArray := by
    apply Array.ext'
    rw [Array.toList_map]
    exact he.evs _ _ hargs
  have hrun : (execOp a.eval ⟨ds, .call ⟨.value fx, args, ats⟩, ty, pos, af, gd⟩).run C.P w = .ok (.enter f (fs ++ vs ++ cps).toArray) w := by
    simp [execOp, resolve, he.ev hf, hargs', Deferred.ofValue, invoke, hent.run]
  obtain ⟨F, s, hF⟩ := hc.sep
  obtain ⟨F1, F2, s1, s2, hd, hFF⟩ := s.split
  have hsp := hspec w F1 s1 hc
  have hall : ∀ K : Value → World → Prop, (∀ v B' w', R v B' → Conf C (B' ++ A) w' → K v w') → Calls C.P f (fs ++ vs ++ cps).toArray w fun
      | .returned v, w'' => K v w''
      | .panicked chain, w'' => Q (.panic chain) a w''
      | .outgrown, _ => LetsOut Q := by
    intro K hK
    refine Calls.mono hsp ?_
    rintro e w' ⟨v, B', rfl, hR, hcf⟩
    refine hK v B' w' hR ?_
    -- the frame
    obtain ⟨G, g, gF⟩ := hcf.sep
    have hd2 : ∀ b, F2 b → b < w.heap.size := fun b hb => Sep.dom s2 hb
    refine ⟨hcf.os.trans hc.os, hcf.tape.trans hc.tape, hcf.output.trans hc.output, Nat.le_trans hc.size hcf.size, Nat.le_trans hc.drawn hcf.drawn, fun b hb hH => ?_, fun b => G b ∨ F2 b, Sep.append g (s2.loc fun b hb => hcf.keep b (hd2 b hb) (fun h1 => hd b h1 hb)) ?_, ?_⟩
    · rw [hcf.keep b (Nat.lt_of_lt_of_le hb hc.size) (fun h1 => ?_), hc.keep b hb hH]
      rcases hF b ((hFF b).2 (.inl h1)) with h2 | h2
      · exact hH h2
      · omega
    · intro b hb hb2
      rcases gF b hb with h1 | h1
      · exact hd b h1 hb2
      · have := hd2 b hb2
        simp only at h1
        omega
    · rintro b (hb | hb)
      · rcases gF b hb with h1 | h1
        · exact hF b ((hFF b).2 (.inl h1))
        · exact .inr (Nat.le_trans hc.size h1)
      · exact hF b ((hFF b).2 (.inr hb))
  have fin : wpOp C.P ops Q i (fun a' w' => (cl = .fin ∨ S w') ∧ wpT C.P ops Q S r a' w') a w := by
    unfold wpOp
    simp only [ho, gok_wanted hg he, if_true, Oper.wp, hrun, Oper.upon]
    refine .inl (hall _ fun v B' w' hR hcw => ?_)
    obtain ⟨hdn, haf, hk⟩ := k v B' hR
    refine ⟨?_, ?_⟩
    · rcases haf.ok with h | ⟨_, h⟩
      · exact .inl h
      · exact .inr (h w' hcw)
    · cases ds with
      | none => exact hk.go _ w' he hcw
      | some d => exact hk.go _ w' (he.put (hdn d rfl) v) hcw
  have hcl : cl = .fin ∨ cl = .ch := by
    obtain ⟨e, w', fr, hR, _⟩ := hsp []
    obtain ⟨v, B', _, hR, _⟩ := hR
    rcases (k v B' hR).2.1.ok with h | ⟨h, _⟩
    · exact .inl h
    · exact .inr h
  rcases hcl with rfl | rfl
  · exact wpOp_mono (fun a' w' h => h.2) fin
  · exact wpOp_mono (fun a' w' h => ⟨h.1.resolve_left (by simp), h.2⟩) fin

/-- A call of a function by its name, that only makes memory. -/
theorem XL.call {f : FuncId} {args : Array Operand} {ats : Array TypeId} {vs : List Value} {R : Value → List Assn → Prop} (ho : ops[i]? = some ⟨some d, .call ⟨.value (.func f), args, ats⟩, ty, pos, af, gd⟩) (hg : gok ops env ⟨some d, .call ⟨.value (.func f), args, ats⟩, ty, pos, af, gd⟩ = some true) (hdn : Nat.blt d C.n.n = true)
    (hargs : evs env args.toList = some vs) [hent : Enters C.P f]
    (hspec : ∀ w, Conf C A w → Spec C.P f vs.toArray w (fun _ => False) R)
    (k : ∀ v B', R v B' → After cl S C (B' ++ A) ∧ XL C ops Q S r ((d, v) :: env) (B' ++ A)) : XL C ops Q S (.op cl i r) env A := by
  refine XL.callG (B := []) (fs := []) (cps := []) (f := f) (ds := some d) ho hg rfl hargs ?_ (fun v B' hR => ⟨fun d' h => (by cases h; exact hdn), k v B' hR⟩)
  intro w F hF hc
  have : F = fun _ => False := by funext b; have := hF b; simp [this]
  subst this
  simpa using hspec w hc

/-- A call of a function by its name, that is given the blocks of B. -/
theorem XL.callH {f : FuncId} {args : Array Operand} {ats : Array TypeId} {vs : List Value} {R : Value → List Assn → Prop} (B : List Assn) (ho : ops[i]? = some ⟨some d, .call ⟨.value (.func f), args, ats⟩, ty, pos, af, gd⟩) (hg : gok ops env ⟨some d, .call ⟨.value (.func f), args, ats⟩, ty, pos, af, gd⟩ = some true) (hdn : Nat.blt d C.n.n = true)
    (hargs : evs env args.toList = some vs) [hent : Enters C.P f] [ht : Takes A B A']
    (hspec : ∀ w F, Sep B w F → Conf C (B ++ A') w → Spec C.P f vs.toArray w F R)
    (k : ∀ v B', R v B' → After cl S C (B' ++ A') ∧ XL C ops Q S r ((d, v) :: env) (B' ++ A')) : XL C ops Q S (.op cl i r) env A := by
  refine XL.mem (B := B ++ A') (fun w h => h.takes2) ?_
  refine XL.callG (B := B) (fs := []) (cps := []) (f := f) (ds := some d) ho hg rfl hargs ?_ (fun v B' hR => ⟨fun d' h => (by cases h; exact hdn), k v B' hR⟩)
  intro w F hF hc
  simpa using hspec w F hF hc

/-- A call of a closure, that only makes memory. -/
theorem XL.callV {f : FuncId} {args : Array Operand} {ats : Array TypeId} {fx : Operand} {fs cps vs : List Value} {R : Value → List Assn → Prop} (ho : ops[i]? = some ⟨some d, .call ⟨.value fx, args, ats⟩, ty, pos, af, gd⟩) (hg : gok ops env ⟨some d, .call ⟨.value fx, args, ats⟩, ty, pos, af, gd⟩ = some true) (hdn : Nat.blt d C.n.n = true)
    (hf : ev env fx = some (.func (.func f) fs.toArray cps.toArray)) (hargs : evs env args.toList = some vs) [hent : Enters C.P f]
    (hspec : ∀ w, Conf C A w → Spec C.P f (fs ++ vs ++ cps).toArray w (fun _ => False) R)
    (k : ∀ v B', R v B' → After cl S C (B' ++ A) ∧ XL C ops Q S r ((d, v) :: env) (B' ++ A)) : XL C ops Q S (.op cl i r) env A := by
  refine XL.callG (B := []) (f := f) (ds := some d) ho hg hf hargs ?_ (fun v B' hR => ⟨fun d' h => (by cases h; exact hdn), k v B' hR⟩)
  intro w F hF hc
  have : F = fun _ => False := by funext b; have := hF b; simp [this]
  subst this
  exact hspec w hc

/-! ### builtins that only yield -/
theorem D.len {W : World → Prop} {t e n c : Nat} {ad : Option Addr} [h : SlT C.P t e] (hx : ev env x = some (.slice ad n c)) : Det C W env ⟨some d, .call ⟨.builtin .len, #[x], #[t]⟩, ty, pos, af, gd⟩ (.int .i64 n) := ⟨fun a w he _ => by
  simp [execOp, resolve, invoke, builtin, Builtin.len_, he.ev hx, run_underlying h.und, goInt]⟩
theorem D.lenS {W : World → Prop} {t : Nat} {s : ByteArray} [h : StrT C.P t] (hx : ev env x = some (.string s)) : Det C W env ⟨some d, .call ⟨.builtin .len, #[x], #[t]⟩, ty, pos, af, gd⟩ (.int .i64 s.size) := ⟨fun a w he _ => by
  simp [execOp, resolve, invoke, builtin, Builtin.len_, he.ev hx, run_underlying h.und, goInt]⟩
theorem D.min2 {W : World → Prop} {ats : Array TypeId} {k k' : IntKind} {a b : Int} (hx : ev env x = some (.int k a)) (hy : ev env y = some (.int k' b)) : Det C W env ⟨some d, .call ⟨.builtin .min, #[x, y], ats⟩, ty, pos, af, gd⟩ (.int k (min a b)) := ⟨fun ac w he _ => by
  have e : (if b < a then b else a) = min a b := by rw [Int.min_def]; split <;> split <;> omega
  simp [execOp, resolve, invoke, builtin, Builtin.min_, Builtin.min2, he.ev hx, he.ev hy, e]⟩
theorem D.max2 {W : World → Prop} {ats : Array TypeId} {k k' : IntKind} {a b : Int} (hx : ev env x = some (.int k a)) (hy : ev env y = some (.int k' b)) : Det C W env ⟨some d, .call ⟨.builtin .max, #[x, y], ats⟩, ty, pos, af, gd⟩ (.int k (max a b)) := ⟨fun ac w he _ => by
  have e : (if b > a then b else a) = max a b := by rw [Int.max_def]; split <;> split <;> omega
  simp [execOp, resolve, invoke, builtin, Builtin.max_, Builtin.max2, he.ev hx, he.ev hy, e]⟩
end
end Go.Lx
