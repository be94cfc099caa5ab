/- Own layer, part o: a struct is stored into a struct. Plain theorems. -/
import Derived.Test.YtkjhepgohacmiaaGreatXi
namespace Go.Lx
set_option linter.unusedVariables false
set_option linter.unusedSimpArgs false

class Sets (cs : List Value) (o : Nat) (us : List Value) (cs' : outParam (List Value)) : Prop where
  eq : cs.take o ++ us ++ cs.drop (o + us.length) = cs'
  le : o + us.length ≤ cs.length
instance {cs : List Value} : Sets cs 0 [] cs := ⟨by simp, by simp⟩
instance {a u : Value} {cs us cs' : List Value} [h : Sets cs 0 us cs'] : Sets (a :: cs) 0 (u :: us) (u :: cs') := ⟨by have := h.eq; simp only [List.take_zero, List.nil_append, Nat.zero_add, List.length_cons, List.drop_succ_cons, List.cons_append] at this ⊢; rw [this], by have := h.le; simp only [List.length_cons] at *; omega⟩
instance {a : Value} {cs us cs' : List Value} {o : Nat} [h : Sets cs o us cs'] : Sets (a :: cs) (o + 1) us (a :: cs') := ⟨by have := h.eq; rw [show o + 1 + us.length = (o + us.length) + 1 by omega]; simp only [List.take_succ_cons, List.drop_succ_cons, List.cons_append, this], by have := h.le; simp only [List.length_cons]; omega⟩

variable {C : Cx} {A A' : List Assn} {Q : Exit → Act → World → Prop} {S : World → Prop} {env : Env} {ops : Array Oper} {r : Sd} {i : Nat} {cl : Cl}
variable {ty T : TypeId} {pos : String} {af : Array Edge} {gd : Option (Nat × Bool)} {x y : Operand}

/-- A store of a struct into a part of a block that is told. -/
theorem XL.storeP {g k0 T' sz : Nat} {cs us cs' : List Value} {j : Nat} (ho : ops[i]? = some ⟨none, .store T x y, ty, pos, af, gd⟩) (hg : gok ops env ⟨none, .store T x y, ty, pos, af, gd⟩ = some true) (hx : ev env x = some (.pointer (some ⟨g, k0, none⟩))) (hy : ev env y = some (.agg us.toArray)) [hs : Sz C.P T sz] (hu : us.all (·.oneCell') = true) (hlen : (us.length == sz) = true)
    [hl : Loc A g cs T' j] [hset : Sets cs k0 us cs'] [hupd : Upd A j (cells g cs' T') A'] [haf : After cl S C A'] (k : XL C ops Q S r env A') : XL C ops Q S (.op cl i r) env A := by
  refine XL.chg0 ho hg rfl fun a w he hc => ?_
  have h1 : us.length = sz := by simpa using hlen
  have hst := run_storeCells_at C.P g k0 T' us 0 cs.toArray w (hc.loc hl.at_) (by have := hset.le; simpa using this) (by simpa using hu)
  refine ⟨A', w.setRow g cs'.toArray, ?_, ?_, haf, k⟩
  rotate_left
  · rw [← hupd.eq]
    exact hc.setRow hl.at_
  · simp only [Nat.add_zero] at hst
    rw [hset.eq] at hst
    simp [execOp, he.ev hx, he.ev hy, Instr.storeAt, Instr.sureAddr, storeVar, Value.cells, hs.run, h1, hst]
/-- A region that draws its order, of whose beginning only a part is kept in mind. -/
theorem X.drawS {ops : Array Oper} {id : Nat} [hQ : NoPanic Q] (As : List Assn) (hAs : ∀ w, Conf C A w → Conf C As w) (σ : Sd) (hm : C.P.follows .mixedOrders = true) (hok : (noDefer ops && schedOk ops σ) = true) (h : XL C ops Q (fun w => Conf C As w) σ env A) : X C (.region id ops true) Q env A :=
  ⟨fun a w he hc => wpIn_region_draw fun t => by
    simp only [Bool.and_eq_true] at hok
    exact wpOpsIn_of hok.1 _ _ _ (wpOps_draw σ hm hok.2 hQ.out (hAs _ hc.drew) (h.go a w.drew he hc.drew) t)⟩
end Go.Lx
