/- Own layer, part y: the bytes of a text as an own row ('[]byte(s)'), bearing the model's mark of a conversion. Plain theorems. -/
import Derived.Test.YtkjhepgohacmiaaGreatXl
import Derived.Test.YtkjhepgohacmiaaGreatXr
import Derived.Lib.ConvBytes
namespace Go.Lx
set_option linter.unusedVariables false
set_option linter.unusedSimpArgs false
variable {C : Cx} {A A' B B' : List Assn} {w : World} {Q : Exit → Act → World → Prop} {S : World → Prop} {env : Env} {ops : Array Oper} {r : Sd} {i d : Nat} {o : Oper} {v : Value} {cl : Cl} {x y : Operand} {ty T : TypeId} {pos : String} {af : Array Edge} {gd : Option (Nat × Bool)}

def bytesO (s : Bs) (m : Nat) (e : TypeId) : Obj := .cells (encY s ++ List.replicate m (Value.int .u8 0)).toArray e (s.length + m, s.length + m + 1)
def bytesA (g : Nat) (s : Bs) (m : Nat) (e : TypeId) : Assn := objA g (bytesO s m e)
class BytesAt (A : List Assn) (g : Nat) (s : outParam Bs) (m : outParam Nat) (e : outParam TypeId) (i : outParam Nat) : Prop where at_ : A[i]? = some (bytesA g s m e)
instance {A : List Assn} {g m e : Nat} {s : Bs} : BytesAt (bytesA g s m e :: A) g s m e 0 := ⟨rfl⟩
instance (priority := low) {A : List Assn} {q : Assn} {g m e i : Nat} {s : Bs} [h : BytesAt A g s m e i] : BytesAt (q :: A) g s m e (i + 1) := ⟨by simpa using h.at_⟩

theorem el_some (g k : Nat) : el (some ⟨g, 0, none⟩) k = ⟨g, k, none⟩ := by
  simp only [el, Option.getD_some, Addr.add]
  split <;> simp_all
theorem Conf.bytesObj {g m e : Nat} {s : Bs} [h : BytesAt A g s m e i] (hc : Conf C A w) : w.heap[g]? = some (bytesO s m e) := by
  obtain ⟨F, ⟨h1, _⟩, _⟩ := hc.get h.at_
  exact h1
theorem bytes_cell {g m e j : Nat} {s : Bs} {b : UInt8} (h : w.heap[g]? = some (bytesO s m e)) (hj : s[j]? = some b) : w.cell? ⟨g, j, none⟩ = some (.int .u8 (b.toNat : Int)) := by
  have hl := (List.getElem?_eq_some_iff.1 hj).1
  obtain ⟨_, rfl⟩ := List.getElem?_eq_some_iff.1 hj
  simp [World.cell?, h, bytesO, encY_map, List.getElem?_append, hl]
/-- A byte of them. -/
theorem Conf.byteOf {g m e j : Nat} {s : Bs} {b : UInt8} [h : BytesAt A g s m e i] (hc : Conf C A w) (hj : s[j]? = some b) : w.cell? (el (some ⟨g, 0, none⟩) (j * 1)) = some (.int .u8 (b.toNat : Int)) := by
  rw [el_some, Nat.mul_one]
  exact bytes_cell hc.bytesObj hj
/-- All of them, to be read. -/
theorem Conf.bytesRd {g m e c : Nat} {s : Bs} [h : BytesAt A g s m e i] (hc : Conf C A w) (h1 : s.length ≤ c) (h2 : c ≤ maxLen) : Rd w 1 (some ⟨g, 0, none⟩) s.length c (encY s) :=
  ⟨by rw [encY_len, Nat.mul_one], h1, h2, fun _ => rfl, fun j v hv => by
    rw [encY_map, List.getElem?_map] at hv
    cases hs : s[j]? with
    | none => rw [hs] at hv; cases hv
    | some b =>
      rw [hs] at hv
      cases hv
      rw [el_some]
      exact bytes_cell hc.bytesObj hs⟩
/-- The conversion of a text to bytes. -/
theorem XL.toBytes {s : Bs} {t t2 e : TypeId} (ho : ops[i]? = some ⟨some d, .convert t t2 x, ty, pos, af, gd⟩) (hg : gok ops env ⟨some d, .convert t t2 x, ty, pos, af, gd⟩ = some true) (hdn : Nat.blt d C.n.n = true) (hx : ev env x = some (.string ⟨s.toArray⟩)) [h1 : StrT C.P t] [h2 : SlT C.P t2 e] [h3 : IntT C.P e .u8] (hs : s.length ≤ maxLen)
    (haf : ∀ g m, After cl S C (bytesA g s m e :: A)) (k : ∀ g m, s.length + m ≤ maxLen → XL C ops Q S r ((d, .slice (some ⟨g, 0, none⟩) s.length (s.length + m)) :: env) (bytesA g s m e :: A)) : XL C ops Q S (.op cl i r) env A := by
  refine XL.chg ho hg rfl hdn fun a w he hc => ?_
  have hsz : (⟨s.toArray⟩ : ByteArray).size = s.length := by simp [ByteArray.size]
  have hge := grownCap_ge w s.length 0 e
  have hle := grownCap_le_maxLen w s.length 0 e hs
  obtain ⟨m, hm⟩ : ∃ m, grownCap w s.length 0 e = s.length + m := ⟨grownCap w s.length 0 e - s.length, by omega⟩
  have hrun := Lib.run_convert_string_bytes (P := C.P) w t t2 e ⟨s.toArray⟩ h1.und h2.und h3.und
  rw [hsz, hm] at hrun
  have hcells : Lib.bytesCells w e ⟨s.toArray⟩ = (encY s ++ List.replicate m (Value.int .u8 0)).toArray := by
    unfold Lib.bytesCells
    rw [hsz, hm, Nat.add_sub_cancel_left, encY_map]
    apply Array.ext'
    simp
  have hnew : Conf C (bytesA w.heap.size s m e :: A) (Lib.bytesWorld w e ⟨s.toArray⟩) := by
    refine hc.new rfl rfl rfl (by rw [Lib.bytesWorld_size]; omega) (by simp [Lib.bytesWorld, World.freeze, World.alloc, World.drew, -World.alloc_eq, -World.drew_eq]) (fun b hb => Lib.bytesWorld_at_old w e _ b hb) ⟨fun b => b = w.heap.size, ⟨?_, fun b => Iff.rfl⟩, fun b hb => by rw [hb]; exact Nat.le_refl _⟩
    rw [Lib.bytesWorld_at_new, hcells]
    have : (encY s ++ List.replicate m (Value.int IntKind.u8 0)).length = s.length + m := by rw [List.length_append, encY_len, List.length_replicate]
    unfold bytesO
    simp only [List.size_toArray, this]
  exact ⟨_, _, _, by simp [execOp, he.ev hx, hrun], hnew, haf _ _, k _ _ (by omega)⟩
/-- A store of a byte. -/
theorem XL.storeY {g m e j b i2 : Nat} {s : Bs} {q : UInt8} (ho : ops[i]? = some ⟨none, .store T x y, ty, pos, af, gd⟩) (hg : gok ops env ⟨none, .store T x y, ty, pos, af, gd⟩ = some true) (hx : ev env x = some (.pointer (some (el (some ⟨g, 0, none⟩) (j * 1))))) (hy : ev env y = some (.int .u8 ((b : Nat) : Int))) (hb : q.toNat = b) [hs : Sz C.P T 1] [hl : BytesAt A g s m e i2] (hj : j < s.length)
    [hupd : Upd A i2 (bytesA g (s.set j q) m e) A'] [haf : After cl S C A'] (k : XL C ops Q S r env A') : XL C ops Q S (.op cl i r) env A := by
  refine XL.chg0 ho hg rfl fun a w he hc => ?_
  have hob : w.heap[g]? = some (bytesO s m e) := Conf.bytesObj (h := hl) hc
  have hgl : g < w.heap.size := (Array.getElem?_eq_some_iff.1 hob).1
  have hv := bytes_cell hob (List.getElem?_eq_getElem hj)
  have hfz : w.frozen? ⟨g, j, none⟩ = false := by simp [World.frozen?, hob, bytesO]; omega
  have hst := run_storeCells_cells (P := C.P) g j [Value.int .u8 ((b : Nat) : Int)] 0 w (fun k hk => by
    obtain rfl : k = 0 := by simpa using hk
    simp [hv]) (fun k hk => by
    obtain rfl : k = 0 := by simpa using hk
    simpa using hfz) (fun u hu => by
    obtain rfl := List.mem_singleton.1 hu
    rfl)
  have hc1 : (encY s ++ List.replicate m (Value.int .u8 0)).set j (Value.int .u8 ((b : Nat) : Int)) = encY (s.set j q) ++ List.replicate m (Value.int .u8 0) := by
    rw [List.set_append_left _ _ (by rw [encY_len]; exact hj)]
    congr 1
    rw [encY_map, encY_map, List.map_set, hb]
  have hput : w.setCells g (j + 0) [Value.int .u8 ((b : Nat) : Int)] = w.putObj g (bytesO (s.set j q) m e) := by
    simp only [World.setCells, World.setCell, World.putObj]
    congr 1
    apply Array.ext_getElem?
    intro k
    rw [Array.getElem?_modify, Array.getElem?_setIfInBounds]
    by_cases hk : g = k
    · subst hk
      rw [if_pos rfl, if_pos rfl, if_pos hgl, hob]
      simp [bytesO, hc1]
    · rw [if_neg hk, if_neg hk]
  refine ⟨A', w.putObj g (bytesO (s.set j q) m e), ?_, ?_, haf, k⟩
  · rw [el_some, Nat.mul_one] at hx
    rw [hput] at hst
    simp [execOp, he.ev hx, he.ev hy, Instr.storeAt, Instr.sureAddr, storeVar, hs.run, Value.cells, hst]
  · rw [← hupd.eq]
    refine hc.update hl.at_ rfl rfl rfl (by simp [World.putObj]) (Nat.le_refl _) fun F ⟨h1, h2⟩ => ⟨F, ⟨World.putObj_heap_same hgl, h2⟩, fun b hb => .inl hb, fun k hk hn => ?_⟩
    exact World.putObj_heap_other fun e => hn ((h2 k).2 e)
/-- An operation that reads memory and stands among those that change it. -/
theorem XL.detC (ho : ops[i]? = some o) (hg : gok ops env o = some true) (hd : o.dst = some d) (hdn : Nat.blt d C.n.n = true) (h : Det C (fun w => Conf C A w) env o v) [haf : After cl S C A] (k : XL C ops Q S r ((d, v) :: env) A) : XL C ops Q S (.op cl i r) env A :=
  XL.chg ho hg hd hdn fun a w he hc => ⟨v, A, w, h.go a w he hc, hc, haf, k⟩
end Go.Lx
