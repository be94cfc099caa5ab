/- ManiBack. -/
import Derived.Test.YtlbcedllbobpaaaMt
import Derived.Test.YtlbcedllbobpaaaXr
import Derived.Lib.ConvBytes
namespace Go.Lx
set_option linter.unusedVariables false
set_option linter.unusedSimpArgs false
/-! The text Xy, pasted: a claim has at most 60 files. -/
section
variable {C : Cx} {A A' B B' : List Assn} {w : World} {Q : Exit → Act → World → Prop} {S : World → Prop} {env : Env} {ops : Array Oper} {r : Sd} {i d : Nat} {o : Oper} {v : Value} {cl : Cl} {x y : Operand} {ty T : TypeId} {pos : String} {af : Array Edge} {gd : Option (Nat × Bool)}

def bytesO (s : Bs) (m : Nat) (e : TypeId) : Obj := .cells (encY s ++ List.replicate m (Value.int .u8 0)).toArray e (s.length + m, s.length + m + 1)
def bytesA (g : Nat) (s : Bs) (m : Nat) (e : TypeId) : Assn := objA g (bytesO s m e)
class BytesAt (A : List Assn) (g : Nat) (s : outParam Bs) (m : outParam Nat) (e : outParam TypeId) (i : outParam Nat) : Prop where at_ : A[i]? = some (bytesA g s m e)
instance {A : List Assn} {g m e : Nat} {s : Bs} : BytesAt (bytesA g s m e :: A) g s m e 0 := ⟨rfl⟩
instance (priority := low) {A : List Assn} {q : Assn} {g m e i : Nat} {s : Bs} [h : BytesAt A g s m e i] : BytesAt (q :: A) g s m e (i + 1) := ⟨by simpa using h.at_⟩

theorem el_some (g k : Nat) : el (some ⟨g, 0, none⟩) k = ⟨g, k, none⟩ := by
  simp only [el, Option.getD_some, Addr.add]
  split <;> simp_all
theorem Conf.bytesObj {g m e : Nat} {s : Bs} [h : BytesAt A g s m e i] (hc : Conf C A w) : w.heap[g]? = some (bytesO s m e) := by
  obtain ⟨F, ⟨h1, _⟩, _⟩ := hc.get h.at_
  exact h1
theorem bytes_cell {g m e j : Nat} {s : Bs} {b : UInt8} (h : w.heap[g]? = some (bytesO s m e)) (hj : s[j]? = some b) : w.cell? ⟨g, j, none⟩ = some (.int .u8 (b.toNat : Int)) := by
  have hl := (List.getElem?_eq_some_iff.1 hj).1
  obtain ⟨_, rfl⟩ := List.getElem?_eq_some_iff.1 hj
  simp [World.cell?, h, bytesO, encY_map, List.getElem?_append, hl]
/-- A byte of them. -/
theorem Conf.byteOf {g m e j : Nat} {s : Bs} {b : UInt8} [h : BytesAt A g s m e i] (hc : Conf C A w) (hj : s[j]? = some b) : w.cell? (el (some ⟨g, 0, none⟩) (j * 1)) = some (.int .u8 (b.toNat : Int)) := by
  rw [el_some, Nat.mul_one]
  exact bytes_cell hc.bytesObj hj
/-- All of them, to be read. -/
theorem Conf.bytesRd {g m e c : Nat} {s : Bs} [h : BytesAt A g s m e i] (hc : Conf C A w) (h1 : s.length ≤ c) (h2 : c ≤ maxLen) : Rd w 1 (some ⟨g, 0, none⟩) s.length c (encY s) :=
  ⟨by rw [encY_len, Nat.mul_one], h1, h2, fun _ => rfl, fun j v hv => by
    rw [encY_map, List.getElem?_map] at hv
    cases hs : s[j]? with
    | none => rw [hs] at hv; cases hv
    | some b =>
      rw [hs] at hv
      cases hv
      rw [el_some]
      exact bytes_cell hc.bytesObj hs⟩
/-- The conversion of a text to bytes. -/
theorem XL.toBytes {s : Bs} {t t2 e : TypeId} (ho : ops[i]? = some ⟨some d, .convert t t2 x, ty, pos, af, gd⟩) (hg : gok ops env ⟨some d, .convert t t2 x, ty, pos, af, gd⟩ = some true) (hdn : Nat.blt d C.n.n = true) (hx : ev env x = some (.string ⟨s.toArray⟩)) [h1 : StrT C.P t] [h2 : SlT C.P t2 e] [h3 : IntT C.P e .u8] (hs : s.length ≤ maxLen)
    (haf : ∀ g m, After cl S C (bytesA g s m e :: A)) (k : ∀ g m, s.length + m ≤ maxLen → XL C ops Q S r ((d, .slice (some ⟨g, 0, none⟩) s.length (s.length + m)) :: env) (bytesA g s m e :: A)) : XL C ops Q S (.op cl i r) env A := by
  refine XL.chg ho hg rfl hdn fun a w he hc => ?_
  have hsz : (⟨s.toArray⟩ : ByteArray).size = s.length := by simp [ByteArray.size]
  have hge := grownCap_ge w s.length 0 e
  have hle := grownCap_le_maxLen w s.length 0 e hs
  obtain ⟨m, hm⟩ : ∃ m, grownCap w s.length 0 e = s.length + m := ⟨grownCap w s.length 0 e - s.length, by omega⟩
  have hrun := Lib.run_convert_string_bytes (P := C.P) w t t2 e ⟨s.toArray⟩ h1.und h2.und h3.und
  rw [hsz, hm] at hrun
  have hcells : Lib.bytesCells w e ⟨s.toArray⟩ = (encY s ++ List.replicate m (Value.int .u8 0)).toArray := by
    unfold Lib.bytesCells
    rw [hsz, hm, Nat.add_sub_cancel_left, encY_map]
    apply Array.ext'
    simp
  have hnew : Conf C (bytesA w.heap.size s m e :: A) (Lib.bytesWorld w e ⟨s.toArray⟩) := by
    refine hc.new rfl rfl rfl (by rw [Lib.bytesWorld_size]; omega) (by simp [Lib.bytesWorld, World.freeze, World.alloc, World.drew, -World.alloc_eq, -World.drew_eq]) (fun b hb => Lib.bytesWorld_at_old w e _ b hb) ⟨fun b => b = w.heap.size, ⟨?_, fun b => Iff.rfl⟩, fun b hb => by rw [hb]; exact Nat.le_refl _⟩
    rw [Lib.bytesWorld_at_new, hcells]
    have : (encY s ++ List.replicate m (Value.int IntKind.u8 0)).length = s.length + m := by rw [List.length_append, encY_len, List.length_replicate]
    unfold bytesO
    simp only [List.size_toArray, this]
  exact ⟨_, _, _, by simp [execOp, he.ev hx, hrun], hnew, haf _ _, k _ _ (by omega)⟩
/-- A store of a byte. -/
theorem XL.storeY {g m e j b i2 : Nat} {s : Bs} {q : UInt8} (ho : ops[i]? = some ⟨none, .store T x y, ty, pos, af, gd⟩) (hg : gok ops env ⟨none, .store T x y, ty, pos, af, gd⟩ = some true) (hx : ev env x = some (.pointer (some (el (some ⟨g, 0, none⟩) (j * 1))))) (hy : ev env y = some (.int .u8 ((b : Nat) : Int))) (hb : q.toNat = b) [hs : Sz C.P T 1] [hl : BytesAt A g s m e i2] (hj : j < s.length)
    [hupd : Upd A i2 (bytesA g (s.set j q) m e) A'] [haf : After cl S C A'] (k : XL C ops Q S r env A') : XL C ops Q S (.op cl i r) env A := by
  refine XL.chg0 ho hg rfl fun a w he hc => ?_
  have hob : w.heap[g]? = some (bytesO s m e) := Conf.bytesObj (h := hl) hc
  have hgl : g < w.heap.size := (Array.getElem?_eq_some_iff.1 hob).1
  have hv := bytes_cell hob (List.getElem?_eq_getElem hj)
  have hfz : w.frozen? ⟨g, j, none⟩ = false := by simp [World.frozen?, hob, bytesO]; omega
  have hst := run_storeCells_cells (P := C.P) g j [Value.int .u8 ((b : Nat) : Int)] 0 w (fun k hk => by
    obtain rfl : k = 0 := by simpa using hk
    simp [hv]) (fun k hk => by
    obtain rfl : k = 0 := by simpa using hk
    simpa using hfz) (fun u hu => by
    obtain rfl := List.mem_singleton.1 hu
    rfl)
  have hc1 : (encY s ++ List.replicate m (Value.int .u8 0)).set j (Value.int .u8 ((b : Nat) : Int)) = encY (s.set j q) ++ List.replicate m (Value.int .u8 0) := by
    rw [List.set_append_left _ _ (by rw [encY_len]; exact hj)]
    congr 1
    rw [encY_map, encY_map, List.map_set, hb]
  have hput : w.setCells g (j + 0) [Value.int .u8 ((b : Nat) : Int)] = w.putObj g (bytesO (s.set j q) m e) := by
    simp only [World.setCells, World.setCell, World.putObj]
    congr 1
    apply Array.ext_getElem?
    intro k
    rw [Array.getElem?_modify, Array.getElem?_setIfInBounds]
    by_cases hk : g = k
    · subst hk
      rw [if_pos rfl, if_pos rfl, if_pos hgl, hob]
      simp [bytesO, hc1]
    · rw [if_neg hk, if_neg hk]
  refine ⟨A', w.putObj g (bytesO (s.set j q) m e), ?_, ?_, haf, k⟩
  · rw [el_some, Nat.mul_one] at hx
    rw [hput] at hst
    simp [execOp, he.ev hx, he.ev hy, Instr.storeAt, Instr.sureAddr, storeVar, hs.run, Value.cells, hst]
  · rw [← hupd.eq]
    refine hc.update hl.at_ rfl rfl rfl (by simp [World.putObj]) (Nat.le_refl _) fun F ⟨h1, h2⟩ => ⟨F, ⟨World.putObj_heap_same hgl, h2⟩, fun b hb => .inl hb, fun k hk hn => ?_⟩
    exact World.putObj_heap_other fun e => hn ((h2 k).2 e)
end
open Go.Proofs
set_option maxRecDepth 20000
set_option maxHeartbeats 4000000
theorem manB_len {m : Man} (h : IsChkM m 0) : (manB m).length ≤ 10200 := by
  have h1 := headM_len h
  have h2 := snB_len h.names.1 m.sn.length
  have h3 := h.names.2.2.2.2.2.2.2
  rw [List.take_length] at h2
  rw [manB, List.length_append]
  omega
theorem DecR.of_good {m : Man} (h : GoodM m) : DecR (sealS (mgc ++ manB m)) m 0 := by
  refine .inr (.inr ⟨manB m, ?_, ?_, .inl ⟨rfl, h, rfl⟩⟩) <;> rw [openS_seal]
theorem DecR.of_turn {l : Bs} {k : Nat} {b : UInt8} (hk : k < (sealS l).length) (hb : (sealS l)[k] ≠ b) : DecR ((sealS l).set k b) zM 13 := by
  refine .inl ⟨?_, ?_, rfl⟩ <;> rw [openS_turn hk hb] <;> decide
theorem DecR.good {s : Bs} {m : Man} (h : DecR s m 0) : GoodM m ∧ s = sealS (mgc ++ manB m) := by
  rcases h with ⟨h1, h2, _⟩ | ⟨_, _, h, _⟩ | ⟨r, h1, h2, ⟨h3, h4, _⟩ | ⟨_, h, _⟩⟩
  · exact absurd h2.symm h1
  · cases h
  · refine ⟨h4, openS_ok ?_⟩
    rw [← h3, ← h2, ← h1]
  · cases h
theorem DecR.errs {s : Bs} {m : Man} {e : Int} (h : DecR s m e) (he : e ≠ 0) : e = 10 ∨ e = 13 ∨ e = 14 ∨ e = 12 := by
  rcases h with ⟨h1, h2, _⟩ | ⟨_, _, h, _⟩ | ⟨r, h1, h2, ⟨h3, h4, h⟩ | ⟨_, h, _⟩⟩
  · have := openS_err (l := s) (t := (openS s).1) (e := (openS s).2) rfl
    omega
  · omega
  · omega
  · omega
theorem byteWrap (q : Int) (h : q.tmod 256 ≠ 0) : ∃ z : Nat, IntKind.u8.wrap q = (z : Int) ∧ z < 256 ∧ z ≠ 0 := by
  have hw : IntKind.u8.wrap q = q % 256 := by
    unfold IntKind.wrap
    rw [show IntKind.u8.signed = false from rfl, show (2 ^ IntKind.u8.bits : Int) = 256 from by decide]
    simp
  have h0 : q % 256 ≠ 0 := fun h1 => h (Int.tmod_eq_zero_of_dvd (Int.dvd_of_emod_eq_zero h1))
  exact ⟨(q % 256).toNat, by rw [hw]; omega, by omega, by omega⟩
theorem byteTurn (b : UInt8) {z : Nat} (hz : z < 256) (h0 : z ≠ 0) : (b ^^^ UInt8.ofNat z).toNat = b.toNat ^^^ z ∧ b ≠ b ^^^ UInt8.ofNat z := by
  have hzn : (UInt8.ofNat z).toNat = z := by rw [UInt8.toNat_ofNat']; exact Nat.mod_eq_of_lt hz
  refine ⟨by rw [UInt8.toNat_xor, hzn], fun h => h0 ?_⟩
  have h2 : b ^^^ b = b ^^^ (b ^^^ UInt8.ofNat z) := by rw [← h]
  rw [← UInt8.xor_assoc, UInt8.xor_self, UInt8.zero_xor] at h2
  rw [← hzn, ← h2]
  rfl
theorem ManiBack_spec (w : World) (m : Man) (a : Option Addr) (c : Nat) (s : Bs) (p q : Int) (hl : Rd w 3 a m.sn.length c (encQ m.sn)) (hk : m.k < 18446744073709551616) (hs : i64 s.length) (hp : i64 p) (hq : i64 q) : Spec Try.prog 4 #[.agg #[.string ⟨List.toArray m.v⟩, .int .u64 ((m.k : Nat) : Int), .int .i64 m.s, .int .i64 m.z, .string ⟨List.toArray m.b⟩, .int .i64 m.bq, .slice a m.sn.length c], .string ⟨List.toArray s⟩, .agg #[.int .i64 p, .int .i64 q]] w (fun _ => False) (fun v A => v = .bool true ∧ A = []) := by
  have hb1 := hl.bd'
  unfold i64 at hs hp hq
  refine Spec.enter (args := [.agg #[.string ⟨List.toArray m.v⟩, .int .u64 ((m.k : Nat) : Int), .int .i64 m.s, .int .i64 m.z, .string ⟨List.toArray m.b⟩, .int .i64 m.bq, .slice a m.sn.length c], .string ⟨List.toArray s⟩, .agg #[.int .i64 p, .int .i64 q]]) (A := []) Try.func4 rfl Try.ntmps4 rfl (fun _ h => h) ?_
  (refine X.seq ?_ <;> (refine X.text (L := (.op .fin 0 (.op .fin 1 (.op .fin 2 .nil)))) rfl (by kernel_rfl) ?_ <;>
    (refine XL.boxN rfl rfl rfl rfl (by intro g; infer_instance) (fun g3 => ?_)) <;>
    (refine XL.boxN rfl rfl rfl rfl (by intro g; infer_instance) (fun g5 => ?_)) <;>
    ((apply XL.det0F rfl rfl rfl rfl; exact D.assign rfl)) <;>
    (refine XL.nil ?_)) <;> (first | refine Ex.then ?_ | (refine N.next ?_ <;> (refine X.seq ?_ <;> (refine X.seq ?_ <;> (refine X.text (L := (.op .fin 0 (.op .fin 1 (.op .fin 2 (.op .fin 3 (.op .fin 4 (.op .fin 5 (.op .fin 6 (.op .fin 7 .nil))))))))) rfl (by kernel_rfl) ?_ <;>
    ((apply XL.detF rfl rfl rfl rfl; first | exact D.load1 rfl (fun w h => h.cellAt (Loc.at_) rfl) | exact D.loadN rfl rfl (fun w h j u hu => by rw [at_add, Nat.zero_add]; exact h.cellAt (Loc.at_) hu) | exact D.loadP rfl rfl)) <;>
    ((refine XL.call rfl rfl rfl rfl (fun w hw => Few_spec m a c w (hl.conf0 hw)) ?_; rintro v B' ⟨rfl, rfl⟩; refine XL.both ?_); (by_cases hf : FewM m <;> first | rw [decide_eq_true hf] | rw [decide_eq_false hf])) <;>
    ((apply XL.det0F rfl rfl rfl rfl; exact D.not rfl)) <;>
    ((apply XL.det0F rfl rfl rfl rfl; exact D.move rfl)) <;>
    (first | refine XL.skipF rfl rfl rfl rfl ?_ | ((apply XL.det0F rfl rfl rfl rfl; exact D.move rfl))) <;>
    (first | refine XL.skipF rfl rfl rfl rfl ?_ | ((apply XL.det0F rfl rfl rfl rfl; first | exact D.len rfl | exact D.lenL rfl | exact D.lenS rfl))) <;>
    (first | refine XL.skipF rfl rfl rfl rfl ?_ | (first | refine XL.skipF rfl rfl rfl rfl ?_ | refine XL.splitF rfl rfl rfl rfl (D.int rfl rfl rfl) (fun h1 => ?_) (fun h1 => ?_))) <;>
    ((apply XL.det0F rfl rfl rfl rfl; first | exact D.pickT rfl rfl | exact D.pickF rfl rfl | exact D.pick rfl rfl rfl)) <;>
    (refine XL.nil ?_)) <;> (first | refine Ex.then ?_ | (refine N.next ?_ <;> ((
    refine X.cond rfl ?_ ?_; rotate_left; (focus (
    intro hc; first | exact absurd hc (by decide) | (cases hc; done) | (refine X.skip ?_))); rotate_right; (focus (
    intro hc; first | exact absurd hc (by decide) | (cases hc; done) | (refine X.seq ?_ <;> (refine X.text (L := (.op .fin 0 (.op .fin 1 .nil))) rfl (by kernel_rfl) ?_ <;>
    ((refine XL.call rfl rfl rfl rfl (fun w hw => awake_spec w) ?_; rintro v B' ⟨rfl, rfl⟩; refine XL.both ?_)) <;>
    ((apply XL.det0F rfl rfl rfl rfl; exact D.assign rfl)) <;>
    (refine XL.nil ?_)) <;> (first | refine Ex.then ?_ | (refine N.next ?_ <;> ((refine X.ret ?_; (repeat (first | refine Rt.then ?_ | refine Rt.block ?_ | refine Rt.scope ?_)); (first | apply Rt.done (Res.r1 Try.results4 (RV.tmp rfl)) | apply Rt.doneM (Res.r1 Try.results4 (RV.tmp rfl))); (focus (first | exact ⟨rfl, rfl⟩ | omega)); exact fun w h => h.takes)))))))))))) <;> (first | refine Ex.then ?_ | (refine N.next ?_ <;> (refine X.seq ?_ <;> (refine X.seq ?_ <;> (refine X.text (L := (.op .fin 0 (.op .fin 1 (.op .fin 2 (.op .fin 3 .nil))))) rfl (by kernel_rfl) ?_ <;>
    ((apply XL.detF rfl rfl rfl rfl; first | exact D.load1 rfl (fun w h => h.cellAt (Loc.at_) rfl) | exact D.loadN rfl rfl (fun w h j u hu => by rw [at_add, Nat.zero_add]; exact h.cellAt (Loc.at_) hu) | exact D.loadP rfl rfl)) <;>
    (have hf2 := hf.2; (refine XL.call rfl rfl rfl rfl (fun w hw => Plain_spec m a c w (hl.conf0 hw) (by omega)) ?_; rintro v B' ⟨ap, cp, rfl, rfl⟩; refine XL.both ?_)) <;>
    ((refine XL.call rfl rfl rfl rfl (fun w hw => refCheck_spec m ap cp w (hw.rd (a := ap)) (by omega) (by omega)) ?_; rintro v B' ⟨e0, rfl, hC, rfl⟩; refine XL.both ?_)) <;>
    (refine XL.splitF rfl rfl rfl rfl (D.int rfl rfl rfl) (fun h2 => ?_) (fun h2 => ?_)) <;>
    (refine XL.nil ?_)) <;> (first | refine Ex.then ?_ | (refine N.next ?_ <;> ((
    refine X.cond rfl ?_ ?_; rotate_left; (focus (
    intro hc; first | exact absurd hc (by decide) | (cases hc; done) | (refine X.skip ?_))); rotate_right; (focus (
    intro hc; first | exact absurd hc (by decide) | (cases hc; done) | (refine X.seq ?_ <;> (refine X.text (L := (.op .fin 0 (.op .fin 1 (.op .fin 2 (.op .fin 3 (.op .fin 4 (.op .fin 5 (.op .fin 6 .nil)))))))) rfl (by kernel_rfl) ?_ <;>
    ((apply XL.detF rfl rfl rfl rfl; first | exact D.load1 rfl (fun w h => h.cellAt (Loc.at_) rfl) | exact D.loadN rfl rfl (fun w h j u hu => by rw [at_add, Nat.zero_add]; exact h.cellAt (Loc.at_) hu) | exact D.loadP rfl rfl)) <;>
    ((refine XL.call rfl rfl rfl rfl (fun w hw => Encode_spec m a c w (hl.conf0 hw)) ?_; rintro v B' ⟨t, e1, rfl, hE, hE0, hE1, rfl⟩; refine XL.both ?_); (obtain rfl : e0 = 0 := h2); (obtain rfl : e1 = 0 := hE.unique hC); have ht := hE1 rfl; have htl := manB_len hC; have hlen : t.length ≤ 11000 := (by rw [ht, sealS_len, List.length_append]; have : mgc.length = 4 := rfl; omega); have hG : GoodM m := ⟨hC, hk⟩) <;>
    ((apply XL.det0F rfl rfl rfl rfl; exact D.move rfl)) <;>
    ((apply XL.det0F rfl rfl rfl rfl; exact D.extract rfl rfl)) <;>
    ((apply XL.det0F rfl rfl rfl rfl; exact D.extract rfl rfl)) <;>
    ((apply XL.det0F rfl rfl rfl rfl; exact D.assign rfl)) <;>
    ((apply XL.det0F rfl rfl rfl rfl; exact D.assign rfl)) <;>
    (refine XL.nil ?_)) <;> (first | refine Ex.then ?_ | (refine N.next ?_ <;> (refine X.seq ?_ <;> (refine X.text (L := (.op .fin 0 (.op .fin 1 (.op .fin 2 (.op .fin 3 (.op .fin 4 (.op .fin 5 (.op .fin 6 (.op .fin 7 .nil))))))))) rfl (by kernel_rfl) ?_ <;>
    ((apply XL.det0F rfl rfl rfl rfl; exact D.move rfl)) <;>
    ((refine XL.call rfl rfl rfl rfl (fun w hw => Decode_spec w t (by omega)) ?_; rintro v B' ⟨x, f, ax, cx, rfl, hD, rfl⟩; refine XL.both ?_); (obtain ⟨rfl, rfl⟩ : x = m ∧ f = 0 := (by rw [ht] at hD; exact hD.unique (DecR.of_good hG)))) <;>
    ((apply XL.det0F rfl rfl rfl rfl; exact D.move rfl)) <;>
    ((apply XL.det0F rfl rfl rfl rfl; exact D.extract rfl rfl)) <;>
    ((apply XL.det0F rfl rfl rfl rfl; exact D.extract rfl rfl)) <;>
    (refine XL.alloc rfl rfl rfl (by intro g; infer_instance) (fun g => ?_)) <;>
    (first | refine XL.store1 rfl rfl rfl rfl rfl ?_ | refine XL.storeN rfl rfl rfl rfl rfl rfl ?_ | refine XL.storeP rfl rfl rfl rfl rfl rfl ?_) <;>
    ((apply XL.det0F rfl rfl rfl rfl; exact D.assign rfl)) <;>
    (refine XL.nil ?_)) <;> (first | refine Ex.then ?_ | (refine N.next ?_ <;> (refine X.seq ?_ <;> (refine X.seq ?_ <;> (refine X.draw (.op .v0 0 (.op .v0 1 (.op .v0 2 (.op .v0 3 (.op .v0 4 (.op .v0 5 (.op .v0 6 (.op .v1 7 (.op .v1 8 (.op .ch 9 (.op .v0 10 (.op .v0 11 (.op .v0 12 (.op .v1 13 (.op .v1 15 (.op .ch 14 (.op .ch 16 (.op .ch 17 (.op .v0 18 (.op .v0 19 .nil)))))))))))))))))))) mixed (by kernel_rfl) ?_ <;>
    ((apply XL.det0 rfl rfl rfl rfl; exact D.move rfl)) <;>
    (first | refine XL.cmpT0 rfl rfl rfl rfl (D.int rfl rfl rfl) (by omega) ?_ | refine XL.cmpF0 rfl rfl rfl rfl (D.int rfl rfl rfl) (by omega) ?_ | refine XL.split0 rfl rfl rfl rfl (D.int rfl rfl rfl) (fun _ => ?_) (fun _ => ?_) | refine XL.cmpT0 rfl rfl rfl rfl (D.neS2 rfl rfl) (by omega) ?_ | refine XL.cmpF0 rfl rfl rfl rfl (D.neS2 rfl rfl) (by omega) ?_ | refine XL.split0 rfl rfl rfl rfl (D.neS2 rfl rfl) (fun _ => ?_) (fun _ => ?_) | (apply XL.det0 rfl rfl rfl rfl; first | exact D.neNilS rfl rfl | exact D.boolNe rfl rfl | exact D.neNilP rfl rfl)) <;>
    ((apply XL.det0 rfl rfl rfl rfl; exact D.move rfl)) <;>
    (first | refine XL.skip0 rfl rfl rfl rfl ?_ | ((apply XL.det0 rfl rfl rfl rfl; exact D.move rfl))) <;>
    (first | refine XL.skip0 rfl rfl rfl rfl ?_ | (first | refine XL.cmpT0 rfl rfl rfl rfl (D.int rfl rfl rfl) (by omega) ?_ | refine XL.cmpF0 rfl rfl rfl rfl (D.int rfl rfl rfl) (by omega) ?_ | refine XL.split0 rfl rfl rfl rfl (D.int rfl rfl rfl) (fun _ => ?_) (fun _ => ?_) | refine XL.cmpT0 rfl rfl rfl rfl (D.neS2 rfl rfl) (by omega) ?_ | refine XL.cmpF0 rfl rfl rfl rfl (D.neS2 rfl rfl) (by omega) ?_ | refine XL.split0 rfl rfl rfl rfl (D.neS2 rfl rfl) (fun _ => ?_) (fun _ => ?_) | (apply XL.det0 rfl rfl rfl rfl; first | exact D.neNilS rfl rfl | exact D.boolNe rfl rfl | exact D.neNilP rfl rfl))) <;>
    ((apply XL.det0 rfl rfl rfl rfl; first | exact D.pickT rfl rfl | exact D.pickF rfl rfl | exact D.pick rfl rfl rfl)) <;>
    ((apply XL.det0 rfl rfl rfl rfl; exact D.move rfl)) <;>
    (first | refine XL.skip1 rfl rfl rfl rfl ?_ | ((apply XL.det1 rfl rfl rfl rfl; first | exact D.load1 rfl (fun w h => h.cellAt (Loc.at_) rfl) | exact D.loadN rfl rfl (fun w h j u hu => by rw [at_add, Nat.zero_add]; exact h.cellAt (Loc.at_) hu) | exact D.loadP rfl rfl))) <;>
    (first | refine XL.skip1 rfl rfl rfl rfl ?_ | ((apply XL.det1 rfl rfl rfl rfl; first | exact D.load1 rfl (fun w h => h.cellAt (Loc.at_) rfl) | exact D.loadN rfl rfl (fun w h j u hu => by rw [at_add, Nat.zero_add]; exact h.cellAt (Loc.at_) hu) | exact D.loadP rfl rfl))) <;>
    (first | refine XL.skipC rfl rfl rfl rfl ?_ | ((refine XL.call rfl rfl rfl rfl (fun w hw => Same_spec w x x ax a cx c (hw.rd (a := ax)) (hl.conf0 hw)) ?_; rintro v B' ⟨rfl, rfl⟩; refine XL.both ?_); rw [decide_eq_true (rfl : x = x)])) <;>
    (first | refine XL.skip0 rfl rfl rfl rfl ?_ | ((apply XL.det0 rfl rfl rfl rfl; exact D.not rfl))) <;>
    ((apply XL.det0 rfl rfl rfl rfl; first | exact D.pickT rfl rfl | exact D.pickF rfl rfl | exact D.pick rfl rfl rfl)) <;>
    ((apply XL.det0 rfl rfl rfl rfl; exact D.move rfl)) <;>
    (first | refine XL.skip1 rfl rfl rfl rfl ?_ | ((apply XL.det1 rfl rfl rfl rfl; first | exact D.load1 rfl (fun w h => h.cellAt (Loc.at_) rfl) | exact D.loadN rfl rfl (fun w h j u hu => by rw [at_add, Nat.zero_add]; exact h.cellAt (Loc.at_) hu) | exact D.loadP rfl rfl))) <;>
    (first | refine XL.skip1 rfl rfl rfl rfl ?_ | ((apply XL.det1 rfl rfl rfl rfl; first | exact D.load1 rfl (fun w h => h.cellAt (Loc.at_) rfl) | exact D.loadN rfl rfl (fun w h j u hu => by rw [at_add, Nat.zero_add]; exact h.cellAt (Loc.at_) hu) | exact D.loadP rfl rfl))) <;>
    (first | refine XL.skipC rfl rfl rfl rfl ?_ | ((refine XL.call rfl rfl rfl rfl (fun w hw => Plain_spec x ax cx w (hw.rd (a := ax)) (by omega)) ?_; rintro v B' ⟨ay, cy, rfl, rfl⟩; refine XL.both ?_))) <;>
    (first | refine XL.skipC rfl rfl rfl rfl ?_ | ((refine XL.call rfl rfl rfl rfl (fun w hw => Plain_spec x a c w (hl.conf0 hw) (by omega)) ?_; rintro v B' ⟨az, cz, rfl, rfl⟩; refine XL.both ?_))) <;>
    (first | refine XL.skipC rfl rfl rfl rfl ?_ | ((refine XL.call rfl rfl rfl rfl (fun w hw => refSame_spec w x x ay az cy cz (hw.rd (a := ay)) (hw.rd (a := az))) ?_; rintro v B' ⟨rfl, rfl⟩; refine XL.both ?_); rw [decide_eq_true (rfl : x = x)])) <;>
    (first | refine XL.skip0 rfl rfl rfl rfl ?_ | ((apply XL.det0 rfl rfl rfl rfl; exact D.not rfl))) <;>
    ((apply XL.det0 rfl rfl rfl rfl; first | exact D.pickT rfl rfl | exact D.pickF rfl rfl | exact D.pick rfl rfl rfl)) <;>
    (refine XL.nil ?_)) <;> (first | refine Ex.then ?_ | (refine N.next ?_ <;> ((
    refine X.cond rfl ?_ ?_; rotate_left; (focus (
    intro hc; first | exact absurd hc (by decide) | (cases hc; done) | (refine X.skip ?_))); rotate_right; (focus (
    intro hc; first | exact absurd hc (by decide) | (cases hc; done) | (refine X.seq ?_ <;> (refine X.text (L := (.op .fin 0 .nil)) rfl (by kernel_rfl) ?_ <;>
    ((apply XL.det0F rfl rfl rfl rfl; exact D.assign rfl)) <;>
    (refine XL.nil ?_)) <;> (first | refine Ex.then ?_ | (refine N.next ?_ <;> ((refine X.ret ?_; (repeat (first | refine Rt.then ?_ | refine Rt.block ?_ | refine Rt.scope ?_)); (first | apply Rt.done (Res.r1 Try.results4 (RV.tmp rfl)) | apply Rt.doneM (Res.r1 Try.results4 (RV.tmp rfl))); (focus (first | exact ⟨rfl, rfl⟩ | omega)); exact fun w h => h.takes)))))))))))) <;> (first | refine Ex.then ?_ | (refine N.next ?_ <;> (refine X.seq ?_ <;> (refine X.text (L := (.op .fin 0 (.op .fin 1 (.op .fin 2 (.op .fin 3 (.op .fin 4 (.op .fin 5 (.op .fin 6 (.op .fin 7 (.op .fin 8 (.op .fin 9 (.op .fin 10 (.op .fin 11 (.op .fin 12 (.op .fin 13 (.op .fin 14 (.op .fin 15 .nil))))))))))))))))) rfl (by kernel_rfl) ?_ <;>
    ((apply XL.det0F rfl rfl rfl rfl; exact D.indexArr 0 rfl rfl rfl (by decide))) <;>
    ((apply XL.detF rfl rfl rfl rfl; first | exact D.load1 rfl (fun w h => h.cellAt (Loc.at_) rfl) | exact D.loadN rfl rfl (fun w h j u hu => by rw [at_add, Nat.zero_add]; exact h.cellAt (Loc.at_) hu) | exact D.loadP rfl rfl)) <;>
    (refine XL.splitF rfl rfl rfl rfl (D.int rfl rfl rfl) (fun h3 => ?_) (fun h3 => ?_)) <;>
    ((apply XL.det0F rfl rfl rfl rfl; exact D.move rfl)) <;>
    (first | refine XL.skipF rfl rfl rfl rfl ?_ | (first | refine XL.skipF rfl rfl rfl rfl ?_ | (apply XL.det0F rfl rfl rfl rfl; exact D.indexArr 0 rfl rfl rfl (by decide)))) <;>
    (first | refine XL.skipF rfl rfl rfl rfl ?_ | ((apply XL.detF rfl rfl rfl rfl; first | exact D.load1 rfl (fun w h => h.cellAt (Loc.at_) rfl) | exact D.loadN rfl rfl (fun w h j u hu => by rw [at_add, Nat.zero_add]; exact h.cellAt (Loc.at_) hu) | exact D.loadP rfl rfl))) <;>
    (first | refine XL.skipF rfl rfl rfl rfl ?_ | ((apply XL.det0F rfl rfl rfl rfl; exact D.move rfl))) <;>
    (first | refine XL.skipF rfl rfl rfl rfl ?_ | ((apply XL.det0F rfl rfl rfl rfl; first | exact D.len rfl | exact D.lenL rfl | exact D.lenS rfl))) <;>
    (first | refine XL.skipF rfl rfl rfl rfl ?_ | (first | refine XL.skipF rfl rfl rfl rfl ?_ | refine XL.splitF rfl rfl rfl rfl (D.int rfl rfl rfl) (fun h4 => ?_) (fun h4 => ?_))) <;>
    ((apply XL.det0F rfl rfl rfl rfl; first | exact D.pickT rfl rfl | exact D.pickF rfl rfl | exact D.pick rfl rfl rfl)) <;>
    ((apply XL.det0F rfl rfl rfl rfl; exact D.move rfl)) <;>
    (first | refine XL.skipF rfl rfl rfl rfl ?_ | (first | refine XL.skipF rfl rfl rfl rfl ?_ | (apply XL.det0F rfl rfl rfl rfl; exact D.indexArr 1 rfl rfl rfl (by decide)))) <;>
    (first | refine XL.skipF rfl rfl rfl rfl ?_ | ((apply XL.detF rfl rfl rfl rfl; first | exact D.load1 rfl (fun w h => h.cellAt (Loc.at_) rfl) | exact D.loadN rfl rfl (fun w h j u hu => by rw [at_add, Nat.zero_add]; exact h.cellAt (Loc.at_) hu) | exact D.loadP rfl rfl))) <;>
    (first | refine XL.skipF rfl rfl rfl rfl ?_ | ((apply XL.det0F rfl rfl rfl rfl; first | exact D.rem rfl rfl (by omega) | exact D.int rfl rfl rfl))) <;>
    (first | refine XL.skipF rfl rfl rfl rfl ?_ | (first | refine XL.skipF rfl rfl rfl rfl ?_ | refine XL.splitF rfl rfl rfl rfl (D.int rfl rfl rfl) (fun h5 => ?_) (fun h5 => ?_))) <;>
    ((apply XL.det0F rfl rfl rfl rfl; first | exact D.pickT rfl rfl | exact D.pickF rfl rfl | exact D.pick rfl rfl rfl)) <;>
    (refine XL.nil ?_)) <;> (first | refine Ex.then ?_ | (refine N.next ?_ <;> ((
    refine X.cond rfl ?_ ?_; rotate_left; (focus (
    intro hc; first | exact absurd hc (by decide) | (cases hc; done) | (refine X.skip ?_))); rotate_right; (focus (
    intro hc; first | exact absurd hc (by decide) | (cases hc; done) | (refine X.seq ?_ <;> (refine X.text (L := (.op .fin 0 (.op .fin 1 (.op .fin 2 .nil)))) rfl (by kernel_rfl) ?_ <;>
    ((apply XL.det0F rfl rfl rfl rfl; exact D.move rfl)) <;>
    ((obtain ⟨kp, hkp⟩ : ∃ kp : Nat, p = kp := ⟨p.toNat, by omega⟩); have hkl : kp < t.length := (by omega); (obtain ⟨b0, hb0⟩ := get_lt' hkl); (obtain ⟨z, hz1, hz2, hz3⟩ := byteWrap q h5); (obtain ⟨hq1, hq2⟩ := byteTurn b0 hz2 hz3); (obtain ⟨nb, hnb⟩ : ∃ nb, b0 ^^^ UInt8.ofNat z = nb := ⟨_, rfl⟩); rw [hnb] at hq1 hq2; refine XL.toBytes (s := t) rfl rfl rfl rfl (by unfold maxLen; omega) (by intro g m; infer_instance) (fun gb mb hmb => ?_)) <;>
    ((apply XL.det0F rfl rfl rfl rfl; exact D.assign rfl)) <;>
    (refine XL.nil ?_)) <;> (first | refine Ex.then ?_ | (refine N.next ?_ <;> (refine X.seq ?_ <;> (refine X.draw (.op .v0 0 (.op .v0 1 (.op .v1 2 (.op .v0 3 (.op .v0 4 (.op .v1 5 (.op .v0 6 (.op .v1 7 (.op .v0 8 (.op .v1 9 (.op .v0 10 (.op .v0 11 (.op .v0 12 (.op .fin 13 .nil)))))))))))))) mixed (by kernel_rfl) ?_ <;>
    ((apply XL.det0 rfl rfl rfl rfl; exact D.move rfl)) <;>
    ((apply XL.det0 rfl rfl rfl rfl; exact D.indexArr 0 rfl rfl rfl (by decide))) <;>
    ((apply XL.det1 rfl rfl rfl rfl; first | exact D.load1 rfl (fun w h => h.cellAt (Loc.at_) rfl) | exact D.loadN rfl rfl (fun w h j u hu => by rw [at_add, Nat.zero_add]; exact h.cellAt (Loc.at_) hu) | exact D.loadP rfl rfl)) <;>
    ((apply XL.det0 rfl rfl rfl rfl; exact D.move rfl)) <;>
    ((apply XL.det0 rfl rfl rfl rfl; exact D.indexArr 0 rfl rfl rfl (by decide))) <;>
    ((apply XL.det1 rfl rfl rfl rfl; first | exact D.load1 rfl (fun w h => h.cellAt (Loc.at_) rfl) | exact D.loadN rfl rfl (fun w h j u hu => by rw [at_add, Nat.zero_add]; exact h.cellAt (Loc.at_) hu) | exact D.loadP rfl rfl)) <;>
    ((apply XL.det0 rfl rfl rfl rfl; exact D.indexAddr kp rfl rfl hkp hkl rfl)) <;>
    ((apply XL.det1 rfl rfl rfl rfl; exact D.load1 rfl (fun w h => h.byteOf hb0))) <;>
    ((apply XL.det0 rfl rfl rfl rfl; exact D.indexArr 1 rfl rfl rfl (by decide))) <;>
    ((apply XL.det1 rfl rfl rfl rfl; first | exact D.load1 rfl (fun w h => h.cellAt (Loc.at_) rfl) | exact D.loadN rfl rfl (fun w h j u hu => by rw [at_add, Nat.zero_add]; exact h.cellAt (Loc.at_) hu) | exact D.loadP rfl rfl)) <;>
    ((apply XL.det0 rfl rfl rfl rfl; exact D.conv rfl); rw [hz1]) <;>
    ((apply XL.det0 rfl rfl rfl rfl; exact D.xorN rfl rfl rfl ⟨byte_lt b0, hz2⟩)) <;>
    ((apply XL.det0 rfl rfl rfl rfl; exact D.indexAddr kp rfl rfl hkp hkl rfl)) <;>
    (refine XL.storeY (q := nb) rfl rfl rfl rfl hq1 hkl ?_) <;>
    (refine XL.nil ?_)) <;> (first | refine Ex.then ?_ | (refine N.next ?_ <;> (refine X.seq ?_ <;> (refine X.text (L := (.op .fin 0 (.op .fin 1 (.op .fin 2 (.op .fin 3 (.op .fin 4 (.op .fin 5 (.op .fin 6 (.op .fin 7 (.op .fin 8 .nil)))))))))) rfl (by kernel_rfl) ?_ <;>
    ((apply XL.det0F rfl rfl rfl rfl; exact D.move rfl)) <;>
    ((obtain ⟨t2, ht2⟩ : ∃ t2, t.set kp nb = t2 := ⟨_, rfl⟩); rw [ht2]; have ht2l : t2.length = t.length := (by rw [← ht2, List.length_set]); (apply XL.detF rfl rfl rfl rfl; exact D.toStr t2 rfl ht2l (fun w h => by rw [← ht2l]; exact h.bytesRd (by omega) (by omega)))) <;>
    ((refine XL.call rfl rfl rfl rfl (fun w hw => Decode_spec w t2 (by omega)) ?_; rintro v B' ⟨y, f2, ad, cd, rfl, hY, rfl⟩; refine XL.both ?_); (obtain ⟨rfl, rfl⟩ : y = zM ∧ f2 = 13 := (by rw [← ht2, ht] at hY; exact hY.unique (DecR.of_turn (by rw [← ht]; exact hkl) (fun hh => hq2 (by have e := hb0; rw [ht, List.getElem?_eq_getElem (by rw [← ht]; exact hkl), hh] at e; exact (Option.some.inj e).symm)))))) <;>
    ((apply XL.det0F rfl rfl rfl rfl; exact D.move rfl)) <;>
    ((apply XL.det0F rfl rfl rfl rfl; exact D.extract rfl rfl)) <;>
    ((apply XL.det0F rfl rfl rfl rfl; exact D.extract rfl rfl)) <;>
    (refine XL.alloc rfl rfl rfl (by intro g; infer_instance) (fun g => ?_)) <;>
    (first | refine XL.store1 rfl rfl rfl rfl rfl ?_ | refine XL.storeN rfl rfl rfl rfl rfl rfl ?_ | refine XL.storeP rfl rfl rfl rfl rfl rfl ?_) <;>
    ((apply XL.det0F rfl rfl rfl rfl; exact D.assign rfl)) <;>
    (refine XL.nil ?_)) <;> (first | refine Ex.then ?_ | (refine N.next ?_ <;> (refine X.seq ?_ <;> (refine X.text (L := (.op .fin 0 (.op .fin 1 (.op .fin 2 (.op .fin 3 (.op .fin 4 (.op .fin 5 (.op .fin 6 (.op .fin 7 .nil))))))))) rfl (by kernel_rfl) ?_ <;>
    ((apply XL.det0F rfl rfl rfl rfl; exact D.move rfl)) <;>
    (first | refine XL.cmpTF rfl rfl rfl rfl (D.int rfl rfl rfl) (by omega) ?_ | refine XL.cmpFF rfl rfl rfl rfl (D.int rfl rfl rfl) (by omega) ?_ | refine XL.splitF rfl rfl rfl rfl (D.int rfl rfl rfl) (fun _ => ?_) (fun _ => ?_) | refine XL.cmpTF rfl rfl rfl rfl (D.neS2 rfl rfl) (by omega) ?_ | refine XL.cmpFF rfl rfl rfl rfl (D.neS2 rfl rfl) (by omega) ?_ | refine XL.splitF rfl rfl rfl rfl (D.neS2 rfl rfl) (fun _ => ?_) (fun _ => ?_) | (apply XL.det0F rfl rfl rfl rfl; first | exact D.neNilS rfl rfl | exact D.boolNe rfl rfl | exact D.neNilP rfl rfl)) <;>
    ((apply XL.det0F rfl rfl rfl rfl; exact D.move rfl)) <;>
    (first | refine XL.skipF rfl rfl rfl rfl ?_ | ((apply XL.detF rfl rfl rfl rfl; first | exact D.load1 rfl (fun w h => h.cellAt (Loc.at_) rfl) | exact D.loadN rfl rfl (fun w h j u hu => by rw [at_add, Nat.zero_add]; exact h.cellAt (Loc.at_) hu) | exact D.loadP rfl rfl))) <;>
    (first | refine XL.skipF rfl rfl rfl rfl ?_ | ((apply XL.det0F rfl rfl rfl rfl; exact D.build rfl))) <;>
    (first | refine XL.skipF rfl rfl rfl rfl ?_ | ((refine XL.call rfl rfl rfl rfl (fun w hw => Same_spec w zM zM ad none cd 0 (hw.rd (a := ad)) (Rd.nil w 3)) ?_; rintro v B' ⟨rfl, rfl⟩; refine XL.both ?_); rw [decide_eq_true (rfl : zM = zM)])) <;>
    (first | refine XL.skipF rfl rfl rfl rfl ?_ | ((apply XL.det0F rfl rfl rfl rfl; exact D.not rfl))) <;>
    ((apply XL.det0F rfl rfl rfl rfl; first | exact D.pickT rfl rfl | exact D.pickF rfl rfl | exact D.pick rfl rfl rfl)) <;>
    (refine XL.nil ?_)) <;> (first | refine Ex.then ?_ | (refine N.next ?_ <;> ((
    refine X.cond rfl ?_ ?_; rotate_left; (focus (
    intro hc; first | exact absurd hc (by decide) | (cases hc; done) | (refine X.skip ?_))); rotate_right; (focus (
    intro hc; first | exact absurd hc (by decide) | (cases hc; done) | (refine X.seq ?_ <;> (refine X.text (L := (.op .fin 0 .nil)) rfl (by kernel_rfl) ?_ <;>
    ((apply XL.det0F rfl rfl rfl rfl; exact D.assign rfl)) <;>
    (refine XL.nil ?_)) <;> (first | refine Ex.then ?_ | (refine N.next ?_ <;> ((refine X.ret ?_; (repeat (first | refine Rt.then ?_ | refine Rt.block ?_ | refine Rt.scope ?_)); (first | apply Rt.done (Res.r1 Try.results4 (RV.tmp rfl)) | apply Rt.doneM (Res.r1 Try.results4 (RV.tmp rfl))); (focus (first | exact ⟨rfl, rfl⟩ | omega)); exact fun w h => h.takes)))))))))))))))))))))))))))))))))))))))))))) <;> (first | refine Ex.then ?_ | (refine N.next ?_ <;> (refine X.seq ?_ <;> (refine X.text (L := (.op .fin 0 (.op .fin 1 (.op .fin 2 (.op .fin 3 (.op .fin 4 (.op .fin 5 (.op .fin 6 (.op .fin 7 .nil))))))))) rfl (by kernel_rfl) ?_ <;>
    ((apply XL.det0F rfl rfl rfl rfl; exact D.move rfl)) <;>
    ((refine XL.call rfl rfl rfl rfl (fun w hw => Decode_spec w s (by omega)) ?_; rintro v B' ⟨x2, h9, a2, c2, rfl, hX, rfl⟩; refine XL.both ?_)) <;>
    ((apply XL.det0F rfl rfl rfl rfl; exact D.move rfl)) <;>
    ((apply XL.det0F rfl rfl rfl rfl; exact D.extract rfl rfl)) <;>
    ((apply XL.det0F rfl rfl rfl rfl; exact D.extract rfl rfl)) <;>
    (refine XL.alloc rfl rfl rfl (by intro g; infer_instance) (fun g => ?_)) <;>
    (first | refine XL.store1 rfl rfl rfl rfl rfl ?_ | refine XL.storeN rfl rfl rfl rfl rfl rfl ?_ | refine XL.storeP rfl rfl rfl rfl rfl rfl ?_) <;>
    ((apply XL.det0F rfl rfl rfl rfl; exact D.assign rfl)) <;>
    (refine XL.nil ?_)) <;> (first | refine Ex.then ?_ | (refine N.next ?_ <;> (refine X.seq ?_ <;> (refine X.seq ?_ <;> (refine X.text (L := (.op .fin 0 (.op .fin 1 .nil))) rfl (by kernel_rfl) ?_ <;>
    ((apply XL.det0F rfl rfl rfl rfl; exact D.move rfl)) <;>
    (refine XL.splitF rfl rfl rfl rfl (D.int rfl rfl rfl) (fun h6 => ?_) (fun h6 => ?_)) <;>
    (refine XL.nil ?_)) <;> (first | refine Ex.then ?_ | (refine N.next ?_ <;> ((
    refine X.cond rfl ?_ ?_; rotate_left; (focus (
    intro hc; first | exact absurd hc (by decide) | (cases hc; done) | (refine X.skip ?_))); rotate_right; (focus (
    intro hc; first | exact absurd hc (by decide) | (cases hc; done) | (refine X.seq ?_ <;> (refine X.text (L := (.op .fin 0 (.op .fin 1 (.op .fin 2 (.op .fin 3 (.op .fin 4 (.op .fin 5 (.op .fin 6 (.op .fin 7 (.op .fin 8 (.op .fin 9 (.op .fin 10 (.op .fin 11 (.op .fin 12 (.op .fin 13 (.op .fin 14 (.op .fin 15 (.op .fin 16 (.op .fin 17 .nil))))))))))))))))))) rfl (by kernel_rfl) ?_ <;>
    (have hxe := hX.errs h6; (apply XL.det0F rfl rfl rfl rfl; exact D.move rfl)) <;>
    (first | refine XL.cmpTF rfl rfl rfl rfl (D.int rfl rfl rfl) (by omega) ?_ | refine XL.cmpFF rfl rfl rfl rfl (D.int rfl rfl rfl) (by omega) ?_ | refine XL.splitF rfl rfl rfl rfl (D.int rfl rfl rfl) (fun _ => ?_) (fun _ => ?_) | refine XL.cmpTF rfl rfl rfl rfl (D.eqS2 rfl rfl) (by omega) ?_ | refine XL.cmpFF rfl rfl rfl rfl (D.eqS2 rfl rfl) (by omega) ?_ | refine XL.splitF rfl rfl rfl rfl (D.eqS2 rfl rfl) (fun _ => ?_) (fun _ => ?_) | (apply XL.det0F rfl rfl rfl rfl; first | exact D.eqNilS rfl rfl | exact D.boolEq rfl rfl | exact D.eqNilP rfl rfl)) <;>
    ((apply XL.det0F rfl rfl rfl rfl; exact D.move rfl)) <;>
    (first | refine XL.skipF rfl rfl rfl rfl ?_ | ((apply XL.det0F rfl rfl rfl rfl; exact D.move rfl))) <;>
    (first | refine XL.skipF rfl rfl rfl rfl ?_ | (first | refine XL.cmpTF rfl rfl rfl rfl (D.int rfl rfl rfl) (by omega) ?_ | refine XL.cmpFF rfl rfl rfl rfl (D.int rfl rfl rfl) (by omega) ?_ | refine XL.splitF rfl rfl rfl rfl (D.int rfl rfl rfl) (fun _ => ?_) (fun _ => ?_) | refine XL.cmpTF rfl rfl rfl rfl (D.eqS2 rfl rfl) (by omega) ?_ | refine XL.cmpFF rfl rfl rfl rfl (D.eqS2 rfl rfl) (by omega) ?_ | refine XL.splitF rfl rfl rfl rfl (D.eqS2 rfl rfl) (fun _ => ?_) (fun _ => ?_) | (apply XL.det0F rfl rfl rfl rfl; first | exact D.eqNilS rfl rfl | exact D.boolEq rfl rfl | exact D.eqNilP rfl rfl))) <;>
    ((apply XL.det0F rfl rfl rfl rfl; first | exact D.pickT rfl rfl | exact D.pickF rfl rfl | exact D.pick rfl rfl rfl)) <;>
    ((apply XL.det0F rfl rfl rfl rfl; exact D.move rfl)) <;>
    (first | refine XL.skipF rfl rfl rfl rfl ?_ | ((apply XL.det0F rfl rfl rfl rfl; exact D.move rfl))) <;>
    (first | refine XL.skipF rfl rfl rfl rfl ?_ | (first | refine XL.cmpTF rfl rfl rfl rfl (D.int rfl rfl rfl) (by omega) ?_ | refine XL.cmpFF rfl rfl rfl rfl (D.int rfl rfl rfl) (by omega) ?_ | refine XL.splitF rfl rfl rfl rfl (D.int rfl rfl rfl) (fun _ => ?_) (fun _ => ?_) | refine XL.cmpTF rfl rfl rfl rfl (D.eqS2 rfl rfl) (by omega) ?_ | refine XL.cmpFF rfl rfl rfl rfl (D.eqS2 rfl rfl) (by omega) ?_ | refine XL.splitF rfl rfl rfl rfl (D.eqS2 rfl rfl) (fun _ => ?_) (fun _ => ?_) | (apply XL.det0F rfl rfl rfl rfl; first | exact D.eqNilS rfl rfl | exact D.boolEq rfl rfl | exact D.eqNilP rfl rfl))) <;>
    ((apply XL.det0F rfl rfl rfl rfl; first | exact D.pickT rfl rfl | exact D.pickF rfl rfl | exact D.pick rfl rfl rfl)) <;>
    ((apply XL.det0F rfl rfl rfl rfl; exact D.move rfl)) <;>
    (first | refine XL.skipF rfl rfl rfl rfl ?_ | ((apply XL.det0F rfl rfl rfl rfl; exact D.move rfl))) <;>
    (first | refine XL.skipF rfl rfl rfl rfl ?_ | (first | refine XL.cmpTF rfl rfl rfl rfl (D.int rfl rfl rfl) (by omega) ?_ | refine XL.cmpFF rfl rfl rfl rfl (D.int rfl rfl rfl) (by omega) ?_ | refine XL.splitF rfl rfl rfl rfl (D.int rfl rfl rfl) (fun _ => ?_) (fun _ => ?_) | refine XL.cmpTF rfl rfl rfl rfl (D.eqS2 rfl rfl) (by omega) ?_ | refine XL.cmpFF rfl rfl rfl rfl (D.eqS2 rfl rfl) (by omega) ?_ | refine XL.splitF rfl rfl rfl rfl (D.eqS2 rfl rfl) (fun _ => ?_) (fun _ => ?_) | (apply XL.det0F rfl rfl rfl rfl; first | exact D.eqNilS rfl rfl | exact D.boolEq rfl rfl | exact D.eqNilP rfl rfl))) <;>
    ((apply XL.det0F rfl rfl rfl rfl; first | exact D.pickT rfl rfl | exact D.pickF rfl rfl | exact D.pick rfl rfl rfl)) <;>
    ((apply XL.det0F rfl rfl rfl rfl; exact D.move rfl)) <;>
    (first | refine XL.skipF rfl rfl rfl rfl ?_ | (first | refine XL.skipF rfl rfl rfl rfl ?_ | (refine XL.call rfl rfl rfl rfl (fun w hw => awake_spec w) ?_; rintro v B' ⟨rfl, rfl⟩; refine XL.both ?_))) <;>
    ((apply XL.det0F rfl rfl rfl rfl; first | exact D.pickT rfl rfl | exact D.pickF rfl rfl | exact D.pick rfl rfl rfl)) <;>
    ((apply XL.det0F rfl rfl rfl rfl; exact D.assign rfl)) <;>
    (refine XL.nil ?_)) <;> (first | refine Ex.then ?_ | (refine N.next ?_ <;> ((refine X.ret ?_; (repeat (first | refine Rt.then ?_ | refine Rt.block ?_ | refine Rt.scope ?_)); (first | apply Rt.done (Res.r1 Try.results4 (RV.tmp rfl)) | apply Rt.doneM (Res.r1 Try.results4 (RV.tmp rfl))); (focus (first | exact ⟨rfl, rfl⟩ | omega)); exact fun w h => h.takes)))))))))))) <;> (first | refine Ex.then ?_ | (refine N.next ?_ <;> (refine X.seq ?_ <;> (refine X.text (L := (.op .fin 0 (.op .fin 1 (.op .fin 2 (.op .fin 3 (.op .fin 4 (.op .fin 5 (.op .fin 6 .nil)))))))) rfl (by kernel_rfl) ?_ <;>
    ((apply XL.detF rfl rfl rfl rfl; first | exact D.load1 rfl (fun w h => h.cellAt (Loc.at_) rfl) | exact D.loadN rfl rfl (fun w h j u hu => by rw [at_add, Nat.zero_add]; exact h.cellAt (Loc.at_) hu) | exact D.loadP rfl rfl)) <;>
    ((obtain rfl : h9 = 0 := (by omega)); (obtain ⟨hG2, hs2⟩ := hX.good); (refine XL.call rfl rfl rfl rfl (fun w hw => Encode_spec x2 a2 c2 w (hw.rd (a := a2))) ?_; rintro v B' ⟨u, i9, rfl, hI, _, hI1, rfl⟩; refine XL.both ?_); (obtain rfl : i9 = 0 := hI.unique hG2.1); (obtain rfl : u = s := (by rw [hI1 rfl, ← hs2]))) <;>
    ((apply XL.det0F rfl rfl rfl rfl; exact D.move rfl)) <;>
    ((apply XL.det0F rfl rfl rfl rfl; exact D.extract rfl rfl)) <;>
    ((apply XL.det0F rfl rfl rfl rfl; exact D.extract rfl rfl)) <;>
    ((apply XL.det0F rfl rfl rfl rfl; exact D.assign rfl)) <;>
    ((apply XL.det0F rfl rfl rfl rfl; exact D.assign rfl)) <;>
    (refine XL.nil ?_)) <;> (first | refine Ex.then ?_ | (refine N.next ?_ <;> (refine X.seq ?_ <;> (refine X.text (L := (.op .fin 0 (.op .fin 1 (.op .fin 2 (.op .fin 3 (.op .fin 4 (.op .fin 5 (.op .fin 6 (.op .fin 7 (.op .fin 8 (.op .fin 9 (.op .fin 10 .nil)))))))))))) rfl (by kernel_rfl) ?_ <;>
    ((apply XL.det0F rfl rfl rfl rfl; exact D.move rfl)) <;>
    (first | refine XL.cmpTF rfl rfl rfl rfl (D.int rfl rfl rfl) (by omega) ?_ | refine XL.cmpFF rfl rfl rfl rfl (D.int rfl rfl rfl) (by omega) ?_ | refine XL.splitF rfl rfl rfl rfl (D.int rfl rfl rfl) (fun _ => ?_) (fun _ => ?_) | refine XL.cmpTF rfl rfl rfl rfl (D.eqS2 rfl rfl) (by omega) ?_ | refine XL.cmpFF rfl rfl rfl rfl (D.eqS2 rfl rfl) (by omega) ?_ | refine XL.splitF rfl rfl rfl rfl (D.eqS2 rfl rfl) (fun _ => ?_) (fun _ => ?_) | (apply XL.det0F rfl rfl rfl rfl; first | exact D.eqNilS rfl rfl | exact D.boolEq rfl rfl | exact D.eqNilP rfl rfl)) <;>
    ((apply XL.det0F rfl rfl rfl rfl; exact D.move rfl)) <;>
    (first | refine XL.skipF rfl rfl rfl rfl ?_ | ((apply XL.det0F rfl rfl rfl rfl; exact D.move rfl))) <;>
    (first | refine XL.skipF rfl rfl rfl rfl ?_ | ((apply XL.det0F rfl rfl rfl rfl; exact D.move rfl))) <;>
    (first | refine XL.skipF rfl rfl rfl rfl ?_ | ((apply XL.det0F rfl rfl rfl rfl; exact D.strEq rfl rfl); rw [decide_eq_true (rfl : u = u)])) <;>
    ((apply XL.det0F rfl rfl rfl rfl; first | exact D.pickT rfl rfl | exact D.pickF rfl rfl | exact D.pick rfl rfl rfl)) <;>
    ((apply XL.det0F rfl rfl rfl rfl; exact D.move rfl)) <;>
    (first | refine XL.skipF rfl rfl rfl rfl ?_ | ((refine XL.call rfl rfl rfl rfl (fun w hw => awake_spec w) ?_; rintro v B' ⟨rfl, rfl⟩; refine XL.both ?_))) <;>
    ((apply XL.det0F rfl rfl rfl rfl; first | exact D.pickT rfl rfl | exact D.pickF rfl rfl | exact D.pick rfl rfl rfl)) <;>
    ((apply XL.det0F rfl rfl rfl rfl; exact D.assign rfl)) <;>
    (refine XL.nil ?_)) <;> (first | refine Ex.then ?_ | (refine N.next ?_ <;> ((refine X.ret ?_; (repeat (first | refine Rt.then ?_ | refine Rt.block ?_ | refine Rt.scope ?_)); (first | apply Rt.done (Res.r1 Try.results4 (RV.tmp rfl)) | apply Rt.doneM (Res.r1 Try.results4 (RV.tmp rfl))); (focus (first | exact ⟨rfl, rfl⟩ | omega)); exact fun w h => h.takes)))))))))))))))))))))))
end Go.Lx
