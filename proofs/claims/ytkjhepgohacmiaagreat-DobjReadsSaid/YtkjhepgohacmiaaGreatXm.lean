/- Own layer, part m: what changes memory and has to do with strings: appends of a string's bytes, ranges over a string. Plain theorems. -/
import Derived.Test.YtkjhepgohacmiaaGreatXl
namespace Go.Lx
set_option linter.unusedVariables false
set_option linter.unusedSimpArgs false

section
variable {P : Program} {w : World}
theorem encY_arr (l : Bs) : (encY l).toArray = (ByteArray.mk l.toArray).data.map fun b => Value.int .u8 (b.toNat : Int) := by
  rw [encY_map]
  simp
theorem append_str (t u ty e : TypeId) {sz bytes : Nat} (hs1 : sz = 1) (hb1 : bytes = 1) [ht : SlT P t e] [hu : StrT P u] [he : ElT P e sz bytes] (v : Value) (n : Nat) (xs : List Value) (hown : w.ownsRow 0 e sz v n xs) (l : Bs) (h63 : n + l.length ≤ maxLen) (hbytes : n + l.length ≤ 140737488355328) :
    ∃ a' c' w', (Builtin.append_ #[t, u] ty #[v, .string ⟨l.toArray⟩]).run P w = .ok (.slice a' (n + l.length) c') w' ∧ w'.ownsRow 0 e sz (.slice a' (n + l.length) c') (n + l.length) (xs ++ encY l) ∧ w.grownBy w' v.ownBlock ∧
      w.drawn ≤ w'.drawn ∧ (∀ b, (Value.slice a' (n + l.length) c').ownBlock = some b → v.ownBlock = some b ∨ w.heap.size ≤ b) := by
  obtain ⟨i, z, hi, hz, rfl, rfl, hzs, hsz⟩ := he.info
  have hsmall : n + l.length ≤ 9223372036854775807 := by simp only [maxLen] at h63; omega
  have hl : (encY l).length = l.length * i.size := by rw [encY_len, hs1, Nat.mul_one]
  have hlen : (xs ++ encY l).length = (n + l.length) * i.size := by rw [List.length_append, hown.1, hl, Nat.add_mul]
  have hss := str_size l
  have h1 := encY_one l
  rcases hown.2 with ⟨rfl, rfl⟩ | ⟨g, cap, cur, rfl, hbg, hg, hnc, hcm, hcs, htake⟩
  · have hx : xs = [] := List.eq_nil_of_length_eq_zero (by simpa using hown.1)
    subst hx
    by_cases hm : l.length = 0
    · have hn : l = [] := List.eq_nil_of_length_eq_zero hm
      subst hn
      refine ⟨none, 0, w, ?_, World.ownsRow_nil w 0 e i.size, ⟨rfl, rfl, rfl, Nat.le_refl _, fun _ _ _ => rfl⟩, Nat.le_refl _, by simp [Value.ownBlock]⟩
      have e0 : (ByteArray.mk #[]) = ByteArray.empty := rfl
      have e1 : (ByteArray.mk #[]).size = 0 := rfl
      simp [Builtin.append_, run_underlying ht.und, run_underlying hu.und, sizeOf, typeInfo, hi, Builtin.lenOf, Builtin.firstCells, e0, e1]
    · have hr := run_append_nil_string (P := P) w t u ty e i z ht.und hu.und hi hz ⟨l.toArray⟩ (by rw [hss]; omega) (by rw [hss]; omega) (by rw [hss, hb1]; omega)
      have hgr := grown_new (w := w) (n := 0) (old := 0) (e := e) (xs := []) hzs (by simp) hl h63 (Value.ownBlock (.slice none 0 0))
      rw [hss, ← encY_arr] at hr
      simp only [Nat.zero_add, List.nil_append, Array.empty_append] at hgr ⊢
      exact ⟨_, _, _, hr, hgr.1, hgr.2, by simp, fun b hb => by simp [Value.ownBlock] at hb; omega⟩
  · by_cases hroom : n + l.length ≤ cap
    · have hfit : n * i.size + (encY l).length ≤ cur.size := by rw [hl, hcs, ← Nat.add_mul]; exact Nat.mul_le_mul_right _ hroom
      have hr := Lib.run_append_room_string (P := P) w t u ty e i ht.und hu.und hi hs1 g n cap cur hg ⟨l.toArray⟩ (by rw [hss]; exact hroom) (by rw [hss]; rw [hs1, Nat.mul_one, encY_len] at hfit; exact hfit)
      rw [hss, encY_str] at hr
      have htake' : cur.toList.take n = xs := by rw [← htake, hs1, Nat.mul_one]
      refine ⟨_, _, _, hr, ⟨hlen, .inr ⟨g, cap, _, rfl, hbg, setRow_heap w g cur _ e _ hg, hroom, hcm, ?_, ?_⟩⟩, ⟨rfl, rfl, rfl, by simp [World.setRow], fun k _ hk => setRow_other w g _ k (fun e => hk (by simp [Value.ownBlock, e]))⟩, Nat.le_refl _, fun b hb => .inl hb⟩
      · simp only [List.size_toArray, List.length_append, List.length_take, List.length_drop, Array.length_toList]
        rw [encY_len]
        rw [hs1, Nat.mul_one, encY_len] at hfit
        omega
      · rw [htake', ← hlen]
        exact List.take_left
    · have holds : ∀ j u, xs[j]? = some u → w.cell? ((⟨g, 0, none⟩ : Addr).add j) = some u := hown.cells (g := g) rfl
      have hr := Lib.run_append_grow_string (P := P) w t u ty e i z ht.und hu.und hi hz ⟨g, 0, none⟩ n cap xs hown.1 holds ⟨l.toArray⟩ (by rw [hss]; omega) (by rw [hss]; omega) (by rw [hss]; exact growslice_fits (by omega) (by rw [hb1, Nat.mul_one]; exact hbytes))
      rw [hss, encY_str] at hr
      have hgr := grown_new (w := w) (n := n) (old := cap) (e := e) hzs hown.1 hl h63 (Value.ownBlock (.slice (some ⟨g, 0, none⟩) n cap))
      exact ⟨_, _, _, hr, hgr.1, hgr.2, by simp, fun b hb => by simp [Value.ownBlock] at hb; omega⟩
end

variable {C : Cx} {A A' A1 A2 B B' : List Assn} {w : World} {Q : Exit → Act → World → Prop} {S : World → Prop} {env : Env} {ops : Array Oper} {r : Sd} {i d : Nat} {o : Oper} {v : Value} {cl : Cl}
variable {ty T : TypeId} {pos : String} {af : Array Edge} {gd : Option (Nat × Bool)} {x y : Operand}

/-- An append of a string's bytes to an own row of bytes. -/
theorem XL.appendS {t u e n c : Nat} {a : Option Addr} {xs : List Value} (l : Bs) (ho : ops[i]? = some ⟨some d, .call ⟨.builtin .append, #[x, y], #[t, u]⟩, ty, pos, af, gd⟩) (hg : gok ops env ⟨some d, .call ⟨.builtin .append, #[x, y], #[t, u]⟩, ty, pos, af, gd⟩ = some true) (hdn : Nat.blt d C.n.n = true)
    [ht : SlT C.P t e] [hu : StrT C.P u] [he : ElT C.P e 1 1] (hx : ev env x = some (.slice a n c)) (hy : ev env y = some (.string ⟨l.toArray⟩)) {j : Nat}
    [ho2 : OwnAt A (.slice a n c) e 1 n xs j] [t1 : Take A (own e 1 (.slice a n c) n xs) A1]
    (h63 : n + l.length ≤ 140737488355328)
    (haf : ∀ a' c', After cl S C (own e 1 (.slice a' (n + l.length) c') (n + l.length) (xs ++ encY l) :: A1))
    (k : ∀ a' c', XL C ops Q S r ((d, .slice a' (n + l.length) c') :: env) (own e 1 (.slice a' (n + l.length) c') (n + l.length) (xs ++ encY l) :: A1)) : XL C ops Q S (.op cl i r) env A := by
  refine XL.chg ho hg rfl hdn fun ac w hE hc => ?_
  have hc2 := hc.perm t1.perm
  obtain ⟨F, hF, _⟩ := hc2.get (i := 0) rfl
  obtain ⟨a', c', w', hr, h2, h3, hdr, h4⟩ := append_str (P := C.P) t u ty e rfl rfl (.slice a n c) n xs hF.1 l (by unfold maxLen; omega) h63
  refine ⟨_, _, w', ?_, hc2.appended h2 h3 hdr h4, haf a' c', k a' c'⟩
  simp [execOp, resolve, invoke, builtin, hE.ev hx, hE.ev hy, hr]

/-! ### ranges over a string -/
def iterA (g : Nat) (l : Bs) (p : Nat) : Assn where
  holds w F := w.heap[g]? = some (.stringIter ⟨l.toArray⟩ p) ∧ ∀ b, F b ↔ b = g
  loc := fun ⟨h, hF⟩ hk => ⟨(hk g ((hF g).2 rfl)).trans h, hF⟩
  dom := fun ⟨h, hF⟩ hb => by
    rw [(hF _).1 hb]
    exact (Array.getElem?_eq_some_iff.1 h).1
class IterA (A : List Assn) (g : Nat) (l : outParam Bs) (p : outParam Nat) (i : outParam Nat) : Prop where at_ : A[i]? = some (iterA g l p)
instance {A : List Assn} {g : Nat} {l : Bs} {p : Nat} : IterA (iterA g l p :: A) g l p 0 := ⟨rfl⟩
instance (priority := low) {A : List Assn} {q : Assn} {g : Nat} {l : Bs} {p i : Nat} [h : IterA A g l p i] : IterA (q :: A) g l p (i + 1) := ⟨by simpa using h.at_⟩

theorem XL.rangeS {t : TypeId} {l : Bs} [ht : StrT C.P t] (ho : ops[i]? = some ⟨some d, .range t x, ty, pos, af, gd⟩) (hg : gok ops env ⟨some d, .range t x, ty, pos, af, gd⟩ = some true) (hdn : Nat.blt d C.n.n = true)
    (hx : ev env x = some (.string ⟨l.toArray⟩)) (haf : ∀ g, After cl S C (iterA g l 0 :: A)) (k : ∀ g, XL C ops Q S r ((d, .pointer (some ⟨g, 0, none⟩)) :: env) (iterA g l 0 :: A)) : XL C ops Q S (.op cl i r) env A := by
  refine XL.chg ho hg rfl hdn fun ac w he hc => ?_
  refine ⟨_, _, w.iter ⟨l.toArray⟩ 0, by simp [execOp, he.ev hx, run_range_string w t _ ht.und], ?_, haf w.heap.size, k w.heap.size⟩
  exact hc.new (q := iterA w.heap.size l 0) rfl rfl rfl (by simp [World.iter]) (Nat.le_refl _) (fun b hb => RowKit.Below.heap_alloc w _ b hb) ⟨fun b => b = w.heap.size, ⟨World.iter_heap w _ 0, fun b => Iff.rfl⟩, fun b hb => by rw [hb]; exact Nat.le_refl _⟩

theorem decode_low (l : Bs) (p : Nat) (b : UInt8) (hb : l[p]? = some b) : (b.toNat < 128 → Utf8.decode ⟨l.toArray⟩ p = (b.toNat, 1)) ∧ (128 ≤ b.toNat → 128 ≤ (Utf8.decode ⟨l.toArray⟩ p).1) := by
  obtain ⟨hp, he⟩ := List.getElem?_eq_some_iff.1 hb
  have hp' : p < (ByteArray.mk l.toArray).size := by rw [str_size]; exact hp
  have e : (ByteArray.mk l.toArray)[p]'hp' = b := by rw [str_get]; exact he
  refine ⟨fun h => ?_, fun h => ?_⟩
  · have := decode_ascii ⟨l.toArray⟩ p hp' (by rw [e]; exact h)
    rw [this, e]
  · have e0 : (ByteArray.mk l.toArray).get! (p + 0) = b := by
      show (ByteArray.mk l.toArray).get! p = b
      simp [ByteArray.get!, hb]
    have hn : ¬ b.toNat < 128 := by omega
    have hre : 128 ≤ Utf8.runeError := by decide
    unfold Utf8.decode
    simp only [e0, hn, if_false]
    repeat' split
    all_goals first | exact hre | (rename_i h1; first | (dsimp only; omega) | (simp at h1; dsimp only; omega))
theorem run_next (w : World) (P : Program) (g : Nat) (l : Bs) (p : Nat) (ty : TypeId) (hg : w.heap[g]? = some (.stringIter ⟨l.toArray⟩ p)) (h : p < l.length) :
    (Instr.next (.pointer (some ⟨g, 0, none⟩)) true ty).run P w = .ok (.tuple #[.bool true, .int .i64 (p : Int), .int .i32 ((Utf8.decode ⟨l.toArray⟩ p).1 : Int)]) { w with heap := w.heap.setIfInBounds g (.stringIter ⟨l.toArray⟩ (p + (Utf8.decode ⟨l.toArray⟩ p).2)) } := by
  simp [Instr.next, getObj, setObj, Sem.run, hg, str_size, h, goInt]

theorem XL.next {g p j : Nat} {l : Bs} {b : UInt8} [hl : IterA A g l p j] (ho : ops[i]? = some ⟨some d, .next y true, ty, pos, af, gd⟩) (hg : gok ops env ⟨some d, .next y true, ty, pos, af, gd⟩ = some true) (hdn : Nat.blt d C.n.n = true)
    (hy : ev env y = some (.pointer (some ⟨g, 0, none⟩))) (hb : l[p]? = some b) {D : Nat → List Assn} [hupd : ∀ q, Upd A j (iterA g l q) (D q)]
    (k : ∀ c q : Nat, (b.toNat < 128 → c = b.toNat ∧ q = p + 1) → (128 ≤ b.toNat → 128 ≤ c) → After cl S C (D q) ∧ XL C ops Q S r ((d, .tuple #[.bool true, .int .i64 (p : Int), .int .i32 (c : Int)]) :: env) (D q)) : XL C ops Q S (.op cl i r) env A := by
  obtain ⟨hp, _⟩ := List.getElem?_eq_some_iff.1 hb
  have hd := decode_low l p b hb
  refine XL.chg ho hg rfl hdn fun ac w he hc => ?_
  obtain ⟨F, ⟨hh, hF⟩, _⟩ := hc.get hl.at_
  obtain ⟨haf, hk⟩ := k (Utf8.decode ⟨l.toArray⟩ p).1 (p + (Utf8.decode ⟨l.toArray⟩ p).2) (fun h => by rw [hd.1 h]; exact ⟨rfl, rfl⟩) hd.2
  refine ⟨_, _, _, by simp [execOp, he.ev hy, run_next w C.P g l p ty hh hp]; rfl, ?_, haf, hk⟩
  have hgs := (Array.getElem?_eq_some_iff.1 hh).1
  rw [← (hupd _).eq]
  exact hc.update hl.at_ rfl rfl rfl (by simp) (Nat.le_refl _) fun F' ⟨h1, h2⟩ => ⟨F', ⟨by simp [hgs], h2⟩, fun b hb => .inl hb, fun b hb hn => by
    have : b ≠ g := fun e => hn ((h2 b).2 e)
    simp [Array.getElem?_setIfInBounds, Ne.symm this]⟩
theorem XL.nextEnd {g p j : Nat} {l : Bs} [hl : IterA A g l p j] (ho : ops[i]? = some ⟨some d, .next y true, ty, pos, af, gd⟩) (hg : gok ops env ⟨some d, .next y true, ty, pos, af, gd⟩ = some true) (hdn : Nat.blt d C.n.n = true)
    (hy : ev env y = some (.pointer (some ⟨g, 0, none⟩))) (hb : l.length ≤ p) (haf : After cl S C A) (k : XL C ops Q S r ((d, .tuple #[.bool false]) :: env) A) : XL C ops Q S (.op cl i r) env A := by
  refine XL.chg ho hg rfl hdn fun ac w he hc => ?_
  obtain ⟨F, ⟨hh, hF⟩, _⟩ := hc.get hl.at_
  have : ¬ p < l.length := by omega
  exact ⟨_, _, w, by simp [execOp, he.ev hy, Instr.next, getObj, Sem.run, hh, str_size, this], hc, haf, k⟩
end Go.Lx
