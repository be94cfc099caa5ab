/- Texts Tz Xm Wa, merged: a claim has at most 60 files. -/
import Derived.Test.YthgnlbibdiileaaGreatM4
import Derived.Test.YthgnlbibdiileaaGreatM8
import Derived.KernelRfl
/- The structs of this seat that may be compared, as instances of the own layer. Printed by gen_ty.py. -/
namespace Go.Lx
open Go.Proofs
set_option maxRecDepth 100000
theorem eqc63 : EqC Tryz.prog 63 2 [.I .i64, .I .i64] := EqC.mk' Tryz.underlying63 (by kernel_rfl) (by kernel_rfl) (.leaf (.I .i64) (by kernel_rfl) Tryz.underlying3 (.leaf (.I .i64) (by kernel_rfl) Tryz.underlying3 .nil))
instance : EqC Tryz.prog 63 2 [.I .i64, .I .i64] := eqc63
theorem eqc68 : EqC Tryz.prog 68 2 [.I .i64, .I .i64] := EqC.mk' Tryz.underlying68 (by kernel_rfl) (by kernel_rfl) (.leaf (.I .i64) (by kernel_rfl) Tryz.underlying3 (.leaf (.I .i64) (by kernel_rfl) Tryz.underlying3 .nil))
instance : EqC Tryz.prog 68 2 [.I .i64, .I .i64] := eqc68
theorem eqc70 : EqC Tryz.prog 70 4 [.I .i64, .I .i64, .I .i64, .I .i64] := EqC.mk' Tryz.underlying70 (by kernel_rfl) (by kernel_rfl) (.sub (l1 := [.I .i64, .I .i64]) (m := 2) (n := 2) (by kernel_rfl) eqc63 (by decide) (inferInstance : Sz Tryz.prog 63 2) (inferInstance : Ag Tryz.prog 63) (.sub (l1 := [.I .i64, .I .i64]) (m := 2) (n := 2) (by kernel_rfl) eqc68 (by decide) (inferInstance : Sz Tryz.prog 68 2) (inferInstance : Ag Tryz.prog 68) .nil))
instance : EqC Tryz.prog 70 4 [.I .i64, .I .i64, .I .i64, .I .i64] := eqc70
end Go.Lx

/- Own layer, part m: what changes memory and has to do with strings: appends of a string's bytes, ranges over a string. Plain theorems. -/
namespace Go.Lx
set_option linter.unusedVariables false
set_option linter.unusedSimpArgs false

section
variable {P : Program} {w : World}
theorem encY_arr (l : Bs) : (encY l).toArray = (ByteArray.mk l.toArray).data.map fun b => Value.int .u8 (b.toNat : Int) := by
  rw [encY_map]
  simp
theorem append_str (t u ty e : TypeId) {sz bytes : Nat} (hs1 : sz = 1) (hb1 : bytes = 1) [ht : SlT P t e] [hu : StrT P u] [he : ElT P e sz bytes] (v : Value) (n : Nat) (xs : List Value) (hown : w.ownsRow 0 e sz v n xs) (l : Bs) (h63 : n + l.length ≤ maxLen) (hbytes : n + l.length ≤ 140737488355328) :
    ∃ a' c' w', (Builtin.append_ #[t, u] ty #[v, .string ⟨l.toArray⟩]).run P w = .ok (.slice a' (n + l.length) c') w' ∧ w'.ownsRow 0 e sz (.slice a' (n + l.length) c') (n + l.length) (xs ++ encY l) ∧ w.grownBy w' v.ownBlock ∧
      w.drawn ≤ w'.drawn ∧ (∀ b, (Value.slice a' (n + l.length) c').ownBlock = some b → v.ownBlock = some b ∨ w.heap.size ≤ b) := by
  obtain ⟨i, z, hi, hz, rfl, rfl, hzs, hsz⟩ := he.info
  have hsmall : n + l.length ≤ 9223372036854775807 := by simp only [maxLen] at h63; omega
  have hl : (encY l).length = l.length * i.size := by rw [encY_len, hs1, Nat.mul_one]
  have hlen : (xs ++ encY l).length = (n + l.length) * i.size := by rw [List.length_append, hown.1, hl, Nat.add_mul]
  have hss := str_size l
  have h1 := encY_one l
  rcases hown.2 with ⟨rfl, rfl⟩ | ⟨g, cap, cur, rfl, hbg, hg, hnc, hcm, hcs, htake⟩
  · have hx : xs = [] := List.eq_nil_of_length_eq_zero (by simpa using hown.1)
    subst hx
    by_cases hm : l.length = 0
    · have hn : l = [] := List.eq_nil_of_length_eq_zero hm
      subst hn
      refine ⟨none, 0, w, ?_, World.ownsRow_nil w 0 e i.size, ⟨rfl, rfl, rfl, Nat.le_refl _, fun _ _ _ => rfl⟩, Nat.le_refl _, by simp [Value.ownBlock]⟩
      have e0 : (ByteArray.mk #[]) = ByteArray.empty := rfl
      have e1 : (ByteArray.mk #[]).size = 0 := rfl
      simp [Builtin.append_, run_underlying ht.und, run_underlying hu.und, sizeOf, typeInfo, hi, Builtin.lenOf, Builtin.firstCells, e0, e1]
    · have hr := run_append_nil_string (P := P) w t u ty e i z ht.und hu.und hi hz ⟨l.toArray⟩ (by rw [hss]; omega) (by rw [hss]; omega) (by rw [hss, hb1]; omega)
      have hgr := grown_new (w := w) (n := 0) (old := 0) (e := e) (xs := []) hzs (by simp) hl h63 (Value.ownBlock (.slice none 0 0))
      rw [hss, ← encY_arr] at hr
      simp only [Nat.zero_add, List.nil_append, Array.empty_append] at hgr ⊢
      exact ⟨_, _, _, hr, hgr.1, hgr.2, by simp, fun b hb => by simp [Value.ownBlock] at hb; omega⟩
  · by_cases hroom : n + l.length ≤ cap
    · have hfit : n * i.size + (encY l).length ≤ cur.size := by rw [hl, hcs, ← Nat.add_mul]; exact Nat.mul_le_mul_right _ hroom
      have hr := Lib.run_append_room_string (P := P) w t u ty e i ht.und hu.und hi hs1 g n cap cur hg ⟨l.toArray⟩ (by rw [hss]; exact hroom) (by rw [hss]; rw [hs1, Nat.mul_one, encY_len] at hfit; exact hfit)
      rw [hss, encY_str] at hr
      have htake' : cur.toList.take n = xs := by rw [← htake, hs1, Nat.mul_one]
      refine ⟨_, _, _, hr, ⟨hlen, .inr ⟨g, cap, _, rfl, hbg, setRow_heap w g cur _ e _ hg, hroom, hcm, ?_, ?_⟩⟩, ⟨rfl, rfl, rfl, by simp [World.setRow], fun k _ hk => setRow_other w g _ k (fun e => hk (by simp [Value.ownBlock, e]))⟩, Nat.le_refl _, fun b hb => .inl hb⟩
      · simp only [List.size_toArray, List.length_append, List.length_take, List.length_drop, Array.length_toList]
        rw [encY_len]
        rw [hs1, Nat.mul_one, encY_len] at hfit
        omega
      · rw [htake', ← hlen]
        exact List.take_left
    · have holds : ∀ j u, xs[j]? = some u → w.cell? ((⟨g, 0, none⟩ : Addr).add j) = some u := hown.cells (g := g) rfl
      have hr := Lib.run_append_grow_string (P := P) w t u ty e i z ht.und hu.und hi hz ⟨g, 0, none⟩ n cap xs hown.1 holds ⟨l.toArray⟩ (by rw [hss]; omega) (by rw [hss]; omega) (by rw [hss]; exact growslice_fits (by omega) (by rw [hb1, Nat.mul_one]; exact hbytes))
      rw [hss, encY_str] at hr
      have hgr := grown_new (w := w) (n := n) (old := cap) (e := e) hzs hown.1 hl h63 (Value.ownBlock (.slice (some ⟨g, 0, none⟩) n cap))
      exact ⟨_, _, _, hr, hgr.1, hgr.2, by simp, fun b hb => by simp [Value.ownBlock] at hb; omega⟩
end

variable {C : Cx} {A A' A1 A2 B B' : List Assn} {w : World} {Q : Exit → Act → World → Prop} {S : World → Prop} {env : Env} {ops : Array Oper} {r : Sd} {i d : Nat} {o : Oper} {v : Value} {cl : Cl}
variable {ty T : TypeId} {pos : String} {af : Array Edge} {gd : Option (Nat × Bool)} {x y : Operand}

/-- An append of a string's bytes to an own row of bytes. -/
theorem XL.appendS {t u e n c : Nat} {a : Option Addr} {xs : List Value} (l : Bs) (ho : ops[i]? = some ⟨some d, .call ⟨.builtin .append, #[x, y], #[t, u]⟩, ty, pos, af, gd⟩) (hg : gok ops env ⟨some d, .call ⟨.builtin .append, #[x, y], #[t, u]⟩, ty, pos, af, gd⟩ = some true) (hdn : Nat.blt d C.n.n = true)
    [ht : SlT C.P t e] [hu : StrT C.P u] [he : ElT C.P e 1 1] (hx : ev env x = some (.slice a n c)) (hy : ev env y = some (.string ⟨l.toArray⟩)) {j : Nat}
    [ho2 : OwnAt A (.slice a n c) e 1 n xs j] [t1 : Take A (own e 1 (.slice a n c) n xs) A1]
    (h63 : n + l.length ≤ 140737488355328)
    (haf : ∀ a' c', After cl S C (own e 1 (.slice a' (n + l.length) c') (n + l.length) (xs ++ encY l) :: A1))
    (k : ∀ a' c', XL C ops Q S r ((d, .slice a' (n + l.length) c') :: env) (own e 1 (.slice a' (n + l.length) c') (n + l.length) (xs ++ encY l) :: A1)) : XL C ops Q S (.op cl i r) env A := by
  refine XL.chg ho hg rfl hdn fun ac w hE hc => ?_
  have hc2 := hc.perm t1.perm
  obtain ⟨F, hF, _⟩ := hc2.get (i := 0) rfl
  obtain ⟨a', c', w', hr, h2, h3, hdr, h4⟩ := append_str (P := C.P) t u ty e rfl rfl (.slice a n c) n xs hF.1 l (by unfold maxLen; omega) h63
  refine ⟨_, _, w', ?_, hc2.appended h2 h3 hdr h4, haf a' c', k a' c'⟩
  simp [execOp, resolve, invoke, builtin, hE.ev hx, hE.ev hy, hr]

/-! ### ranges over a string -/
def iterA (g : Nat) (l : Bs) (p : Nat) : Assn where
  holds w F := w.heap[g]? = some (.stringIter ⟨l.toArray⟩ p) ∧ ∀ b, F b ↔ b = g
  loc := fun ⟨h, hF⟩ hk => ⟨(hk g ((hF g).2 rfl)).trans h, hF⟩
  dom := fun ⟨h, hF⟩ hb => by
    rw [(hF _).1 hb]
    exact (Array.getElem?_eq_some_iff.1 h).1
class IterA (A : List Assn) (g : Nat) (l : outParam Bs) (p : outParam Nat) (i : outParam Nat) : Prop where at_ : A[i]? = some (iterA g l p)
instance {A : List Assn} {g : Nat} {l : Bs} {p : Nat} : IterA (iterA g l p :: A) g l p 0 := ⟨rfl⟩
instance (priority := low) {A : List Assn} {q : Assn} {g : Nat} {l : Bs} {p i : Nat} [h : IterA A g l p i] : IterA (q :: A) g l p (i + 1) := ⟨by simpa using h.at_⟩

theorem decode_low (l : Bs) (p : Nat) (b : UInt8) (hb : l[p]? = some b) : (b.toNat < 128 → Utf8.decode ⟨l.toArray⟩ p = (b.toNat, 1)) ∧ (128 ≤ b.toNat → 128 ≤ (Utf8.decode ⟨l.toArray⟩ p).1) := by
  obtain ⟨hp, he⟩ := List.getElem?_eq_some_iff.1 hb
  have hp' : p < (ByteArray.mk l.toArray).size := by rw [str_size]; exact hp
  have e : (ByteArray.mk l.toArray)[p]'hp' = b := by rw [str_get]; exact he
  refine ⟨fun h => ?_, fun h => ?_⟩
  · have := decode_ascii ⟨l.toArray⟩ p hp' (by rw [e]; exact h)
    rw [this, e]
  · have e0 : (ByteArray.mk l.toArray).get! (p + 0) = b := by
      show (ByteArray.mk l.toArray).get! p = b
      simp [ByteArray.get!, hb]
    have hn : ¬ b.toNat < 128 := by omega
    have hre : 128 ≤ Utf8.runeError := by decide
    unfold Utf8.decode
    simp only [e0, hn, if_false]
    repeat' split
    all_goals first | exact hre | (rename_i h1; first | (dsimp only; omega) | (simp at h1; dsimp only; omega))
theorem run_next (w : World) (P : Program) (g : Nat) (l : Bs) (p : Nat) (ty : TypeId) (hg : w.heap[g]? = some (.stringIter ⟨l.toArray⟩ p)) (h : p < l.length) :
    (Instr.next (.pointer (some ⟨g, 0, none⟩)) true ty).run P w = .ok (.tuple #[.bool true, .int .i64 (p : Int), .int .i32 ((Utf8.decode ⟨l.toArray⟩ p).1 : Int)]) { w with heap := w.heap.setIfInBounds g (.stringIter ⟨l.toArray⟩ (p + (Utf8.decode ⟨l.toArray⟩ p).2)) } := by
  simp [Instr.next, getObj, setObj, Sem.run, hg, str_size, h, goInt]

theorem XL.next {g p j : Nat} {l : Bs} {b : UInt8} [hl : IterA A g l p j] (ho : ops[i]? = some ⟨some d, .next y true, ty, pos, af, gd⟩) (hg : gok ops env ⟨some d, .next y true, ty, pos, af, gd⟩ = some true) (hdn : Nat.blt d C.n.n = true)
    (hy : ev env y = some (.pointer (some ⟨g, 0, none⟩))) (hb : l[p]? = some b) {D : Nat → List Assn} [hupd : ∀ q, Upd A j (iterA g l q) (D q)]
    (k : ∀ c q : Nat, (b.toNat < 128 → c = b.toNat ∧ q = p + 1) → (128 ≤ b.toNat → 128 ≤ c) → After cl S C (D q) ∧ XL C ops Q S r ((d, .tuple #[.bool true, .int .i64 (p : Int), .int .i32 (c : Int)]) :: env) (D q)) : XL C ops Q S (.op cl i r) env A := by
  obtain ⟨hp, _⟩ := List.getElem?_eq_some_iff.1 hb
  have hd := decode_low l p b hb
  refine XL.chg ho hg rfl hdn fun ac w he hc => ?_
  obtain ⟨F, ⟨hh, hF⟩, _⟩ := hc.get hl.at_
  obtain ⟨haf, hk⟩ := k (Utf8.decode ⟨l.toArray⟩ p).1 (p + (Utf8.decode ⟨l.toArray⟩ p).2) (fun h => by rw [hd.1 h]; exact ⟨rfl, rfl⟩) hd.2
  refine ⟨_, _, _, by simp [execOp, he.ev hy, run_next w C.P g l p ty hh hp]; rfl, ?_, haf, hk⟩
  have hgs := (Array.getElem?_eq_some_iff.1 hh).1
  rw [← (hupd _).eq]
  exact hc.update hl.at_ rfl rfl rfl (by simp) (Nat.le_refl _) fun F' ⟨h1, h2⟩ => ⟨F', ⟨by simp [hgs], h2⟩, fun b hb => .inl hb, fun b hb hn => by
    have : b ≠ g := fun e => hn ((h2 b).2 e)
    simp [Array.getElem?_setIfInBounds, Ne.symm this]⟩
end Go.Lx

/- Numbers in few bytes: plain laws. -/
namespace Go.Lx
set_option linter.unusedVariables false
set_option linter.unusedSimpArgs false

/-- How many bits a number needs. -/
def bl (x : Nat) : Nat := if h : x = 0 then 0 else bl (x / 2) + 1
termination_by x
decreasing_by omega
theorem bl_zero : bl 0 = 0 := by unfold bl; rfl
theorem bl_pos {x : Nat} (h : x ≠ 0) : bl x = bl (x / 2) + 1 := by rw [bl, dif_neg h]
theorem bl_le : ∀ (k x : Nat), bl x ≤ k ↔ x < 2 ^ k
  | 0, x => by
    by_cases h : x = 0
    · subst h; simp [bl_zero]
    · rw [bl_pos h]; simp; exact h
  | k + 1, x => by
    by_cases h : x = 0
    · subst h; rw [bl_zero]; simp [Nat.pow_pos]
    · rw [bl_pos h, Nat.pow_succ]
      have := bl_le k (x / 2)
      omega
theorem bl_shift : ∀ (k x : Nat), 2 ^ k ≤ x → bl x = bl (x / 2 ^ k) + k
  | 0, x, _ => by simp
  | k + 1, x, h => by
    have hp : 0 < 2 ^ k := Nat.pow_pos (by decide)
    rw [Nat.pow_succ] at h
    rw [bl_pos (by omega), bl_shift k (x / 2) (by omega), Nat.div_div_eq_div_mul, Nat.pow_succ, Nat.mul_comm 2]
    omega
/-- How many bytes a number needs. -/
def vsz (x : Nat) : Nat := min (max ((bl x + 6) / 7) 1) 9
theorem vsz_le {x n : Nat} (h1 : 1 ≤ n) (h9 : n < 9) : vsz x ≤ n ↔ x < 128 ^ n := by
  have e : (128 : Nat) ^ n = 2 ^ (7 * n) := by rw [Nat.pow_mul]
  rw [e, ← bl_le]
  unfold vsz
  omega
theorem vsz_bd (x : Nat) : 1 ≤ vsz x ∧ vsz x ≤ 9 := by unfold vsz; omega
/-- The first byte's bits that tell how many there are. -/
def hd (n : Nat) : Nat := 255 - 255 / 2 ^ (n - 1)
def fixB (x : Nat) : Nat → Bs
  | 0 => []
  | n + 1 => UInt8.ofNat (x / 256 ^ n) :: fixB x n
theorem fixB_len (x : Nat) : ∀ n, (fixB x n).length = n
  | 0 => rfl
  | n + 1 => by simp [fixB, fixB_len x n]
def varB (x : Nat) : Bs := UInt8.ofNat (hd (vsz x) + x / 256 ^ (vsz x - 1)) :: fixB x (vsz x - 1)
theorem varB_len (x : Nat) : (varB x).length = vsz x := by
  have := vsz_bd x
  simp [varB, fixB_len]; omega
def numS (x0 : Nat) (l : Bs) : Nat := l.foldl (fun x b => 256 * x + b.toNat) x0
def num (l : Bs) : Nat := numS 0 l
theorem numS_eq : ∀ (l : Bs) (x0 : Nat), numS x0 l = x0 * 256 ^ l.length + num l
  | [], x0 => by simp [numS, num]
  | b :: l, x0 => by
    have h1 := numS_eq l (256 * x0 + b.toNat)
    have h2 := numS_eq l (256 * 0 + b.toNat)
    unfold num
    show numS (256 * x0 + b.toNat) l = _ + numS (256 * 0 + b.toNat) l
    rw [h1, h2]
    simp only [List.length_cons, Nat.pow_succ]
    rw [Nat.mul_zero, Nat.zero_add, Nat.add_mul, Nat.mul_comm 256 x0, Nat.mul_assoc, Nat.mul_comm 256 (256 ^ l.length), Nat.add_assoc]
theorem num_lt : ∀ l : Bs, num l < 256 ^ l.length
  | [] => by simp [num, numS]
  | b :: l => by
    have h := num_lt l
    have hb := b.toNat_lt
    show numS (256 * 0 + b.toNat) l < _
    rw [numS_eq]
    simp only [List.length_cons, Nat.pow_succ, Nat.mul_zero, Nat.zero_add]
    have h3 : b.toNat * 256 ^ l.length ≤ 255 * 256 ^ l.length := Nat.mul_le_mul_right _ (by omega)
    omega
theorem num_cons (b : UInt8) (l : Bs) : num (b :: l) = b.toNat * 256 ^ l.length + num l := by
  show numS (256 * 0 + b.toNat) l = _
  rw [numS_eq]; simp
theorem num_fixB (x : Nat) : ∀ n, num (fixB x n) = x % 256 ^ n
  | 0 => by simp [fixB, num, numS, Nat.mod_one]
  | n + 1 => by
    rw [fixB, num_cons, num_fixB x n, fixB_len]
    have e : (UInt8.ofNat (x / 256 ^ n)).toNat = x / 256 ^ n % 256 := by simp
    rw [e, Nat.pow_succ, Nat.mod_mul, Nat.mul_comm, Nat.add_comm]
theorem fixB_num : ∀ (l : Bs), fixB (num l) l.length = l
  | [] => rfl
  | b :: l => by
    have hp : 0 < 256 ^ l.length := Nat.pow_pos (by decide)
    have hl := num_lt l
    rw [num_cons]
    simp only [List.length_cons, fixB]
    congr 1
    · rw [Nat.add_comm, Nat.add_mul_div_right _ _ hp, Nat.div_eq_of_lt hl, Nat.zero_add]; simp
    · have key : ∀ (n : Nat) (y z : Nat), y % 256 ^ n = z % 256 ^ n → fixB y n = fixB z n := by
        intro n
        induction n with
        | zero => intros; rfl
        | succ n ih =>
          intro y z h
          simp only [fixB]
          have h1 : y % 256 ^ n = z % 256 ^ n := by
            have := congrArg (· % 256 ^ n) h
            simpa [Nat.pow_succ, Nat.mod_mul_right_mod] using this
          rw [ih y z h1]
          congr 1
          have h2 : y / 256 ^ n % 256 = z / 256 ^ n % 256 := by
            have e : ∀ a, a % 256 ^ (n + 1) / 256 ^ n = a / 256 ^ n % 256 := fun a => by rw [Nat.pow_succ, Nat.mod_mul_right_div_self]
            rw [← e, ← e, h]
          apply UInt8.toNat_inj.1
          simpa using h2
      rw [key l.length _ (num l) (by rw [Nat.add_comm, Nat.add_mul_mod_self_right])]
      exact fixB_num l
/-- How many bytes the first byte tells. -/
def wid (b : UInt8) : Nat := 9 - bl (255 - b.toNat)
theorem wid_bd (b : UInt8) : 1 ≤ wid b ∧ wid b ≤ 9 := by
  have : bl (255 - b.toNat) ≤ 8 := (bl_le 8 _).2 (by have := b.toNat_lt; omega)
  unfold wid; omega
/-- The first byte tells n. -/
theorem wid_range {b : UInt8} {n : Nat} (h : wid b = n) : hd n ≤ b.toNat ∧ b.toNat < hd n + 2 ^ (8 - n) + (if n = 9 then 1 else 0) ∧ (n = 9 → b.toNat = 255) := by
  have hb := b.toNat_lt
  have h9 := wid_bd b
  have h1 := bl_le (9 - n) (255 - b.toNat)
  have h2 := bl_le (8 - n) (255 - b.toNat)
  unfold wid at h
  have hx : bl (255 - b.toNat) ≤ 8 := (bl_le 8 _).2 (by omega)
  have h3 : 255 - b.toNat < 2 ^ (9 - n) := h1.1 (by omega)
  have h4 : n = 9 ∨ ¬ 255 - b.toNat < 2 ^ (8 - n) := by
    by_cases e : n = 9
    · exact .inl e
    · exact .inr fun h' => by have := h2.2 h'; omega
  have hn : n = 1 ∨ n = 2 ∨ n = 3 ∨ n = 4 ∨ n = 5 ∨ n = 6 ∨ n = 7 ∨ n = 8 ∨ n = 9 := by unfold wid at h9; omega
  rcases hn with rfl | rfl | rfl | rfl | rfl | rfl | rfl | rfl | rfl <;> simp [hd] at * <;> omega
theorem wid_of {b : UInt8} {n : Nat} (hn : 1 ≤ n ∧ n ≤ 8) (h1 : hd n ≤ b.toNat) (h2 : b.toNat < hd n + 2 ^ (8 - n)) : wid b = n := by
  have hb := b.toNat_lt
  have k1 := bl_le (9 - n) (255 - b.toNat)
  have k2 := bl_le (8 - n) (255 - b.toNat)
  unfold wid
  have e : n = 1 ∨ n = 2 ∨ n = 3 ∨ n = 4 ∨ n = 5 ∨ n = 6 ∨ n = 7 ∨ n = 8 := by omega
  rcases e with rfl | rfl | rfl | rfl | rfl | rfl | rfl | rfl <;> simp [hd] at * <;> omega
theorem wid_255 {b : UInt8} (h : b.toNat = 255) : wid b = 9 := by unfold wid; rw [h]; rw [bl_zero]
/-- The number in few bytes at the beginning, and how many these are. -/
def fewF : Bs → Option (Nat × Nat)
  | [] => none
  | b :: r => if r.length + 1 < wid b then none else if vsz (numS (b.toNat - hd (wid b)) (r.take (wid b - 1))) = wid b then some (numS (b.toNat - hd (wid b)) (r.take (wid b - 1)), wid b) else none
theorem hd_le (n : Nat) (h : 1 ≤ n ∧ n ≤ 9) : hd n + 2 ^ (8 - n) ≤ 256 := by
  have e : n = 1 ∨ n = 2 ∨ n = 3 ∨ n = 4 ∨ n = 5 ∨ n = 6 ∨ n = 7 ∨ n = 8 ∨ n = 9 := by omega
  rcases e with rfl | rfl | rfl | rfl | rfl | rfl | rfl | rfl | rfl <;> decide
/-- The high byte of a number has room for what tells how many there are. -/
theorem top_lt {x n : Nat} (hn : 1 ≤ n ∧ n ≤ 8) (h : x < 128 ^ n) : x / 256 ^ (n - 1) < 2 ^ (8 - n) := by
  rw [Nat.div_lt_iff_lt_mul (Nat.pow_pos (by decide))]
  have e : (2 : Nat) ^ (8 - n) * 256 ^ (n - 1) = 128 ^ n := by
    have e2 : n = 1 ∨ n = 2 ∨ n = 3 ∨ n = 4 ∨ n = 5 ∨ n = 6 ∨ n = 7 ∨ n = 8 := by omega
    rcases e2 with rfl | rfl | rfl | rfl | rfl | rfl | rfl | rfl <;> decide
  rw [e]; exact h
theorem varB_top {x : Nat} (hx : x < 18446744073709551616) : (vsz x = 9 ∧ x / 256 ^ (vsz x - 1) = 0) ∨ (vsz x ≤ 8 ∧ x / 256 ^ (vsz x - 1) < 2 ^ (8 - vsz x)) := by
  have hb := vsz_bd x
  by_cases h : vsz x = 9
  · refine .inl ⟨h, ?_⟩
    rw [h]
    exact Nat.div_eq_of_lt hx
  · refine .inr ⟨by omega, top_lt ⟨hb.1, by omega⟩ ((vsz_le hb.1 (by omega)).1 (Nat.le_refl _))⟩
theorem varB_first {x : Nat} (hx : x < 18446744073709551616) : (UInt8.ofNat (hd (vsz x) + x / 256 ^ (vsz x - 1))).toNat = hd (vsz x) + x / 256 ^ (vsz x - 1) ∧ wid (UInt8.ofNat (hd (vsz x) + x / 256 ^ (vsz x - 1))) = vsz x := by
  have hb := vsz_bd x
  have hh := hd_le (vsz x) hb
  rcases varB_top hx with ⟨h9, h0⟩ | ⟨h8, ht⟩
  · rw [h0, h9]
    exact ⟨by decide, wid_255 (by decide)⟩
  · have e : (UInt8.ofNat (hd (vsz x) + x / 256 ^ (vsz x - 1))).toNat = hd (vsz x) + x / 256 ^ (vsz x - 1) := by
      generalize x / 256 ^ (vsz x - 1) = q at *
      simp; omega
    exact ⟨e, wid_of ⟨hb.1, h8⟩ (by rw [e]; exact Nat.le_add_right _ _) (by rw [e]; exact Nat.add_lt_add_left ht _)⟩
theorem fewF_varB {x : Nat} (hx : x < 18446744073709551616) (t : Bs) : fewF (varB x ++ t) = some (x, vsz x) := by
  have hb := vsz_bd x
  obtain ⟨e1, e2⟩ := varB_first hx
  unfold varB
  rw [List.cons_append, fewF, e2, e1, if_neg (by simp [fixB_len]; omega)]
  have e3 : numS (hd (vsz x) + x / 256 ^ (vsz x - 1) - hd (vsz x)) ((fixB x (vsz x - 1) ++ t).take (vsz x - 1)) = x := by
    rw [List.take_left' (fixB_len _ _), numS_eq, num_fixB, fixB_len, Nat.add_sub_cancel_left, Nat.mul_comm]
    exact Nat.div_add_mod x (256 ^ (vsz x - 1))
  rw [e3, if_pos rfl]
theorem fewF_some {t : Bs} {x n : Nat} (h : fewF t = some (x, n)) : n ≤ t.length ∧ x < 18446744073709551616 ∧ vsz x = n ∧ t.take n = varB x := by
  cases t with
  | nil => cases h
  | cons b r =>
    rw [fewF] at h
    split at h
    · cases h
    · split at h
      · rename_i h1 h2
        injection h with h
        obtain ⟨h3, h4⟩ := Prod.mk.inj h
        subst h4
        rw [h3] at h2
        have hw := wid_bd b
        have hr := wid_range (b := b) rfl
        have hl : (r.take (wid b - 1)).length = wid b - 1 := by rw [List.length_take]; omega
        have hnl := num_lt (r.take (wid b - 1))
        rw [hl] at hnl
        rw [numS_eq, hl] at h3
        have hp : 0 < 256 ^ (wid b - 1) := Nat.pow_pos (by decide)
        have hdiv : x / 256 ^ (wid b - 1) = b.toNat - hd (wid b) := by rw [← h3, Nat.add_comm, Nat.add_mul_div_right _ _ hp, Nat.div_eq_of_lt hnl, Nat.zero_add]
        have hbt : b.toNat - hd (wid b) < 2 ^ (8 - wid b) ∨ (wid b = 9 ∧ b.toNat - hd (wid b) = 0) := by
          by_cases e : wid b = 9
          · refine .inr ⟨e, ?_⟩
            rw [hr.2.2 e, e]; decide
          · rw [if_neg e] at hr; exact .inl (by omega)
        refine ⟨by simp; omega, ?_, h2, ?_⟩
        · have hpw : (2 : Nat) ^ (8 - wid b) * 256 ^ (wid b - 1) ≤ 18446744073709551616 := by
            have e2 : wid b = 1 ∨ wid b = 2 ∨ wid b = 3 ∨ wid b = 4 ∨ wid b = 5 ∨ wid b = 6 ∨ wid b = 7 ∨ wid b = 8 ∨ wid b = 9 := by omega
            rcases e2 with e | e | e | e | e | e | e | e | e <;> rw [e] <;> decide
          rcases hbt with hbt | ⟨e, hbt⟩
          · have h5 : (b.toNat - hd (wid b)) * 256 ^ (wid b - 1) ≤ (2 ^ (8 - wid b) - 1) * 256 ^ (wid b - 1) := Nat.mul_le_mul_right _ (by omega)
            rw [show (2 ^ (8 - wid b) - 1) * 256 ^ (wid b - 1) = 2 ^ (8 - wid b) * 256 ^ (wid b - 1) - 256 ^ (wid b - 1) by rw [Nat.sub_mul, Nat.one_mul]] at h5
            have h6 : 256 ^ (wid b - 1) ≤ 2 ^ (8 - wid b) * 256 ^ (wid b - 1) := Nat.le_mul_of_pos_left _ (Nat.pow_pos (by decide))
            omega
          · rw [hbt] at h3
            rw [e] at hnl hpw h3
            omega
        · obtain ⟨m, hm⟩ : ∃ m, wid b = m + 1 := ⟨wid b - 1, by omega⟩
          unfold varB
          rw [h2, hdiv]
          have e1 : UInt8.ofNat (hd (wid b) + (b.toNat - hd (wid b))) = b := by
            rw [show hd (wid b) + (b.toNat - hd (wid b)) = b.toNat by omega]
            simp
          rw [e1]
          have e2 : fixB x (wid b - 1) = r.take (wid b - 1) := by
            have := fixB_num (r.take (wid b - 1))
            rw [hl] at this
            rw [← this]
            have key : ∀ (k : Nat) (y z : Nat), fixB (y * 256 ^ k + z) k = fixB z k := by
              intro k
              suffices ∀ (k : Nat) (j y z : Nat), j ≤ k → fixB (y * 256 ^ k + z) j = fixB z j from fun y z => this k k y z (Nat.le_refl _)
              intro k j
              induction j with
              | zero => intros; rfl
              | succ j ih =>
                intro y z hj
                simp only [fixB]
                rw [ih y z (by omega)]
                congr 1
                apply UInt8.toNat_inj.1
                have e : y * 256 ^ k + z = z + y * 256 ^ (k - j - 1) * 256 * 256 ^ j := by
                  have : 256 ^ k = 256 ^ (k - j - 1) * 256 * 256 ^ j := by
                    rw [← Nat.pow_succ, ← Nat.pow_add]; congr 1; omega
                  rw [this, Nat.add_comm]; simp [Nat.mul_assoc]
                rw [e]
                simp [Nat.add_mul_div_right _ _ (Nat.pow_pos (show 0 < 256 by decide))]
            rw [← h3]
            exact key _ _ _
          rw [e2, hm]
          simp
      · cases h
end Go.Lx
