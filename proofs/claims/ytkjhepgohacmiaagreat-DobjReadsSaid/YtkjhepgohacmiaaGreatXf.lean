/- Own layer, part f: literals and made slices as own rows, stores into own rows, nil slices, conversions of whole numbers. Plain theorems. -/
import Derived.Test.YtkjhepgohacmiaaGreatXe
import Derived.Laws.MakeOwn
import Derived.Laws.OwnMore
import Derived.Laws.Cover3
import Derived.Laws.Pointers
import Derived.Laws.StructEq
namespace Go.Lx
set_option linter.unusedVariables false
set_option linter.unusedSimpArgs false

variable {C : Cx} {A A' A1 A2 B B' : List Assn} {w : World} {Q : Exit → Act → World → Prop} {S : World → Prop} {env : Env} {ops : Array Oper} {r : Sd} {i d : Nat} {o : Oper} {v : Value} {cl : Cl}
variable {ty T : TypeId} {pos : String} {af : Array Edge} {gd : Option (Nat × Bool)} {x y : Operand}

/-- A block is a row of one's own. -/
theorem Conf.cellsOwn {g n sz : Nat} {cs : List Value} {T : TypeId} (h : Conf C (cells g cs T :: A) w) (hl : (cs.length == n * sz && decide (n ≤ 1000000)) = true) : Conf C (own T sz (.slice (some ⟨g, 0, none⟩) n n) n cs :: A) w := by
  obtain ⟨hl1, hl2⟩ : cs.length = n * sz ∧ n ≤ 1000000 := by simpa using hl
  have := h.update (i := 0) (p := cells g cs T) (q := own T sz (.slice (some ⟨g, 0, none⟩) n n) n cs) rfl rfl rfl rfl (Nat.le_refl _) (Nat.le_refl _) fun F ⟨h1, hF⟩ => ⟨F, ⟨⟨hl1, .inr ⟨g, n, cs.toArray, rfl, Nat.zero_le _, h1, Nat.le_refl _, by unfold maxLen; omega, by simpa using hl1, by simp [← hl1]⟩⟩, fun b => by rw [hF b]; simp [Value.ownBlock, eq_comm]⟩, fun b hb => .inl hb, fun _ _ _ => rfl⟩
  simpa using this

/-- An empty slice literal. -/
theorem XL.slice0 {e sz : Nat} (ho : ops[i]? = some ⟨some d, .buildSlice T 0 #[], ty, pos, af, gd⟩) (hg : gok ops env ⟨some d, .buildSlice T 0 #[], ty, pos, af, gd⟩ = some true) (hdn : Nat.blt d C.n.n = true)
    [ht : SlT C.P T e] [hs : Sz C.P e sz] (haf : ∀ g, After cl S C (own e sz (.slice (some ⟨g, 0, none⟩) 0 0) 0 [] :: A) := by intro g; infer_instance)
    (k : ∀ g, XL C ops Q S r ((d, .slice (some ⟨g, 0, none⟩) 0 0) :: env) (own e sz (.slice (some ⟨g, 0, none⟩) 0 0) 0 [] :: A)) : XL C ops Q S (.op cl i r) env A := by
  refine XL.chg ho hg rfl hdn fun a w he hc => ?_
  refine ⟨_, _, _, ?_, (hc.alloc [] e).cellsOwn (n := 0) (sz := sz) (by simp), haf _, k _⟩
  simp [execOp, Instr.buildSlice, run_underlying ht.und, hs.run, newRow, Instr.fill, Array.range_zero']

/-- A slice literal, told by its elements. -/
def lits {α : Type} (val : α → Value) : Nat → List α → List (Nat × Value)
  | _, [] => []
  | k, x :: xs => (k, val x) :: lits val (k + 1) xs
theorem fill_lits {α : Type} (val : α → Value) (f : α → List Value) (sz : Nat) (hvf : ∀ x, (val x).cells = (f x).toArray) (hf : ∀ x, (f x).length = sz) : ∀ (xs : List α) (k : Nat) (acc : Array Value), acc.size = (k + xs.length) * sz →
    Instr.fill (fun i => some (i * sz, sz)) acc (lits val k xs) = some (acc.toList.take (k * sz) ++ xs.flatMap f).toArray
  | [], k, acc, h => by
    simp only [lits, Instr.fill, List.flatMap_nil, List.append_nil]
    rw [List.take_of_length_le (by simp at h ⊢; omega)]
  | x :: xs, k, acc, h => by
    have hle : (k + (x :: xs).length) * sz = k * sz + sz + xs.length * sz := by simp only [List.length_cons, Nat.add_mul]; omega
    have h1 : ¬ (((f x).toArray.size ≠ sz || decide (k * sz + (f x).toArray.size > acc.size)) = true) := by simp [hf]; omega
    simp only [lits, Instr.fill, hvf, if_neg h1]
    have e : (f x).toArray.zipIdx.foldl (fun cs (p : Value × Nat) => cs.setIfInBounds (k * sz + p.2) p.1) acc = (acc.toList.take (k * sz) ++ f x ++ acc.toList.drop (k * sz + sz)).toArray := by
      rw [← Array.foldl_toList, Array.toList_zipIdx, zipIdx_fold_shift]
      apply Array.ext'
      rw [fold_put_list]
      exact fold_set_seg (f x) (k * sz) acc.toList sz (hf x) (by simp; omega)
    rw [e, fill_lits val f sz hvf hf xs (k + 1) _ (by simp [hf]; rw [hle] at h; rw [Nat.add_mul, Nat.add_mul]; omega)]
    have e2 : (k + 1) * sz = (acc.toList.take (k * sz) ++ f x).length := by simp [hf, Nat.add_mul]; omega
    congr 2
    rw [e2, List.take_left]
    simp
where
  fold_set_seg : ∀ (l : List Value) (k : Nat) (acc : List Value) (sz : Nat), l.length = sz → k + sz ≤ acc.length → (l.zipIdx k).foldl (fun (a : List Value) (x : Value × Nat) => a.set x.2 x.1) acc = acc.take k ++ l ++ acc.drop (k + sz)
  | [], k, acc, sz, h, _ => by simp at h; subst h; simp
  | a :: l, k, acc, sz, h, hk => by
    simp only [List.length_cons] at h
    simp only [List.zipIdx_cons, List.foldl_cons]
    rw [fold_set_seg l (k + 1) (acc.set k a) l.length rfl (by simp; omega)]
    have := list_seg_step acc k a l (by omega)
    rw [← h]
    simpa using this
theorem XL.sliceL {α : Type} {e sz len : Nat} {parts : Array (Nat × Operand)} (val : α → Value) (f : α → List Value) (xs : List α) (hvf : ∀ x, (val x).cells = (f x).toArray) (hf : ∀ x, (f x).length = sz) (ho : ops[i]? = some ⟨some d, .buildSlice T len parts, ty, pos, af, gd⟩) (hg : gok ops env ⟨some d, .buildSlice T len parts, ty, pos, af, gd⟩ = some true) (hdn : Nat.blt d C.n.n = true)
    [ht : SlT C.P T e] [hs : Sz C.P e sz] {zs : List Value} [hz : Zc C.P e zs] (hlen : xs.length = len) (hv : evps env parts.toList = some (lits val 0 xs)) (hsm : (decide (len * sz ≤ 1000000) && decide (len ≤ 1000000) && !(len * sz == 0)) = true)
    (haf : ∀ g, After cl S C (own e sz (.slice (some ⟨g, 0, none⟩) len len) len (xs.flatMap f) :: A)) (k : ∀ g, XL C ops Q S r ((d, .slice (some ⟨g, 0, none⟩) len len) :: env) (own e sz (.slice (some ⟨g, 0, none⟩) len len) len (xs.flatMap f) :: A)) : XL C ops Q S (.op cl i r) env A := by
  subst hlen
  obtain ⟨⟨h1, h2⟩, h3⟩ : (xs.length * sz ≤ 1000000 ∧ xs.length ≤ 1000000) ∧ ¬ xs.length * sz = 0 := by simpa using hsm
  refine XL.chg ho hg rfl hdn fun a w he hc => ?_
  obtain ⟨z, hrun, hcs⟩ := hz.run
  have hl := flat_len f sz hf xs
  refine ⟨_, _, _, ?_, (hc.alloc (xs.flatMap f) e).cellsOwn (n := xs.length) (sz := sz) (by simp [hl]; omega), haf _, k _⟩
  have h1' : ¬ xs.length * sz > 2 ^ 24 := by omega
  have hp : List.map (fun x => (x.1, a.eval x.2)) parts.toList = lits val 0 xs := he.evps _ _ hv
  have hfl := fill_lits val f sz hvf hf xs 0 ((Array.range (xs.length * sz)).map (zs.toArray[· % zs.toArray.size]!)) (by simp)
  simp only [Nat.zero_mul, List.take_zero, List.nil_append] at hfl
  simp only [execOp]
  have hrun2 : (Instr.buildSlice T xs.length (parts.map fun (i, x) => (i, a.eval x))).run C.P w = .ok (.slice (some ⟨w.heap.size, 0, none⟩) xs.length xs.length) (w.alloc (.cells (xs.flatMap f).toArray e)) := by
    simp [Instr.buildSlice, run_underlying ht.und, hs.run, h1', h3, hrun, hcs, newRow]
    rw [hp]
    simp at hfl
    simp [hfl]
  simp [hrun2]

/-- A made slice. -/
theorem XL.make {e sz bytes n : Nat} {zs : List Value} {t : TypeId} (ho : ops[i]? = some ⟨some d, .makeSlice t x y, ty, pos, af, gd⟩) (hg : gok ops env ⟨some d, .makeSlice t x y, ty, pos, af, gd⟩ = some true) (hdn : Nat.blt d C.n.n = true)
    [ht : SlT C.P t e] [he : ElT C.P e sz bytes] [hz : Zc C.P e zs] (hx : ev env x = some (.int .i64 (n : Int))) (hy : ev env y = some (.int .i64 (n : Int))) (hbd : n * bytes ≤ 281474976710656 ∧ n ≤ maxLen)
    (haf : ∀ g, After cl S C (own e sz (.slice (some ⟨g, 0, none⟩) n n) n (madeCells zs.toArray (n * sz)).toList :: A))
    (k : ∀ g, XL C ops Q S r ((d, .slice (some ⟨g, 0, none⟩) n n) :: env) (own e sz (.slice (some ⟨g, 0, none⟩) n n) n (madeCells zs.toArray (n * sz)).toList :: A)) : XL C ops Q S (.op cl i r) env A := by
  refine XL.chg ho hg rfl hdn fun a w hE hc => ?_
  obtain ⟨ti, z', hi, hz', rfl, rfl, hzs, hsz⟩ := he.info
  obtain ⟨z, hzrun, hzc⟩ := hz.run
  have hzz : z' = z := by
    have := hzrun w
    simp [zeroValue, typeInfo, hi, hz'] at this
    exact this
  subst hzz
  have hb1 : ((ti.bytes * n : Nat) : Int) ≤ 281474976710656 := by
    have := hbd.1
    rw [Nat.mul_comm] at this
    omega
  rw [Int.natCast_mul] at hb1
  have hb2 : (n : Int) ≤ 9223372036854775807 := by
    have := hbd.2
    unfold maxLen at this
    omega
  have hr := run_make (P := C.P) w t e ti z' ht.und hi hz' .i64 .i64 n n (by omega) (Int.le_refl _) hb1 hb2
  simp only [Int.toNat_natCast, hzc] at hr
  have hnew := hc.new (q := own e ti.size (.slice (some ⟨w.heap.size, 0, none⟩) n n) n (madeCells zs.toArray (n * ti.size)).toList) (w' := w.alloc (.cells (madeCells zs.toArray (n * ti.size)) e)) rfl rfl rfl (by simp) (Nat.le_refl _) (fun b hb => RowKit.Below.heap_alloc w _ b hb)
    ⟨fun b => b = w.heap.size, ⟨World.ownsRow_lit w _ n (Nat.zero_le _) hbd.2 (size_madeCells _ _), fun b => by simp [Value.ownBlock, eq_comm]⟩, fun b hb => by rw [hb]; exact Nat.le_refl _⟩
  exact ⟨_, _, _, by simp [execOp, hE.ev hx, hE.ev hy, hr], hnew, haf _, k _⟩

/-! ### stores into own rows -/
def putAt (xs : List Value) (o : Nat) (cs : List Value) : List Value := xs.take o ++ cs ++ xs.drop (o + cs.length)
theorem putAt_flat {α : Type} (f : α → List Value) (sz : Nat) (hf : ∀ x, (f x).length = sz) (x : α) : ∀ (l : List α) (k : Nat), k < l.length → putAt (l.flatMap f) (k * sz) (f x) = (l.set k x).flatMap f
  | [], k, h => by simp at h
  | y :: ys, 0, _ => by
    unfold putAt
    simp only [Nat.zero_mul, List.take_zero, List.nil_append, Nat.zero_add, List.set_cons_zero, List.flatMap_cons]
    rw [hf x, ← hf y, List.drop_left]
  | y :: ys, k + 1, h => by
    have ih := putAt_flat f sz hf x ys k (by simpa using h)
    unfold putAt at ih ⊢
    simp only [List.set_cons_succ, List.flatMap_cons]
    rw [← ih, hf x]
    have e1 : (k + 1) * sz = (f y).length + k * sz := by rw [hf, Nat.add_mul]; omega
    rw [e1, List.take_append, List.drop_append]
    rw [List.take_of_length_le (Nat.le_add_right _ _), List.drop_of_length_le (by omega)]
    have e2 : (f y).length + k * sz - (f y).length = k * sz := by omega
    have e3 : (f y).length + k * sz + sz - (f y).length = k * sz + sz := by omega
    rw [e2, e3]
    simp

class OwnA (A : List Assn) (a : Option Addr) (n c : outParam Nat) (T : outParam TypeId) (sz : outParam Nat) (xs : outParam (List Value)) (i : outParam Nat) : Prop where at_ : A[i]? = some (own T sz (.slice a n c) n xs)
instance {A : List Assn} {a : Option Addr} {n c : Nat} {T : TypeId} {sz : Nat} {xs : List Value} : OwnA (own T sz (.slice a n c) n xs :: A) a n c T sz xs 0 := ⟨rfl⟩
instance (priority := low) {A : List Assn} {p : Assn} {a : Option Addr} {n c : Nat} {T : TypeId} {sz : Nat} {xs : List Value} {i : Nat} [h : OwnA A a n c T sz xs i] : OwnA (p :: A) a n c T sz xs (i + 1) := ⟨by simpa using h.at_⟩

theorem Conf.putOwn {a : Option Addr} {n c sz j k : Nat} {xs cs : List Value} (h : Conf C A w) (hi : A[j]? = some (own T sz (.slice a n c) n xs)) (hk : k + cs.length ≤ xs.length) (h0 : 0 < cs.length) (h1 : ∀ u ∈ cs, u.oneCell' = true) :
    ∃ w', (storeCells (el a k) cs 0).run C.P w = .ok () w' ∧ Conf C (A.set j (own T sz (.slice a n c) n (putAt xs k cs))) w' := by
  obtain ⟨F, ⟨⟨hl, ho⟩, hF⟩, _⟩ := h.get hi
  rcases ho with ⟨he, hn⟩ | ⟨g, cap, cur, he, _, hg, hnc, hcm, hcs, htake⟩
  · subst hn
    exfalso
    simp only [Nat.zero_mul] at hl
    omega
  · cases he
    have hle : n * sz ≤ cur.size := by rw [hcs]; exact Nat.mul_le_mul_right _ hnc
    have hel : el (some ⟨g, 0, none⟩) k = ⟨g, k, none⟩ := by simp [el, at_add]
    have hst := run_storeCells_at C.P g k T cs 0 cur w hg (by omega) h1
    simp only [Nat.add_zero] at hst
    refine ⟨_, hel ▸ hst, ?_⟩
    refine h.update hi rfl rfl rfl (by simp [World.setRow]) (Nat.le_refl _) fun F' ⟨_, hF'⟩ => ⟨F', ⟨⟨?_, .inr ⟨g, c, _, rfl, Nat.zero_le _, setRow_heap w g cur _ T _ hg, hnc, hcm, ?_, ?_⟩⟩, hF'⟩, fun b hb => .inl hb, fun b hb hn => setRow_other w g _ b (fun e => hn ((hF' b).2 (by simp [Value.ownBlock, e])))⟩
    · unfold putAt
      simp only [List.length_append, List.length_take, List.length_drop]
      omega
    · simp only [List.size_toArray, List.length_append, List.length_take, List.length_drop, Array.length_toList]
      omega
    · have hx : xs = cur.toList.take (n * sz) := htake.symm
      unfold putAt
      rw [hx]
      apply List.ext_getElem?
      intro t
      have hcl : cur.toList.length = cur.size := by simp
      have hlx : k + cs.length ≤ n * sz := by omega
      by_cases ht : t < n * sz
      · rw [List.getElem?_take, if_pos ht]
        simp only [List.getElem?_append, List.length_append, List.length_take, List.getElem?_take, List.getElem?_drop, hcl]
        by_cases h1 : t < k
        · have e1 : t < min k cur.size := by omega
          have e2 : t < min k (min (n * sz) cur.size) := by omega
          have e3 : t < min k cur.size + cs.length := by omega
          have e4 : t < min k (min (n * sz) cur.size) + cs.length := by omega
          simp [e1, e2, e3, e4, h1, ht]
        · by_cases h2 : t < k + cs.length
          · have e1 : ¬ t < min k cur.size := by omega
            have e2 : ¬ t < min k (min (n * sz) cur.size) := by omega
            have e3 : t < min k cur.size + cs.length := by omega
            have e4 : t < min k (min (n * sz) cur.size) + cs.length := by omega
            simp only [if_neg e1, if_neg e2, if_pos e3, if_pos e4]
            congr 1
            omega
          · have e3 : ¬ t < min k cur.size + cs.length := by omega
            have e4 : ¬ t < min k (min (n * sz) cur.size) + cs.length := by omega
            have e5 : k + cs.length + (t - (min k (min (n * sz) cur.size) + cs.length)) < n * sz := by omega
            simp only [if_neg e3, if_neg e4, if_pos e5]
            congr 1
            omega
      · rw [List.getElem?_eq_none (by simp; omega), List.getElem?_eq_none (by simp; omega)]

/-- A store into an element of an own row. -/
theorem XL.storeE {a : Option Addr} {n c sz sz' j k0 : Nat} {T' : TypeId} {xs cs : List Value} {u : Value} (xs' : List Value) (ho : ops[i]? = some ⟨none, .store T x y, ty, pos, af, gd⟩) (hg : gok ops env ⟨none, .store T x y, ty, pos, af, gd⟩ = some true) (hx : ev env x = some (.pointer (some (el a k0)))) (hy : ev env y = some u)
    [hs : Sz C.P T sz'] [hu : CellsOf u cs] (hc1 : (cs.length == sz' && cs.all (·.oneCell') && decide (0 < sz')) = true) [hl : OwnA A a n c T' sz xs j] (hk : k0 + sz' ≤ n * sz) (hp : putAt xs k0 cs = xs')
    [hupd : Upd A j (own T' sz (.slice a n c) n xs') A'] [haf : After cl S C A'] (k : XL C ops Q S r env A') : XL C ops Q S (.op cl i r) env A := by
  subst hp
  obtain ⟨⟨h1, h2⟩, h3⟩ : (cs.length = sz' ∧ ∀ u ∈ cs, u.oneCell' = true) ∧ 0 < sz' := by simpa using hc1
  refine XL.chg0 ho hg rfl fun ac w he hc => ?_
  obtain ⟨F, ⟨⟨hlen, _⟩, _⟩, _⟩ := hc.get hl.at_
  obtain ⟨w', hr, hc'⟩ := hc.putOwn (k := k0) (cs := cs) hl.at_ (by omega) (by omega) h2
  refine ⟨A', w', ?_, by rw [← hupd.eq]; exact hc', haf, k⟩
  simp [execOp, he.ev hx, he.ev hy, Instr.storeAt, Instr.sureAddr, storeVar, hu.eq, hs.run, h1, hr]

/-- An append of what may be read. -/
theorem XL.appendR {t e sz bytes n c m c2 : Nat} {a a2 : Option Addr} {xs news : List Value} (ho : ops[i]? = some ⟨some d, .call ⟨.builtin .append, #[x, y], #[t, t]⟩, ty, pos, af, gd⟩) (hg : gok ops env ⟨some d, .call ⟨.builtin .append, #[x, y], #[t, t]⟩, ty, pos, af, gd⟩ = some true) (hdn : Nat.blt d C.n.n = true)
    [ht : SlT C.P t e] [he : ElT C.P e sz bytes] (hx : ev env x = some (.slice a n c)) (hy : ev env y = some (.slice a2 m c2)) {j : Nat}
    [ho2 : OwnAt A (.slice a n c) e sz n xs j] [t1 : Take A (own e sz (.slice a n c) n xs) A1]
    (hsrc : ∀ w, Conf C A w → Rd w sz a2 m c2 news) (h1 : ∀ u ∈ news, u.oneCell' = true) (h63 : n + m ≤ maxLen ∧ (n + m) * bytes ≤ 140737488355328)
    (haf : ∀ a' c', After cl S C (own e sz (.slice a' (n + m) c') (n + m) (xs ++ news) :: A1))
    (k : ∀ a' c', XL C ops Q S r ((d, .slice a' (n + m) c') :: env) (own e sz (.slice a' (n + m) c') (n + m) (xs ++ news) :: A1)) : XL C ops Q S (.op cl i r) env A := by
  refine XL.chg ho hg rfl hdn fun ac w hE hc => ?_
  have hc2 := hc.perm t1.perm
  have hrd := hsrc w hc
  have hs : Src w sz (.slice a2 m c2) m news := by
    refine ⟨hrd.len, ?_⟩
    cases a2 with
    | none =>
      have : m = 0 := by
        rcases Nat.eq_zero_or_pos m with h | h
        · exact h
        · have := hrd.sm h; simp at this
      subst this
      exact .inr ⟨c2, rfl, rfl⟩
    | some p => exact .inl ⟨p, c2, rfl, fun j u hu => hrd.cell j u hu⟩
  obtain ⟨F, hF, _⟩ := hc2.get (i := 0) rfl
  obtain ⟨a', c', w', hr, h2, h3, hdr, h4⟩ := append_own (P := C.P) t ty e sz bytes (.slice a n c) n xs hF.1 _ m news hs h1 h63.1 h63.2
  refine ⟨_, _, w', ?_, hc2.appended h2 h3 hdr h4, haf a' c', k a' c'⟩
  simp [execOp, resolve, invoke, builtin, hE.ev hx, hE.ev hy, hr]

/-! ### what only yields -/
namespace D
variable {W : World → Prop} {t u : TypeId} {ds : Option Tmp}
theorem conv {t2 : TypeId} {k k' : IntKind} {m : Int} [h1 : IntT C.P t k'] [h2 : IntT C.P t2 k] (hx : ev env x = some (.int k' m)) : Det C W env ⟨ds, .convert t t2 x, ty, pos, af, gd⟩ (.int k (k.wrap m)) := ⟨fun ac w he _ => by
  simp [execOp, he.ev hx, convert, run_underlying h1.und, run_underlying h2.und, Conv.intToInt]⟩
theorem eqNilS {e n c : Nat} {a : Option Addr} [h : SlT C.P t e] (hx : ev env x = some (.slice a n c)) (hy : ev env y = some (.slice none 0 0)) : Det C W env ⟨ds, .binOp .eql t x y u, ty, pos, af, gd⟩ (.bool a.isNone) := ⟨fun ac w he _ => by
  simp [execOp, he.ev hx, he.ev hy, eqGuard, binOp, run_equal_slice_nil w t e a n c h.und]⟩
theorem neNilS {e n c : Nat} {a : Option Addr} [h : SlT C.P t e] (hx : ev env x = some (.slice a n c)) (hy : ev env y = some (.slice none 0 0)) : Det C W env ⟨ds, .binOp .neq t x y u, ty, pos, af, gd⟩ (.bool (!a.isNone)) := ⟨fun ac w he _ => by
  simp [execOp, he.ev hx, he.ev hy, eqGuard, binOp, run_equal_slice_nil w t e a n c h.und]⟩
theorem boolEq {a b : Bool} [h : BoolT C.P t] (hx : ev env x = some (.bool a)) (hy : ev env y = some (.bool b)) : Det C W env ⟨ds, .binOp .eql t x y u, ty, pos, af, gd⟩ (.bool (a == b)) := ⟨fun ac w he _ => by
  simp [execOp, he.ev hx, he.ev hy, eqGuard, binOp, run_equal_bool w t a b h.und]⟩
theorem boolNe {a b : Bool} [h : BoolT C.P t] (hx : ev env x = some (.bool a)) (hy : ev env y = some (.bool b)) : Det C W env ⟨ds, .binOp .neq t x y u, ty, pos, af, gd⟩ (.bool (!(a == b))) := ⟨fun ac w he _ => by
  simp [execOp, he.ev hx, he.ev hy, eqGuard, binOp, run_equal_bool w t a b h.und]⟩
theorem rem {k : IntKind} {a b : Int} (hx : ev env x = some (.int k a)) (hy : ev env y = some (.int k b)) (hb : b ≠ 0) : Det C W env ⟨ds, .binOp .rem t x y u, ty, pos, af, gd⟩ (.int k (a.tmod b)) := ⟨fun ac w he _ => by
  simp [execOp, he.ev hx, he.ev hy, eqGuard, binOp, Op.intDiv, hb]⟩
theorem quo {k : IntKind} {a b : Int} (hx : ev env x = some (.int k a)) (hy : ev env y = some (.int k b)) (hb : b ≠ 0) : Det C W env ⟨ds, .binOp .quo t x y u, ty, pos, af, gd⟩ (.int k (k.wrap (a.tdiv b))) := ⟨fun ac w he _ => by
  simp [execOp, he.ev hx, he.ev hy, eqGuard, binOp, Op.intDiv, hb]⟩
end D

/-! ### structs of whole numbers, compared -/
def cellsI (ks : List IntKind) (as : List Int) : List Value := List.zipWith Value.int ks as
class EqS (P : Program) (t : TypeId) (ks : outParam (List IntKind)) : Prop where
  guard : P.eqGuardType P.depth t = false
  eq : ∀ (as bs : List Int) (w : World), as.length = ks.length → bs.length = ks.length → (Op.equalIn 10000 t (.agg (cellsI ks as).toArray) (.agg (cellsI ks bs).toArray)).run P w = .ok (decide (as = bs)) w

theorem eqFields_ints {P : Program} (d : Nat) (xs ys : Array Value) (w : World) : ∀ (fs : List Field) (ks : List IntKind) (i : Nat) (as bs : List Int), (fs.zipIdx i).map (fun (p : Field × Nat) => (p.1.name != "_" && p.1.offset == p.2, P.underlying p.1.type)) = ks.map (fun k => (true, some (TypeDesc.int k))) →
    as.length = ks.length → bs.length = ks.length → (∀ j, (cellsI ks as)[j]? = xs[i + j]? ∨ ks.length ≤ j) → (∀ j, (cellsI ks bs)[j]? = ys[i + j]? ∨ ks.length ≤ j) → (Op.eqFields (d + 1) xs ys fs).run P w = .ok (decide (as = bs)) w
  | [], ks, i, as, bs, h, ha, hb, _, _ => by
    have : ks = [] := by cases ks with
      | nil => rfl
      | cons k ks => simp at h
    subst this
    have h1 : as = [] := List.length_eq_zero_iff.1 ha
    have h2 : bs = [] := List.length_eq_zero_iff.1 hb
    subst h1 h2
    simp [Op.eqFields]
  | f :: fs, ks, i, as, bs, h, ha, hb, hx, hy => by
    cases ks with
    | nil => simp at h
    | cons k ks => cases as with
      | nil => simp at ha
      | cons a as => cases bs with
        | nil => simp at hb
        | cons b bs =>
          simp only [List.zipIdx_cons, List.map_cons, List.cons.injEq, Prod.mk.injEq, Bool.and_eq_true, bne_iff_ne, beq_iff_eq] at h
          obtain ⟨⟨⟨hn, ho⟩, hu⟩, hr⟩ := h
          have hx0 : xs[i]? = some (.int k a) := by
            have := (hx 0).resolve_right (by simp)
            simpa [cellsI] using this.symm
          have hy0 : ys[i]? = some (.int k b) := by
            have := (hy 0).resolve_right (by simp)
            simpa [cellsI] using this.symm
          have ih := eqFields_ints (P := P) d xs ys w fs ks (i + 1) as bs hr (by simpa using ha) (by simpa using hb)
            (fun j => by
              rcases hx (j + 1) with h1 | h1
              · left; rw [show i + 1 + j = i + (j + 1) by omega, ← h1]; simp [cellsI]
              · right; simp at h1; omega)
            (fun j => by
              rcases hy (j + 1) with h1 | h1
              · left; rw [show i + 1 + j = i + (j + 1) by omega, ← h1]; simp [cellsI]
              · right; simp at h1; omega)
          have hpx : (part f.type xs f.offset).run P w = .ok (.int k a) w := by simp [part, isAgg, run_underlying hu, ho, hx0]
          have hpy : (part f.type ys f.offset).run P w = .ok (.int k b) w := by simp [part, isAgg, run_underlying hu, ho, hy0]
          simp only [Op.eqFields, hn, ne_eq, not_false_eq_true, if_true, Sem.run_bind, hpx, hpy, Result.andThen_ok, run_equalIn_int w d f.type k k a b hu]
          by_cases e : a = b
          · subst e
            simp [ih]
          · simp [e]

theorem EqS.mk' {P : Program} {t : Nat} {fs : Array Field} {ks : List IntKind} (hu : P.underlying t = some (.struct fs)) (hs : P.stoodInHeld t = false) (hg : P.eqGuardType P.depth t = false)
    (hk : (fs.toList.zipIdx 0).map (fun (p : Field × Nat) => (p.1.name != "_" && p.1.offset == p.2, P.underlying p.1.type)) = ks.map (fun k => (true, some (TypeDesc.int k)))) : EqS P t ks := ⟨hg, fun as bs w ha hb => by
  have hf : P.fieldsOf t = fs := by simp [Program.fieldsOf, hu]
  rw [run_equalIn_struct w 9999 t _ _ (by rw [hf]; exact hu) hs, hf]
  exact eqFields_ints 9998 _ _ w fs.toList ks 0 as bs hk ha hb (fun j => .inl (by simp)) (fun j => .inl (by simp))⟩

namespace D
variable {W : World → Prop} {t u : TypeId} {ds : Option Tmp} {k0 k1 k2 k3 : IntKind} {a0 a1 a2 a3 b0 b1 b2 b3 : Int}
theorem eqS {ks : List IntKind} (as bs : List Int) [h : EqS C.P t ks] (ha : as.length = ks.length) (hb : bs.length = ks.length) (hx : ev env x = some (.agg (cellsI ks as).toArray)) (hy : ev env y = some (.agg (cellsI ks bs).toArray)) : Det C W env ⟨ds, .binOp .eql t x y u, ty, pos, af, gd⟩ (.bool (decide (as = bs))) := ⟨fun ac w he _ => by
  simp only [execOp, he.ev hx, he.ev hy, Sem.run_bind, run_eqGuard_agg w .eql t x y _ _ h.guard, Result.andThen_ok, run_eql_struct, h.eq as bs w ha hb, Sem.run_pure]⟩
theorem neS {ks : List IntKind} (as bs : List Int) [h : EqS C.P t ks] (ha : as.length = ks.length) (hb : bs.length = ks.length) (hx : ev env x = some (.agg (cellsI ks as).toArray)) (hy : ev env y = some (.agg (cellsI ks bs).toArray)) : Det C W env ⟨ds, .binOp .neq t x y u, ty, pos, af, gd⟩ (.bool (decide (¬ as = bs))) := ⟨fun ac w he _ => by
  simp only [execOp, he.ev hx, he.ev hy, Sem.run_bind, run_eqGuard_agg w .neq t x y _ _ h.guard, Result.andThen_ok, run_neq_struct, h.eq as bs w ha hb, Sem.run_pure, decide_not]⟩
theorem eqS2 [h : EqS C.P t [k0, k1]] (hx : ev env x = some (.agg #[.int k0 a0, .int k1 a1])) (hy : ev env y = some (.agg #[.int k0 b0, .int k1 b1])) : Det C W env ⟨ds, .binOp .eql t x y u, ty, pos, af, gd⟩ (.bool (decide (a0 = b0 ∧ a1 = b1))) := by
  have := eqS (C := C) (W := W) (env := env) (ty := ty) (pos := pos) (af := af) (gd := gd) (ds := ds) (u := u) (x := x) (y := y) [a0, a1] [b0, b1] (h := h) rfl rfl hx hy
  simpa using this
theorem neS2 [h : EqS C.P t [k0, k1]] (hx : ev env x = some (.agg #[.int k0 a0, .int k1 a1])) (hy : ev env y = some (.agg #[.int k0 b0, .int k1 b1])) : Det C W env ⟨ds, .binOp .neq t x y u, ty, pos, af, gd⟩ (.bool (decide (¬ (a0 = b0 ∧ a1 = b1)))) := by
  have := neS (C := C) (W := W) (env := env) (ty := ty) (pos := pos) (af := af) (gd := gd) (ds := ds) (u := u) (x := x) (y := y) [a0, a1] [b0, b1] (h := h) rfl rfl hx hy
  simpa using this
end D
end Go.Lx
