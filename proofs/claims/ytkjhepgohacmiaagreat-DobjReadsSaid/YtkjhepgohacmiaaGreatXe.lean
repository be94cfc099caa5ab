/- Own layer, part e: append, slices' slices, strings, conversions. Plain theorems. -/
import Derived.Test.YtkjhepgohacmiaaGreatXd
namespace Go.Lx
set_option linter.unusedVariables false
set_option linter.unusedSimpArgs false

class ElT (P : Program) (e : TypeId) (sz bytes : outParam Nat) : Prop where
  info : ∃ (i : TypeInfo) (z : Value), P.info? e = some i ∧ i.zero = some z ∧ i.size = sz ∧ i.bytes = bytes ∧ z.cells.size = sz ∧ 0 < sz
theorem ElT.mk' {P : Program} {e sz bytes : Nat} {z : Value} (h : (P.info? e).map (fun i => (i.zero, i.size, i.bytes)) = some (some z, sz, bytes)) (hz : z.cells.size = sz) (hs : 0 < sz) : ElT P e sz bytes := ⟨by
  cases hi : P.info? e with
  | none => simp [hi] at h
  | some i => simp [hi] at h; exact ⟨i, z, rfl, h.1, h.2.1, h.2.2, hz, hs⟩⟩

/-- A source of an append: what is read of it. -/
def Src (w : World) (sz : Nat) (x : Value) (m : Nat) (news : List Value) : Prop :=
  news.length = m * sz ∧ ((∃ a c, x = .slice (some a) m c ∧ ∀ j u, news[j]? = some u → w.cell? (a.add j) = some u) ∨ (∃ c, x = .slice none 0 c ∧ m = 0))

section
variable {P : Program} {w : World}

theorem grown_new {w : World} {n m old : Nat} {e : TypeId} {i : TypeInfo} {z : Value} {xs news : List Value} (hzs : z.cells.size = i.size) (hxs : xs.length = n * i.size) (hl : news.length = m * i.size) (h63 : n + m ≤ maxLen) (row : Option Nat) :
    (w.drew.alloc (.cells (xs.toArray ++ news.toArray ++ Builtin.zeroCells z.cells (grownCap w (n + m) old e - (n + m))) e)).ownsRow 0 e i.size (.slice (some ⟨w.heap.size, 0, none⟩) (n + m) (grownCap w (n + m) old e)) (n + m) (xs ++ news) ∧
      w.grownBy (w.drew.alloc (.cells (xs.toArray ++ news.toArray ++ Builtin.zeroCells z.cells (grownCap w (n + m) old e - (n + m))) e)) row := by
  have hlen : (xs ++ news).length = (n + m) * i.size := by rw [List.length_append, hxs, hl, Nat.add_mul]
  have hge := grownCap_ge w (n + m) old e
  have hcm : grownCap w (n + m) old e ≤ maxLen := grownCap_le_maxLen w (n + m) old e h63
  refine ⟨⟨hlen, .inr ⟨w.heap.size, _, _, rfl, Nat.zero_le _, heap_alloc_new w.drew _, hge, hcm, ?_, ?_⟩⟩, ⟨rfl, rfl, rfl, by simp, fun k hk _ => RowKit.Below.heap_alloc w.drew _ k hk⟩⟩
  · simp only [Array.size_append, List.size_toArray, size_zeroCells, hzs, hxs, hl, ← Nat.add_mul]
    congr 1
    omega
  · simp only [Array.toList_append, List.append_assoc]
    rw [← List.append_assoc, ← hlen]
    exact List.take_left

theorem append_own (t ty e : TypeId) (sz bytes : Nat) [ht : SlT P t e] [he : ElT P e sz bytes] (v : Value) (n : Nat) (xs : List Value) (hown : w.ownsRow 0 e sz v n xs) (x : Value) (m : Nat) (news : List Value) (hsrc : Src w sz x m news) (h1 : ∀ u ∈ news, u.oneCell' = true)
    (h63 : n + m ≤ maxLen) (hbytes : (n + m) * bytes ≤ 140737488355328) :
    ∃ a' c' w', (Builtin.append_ #[t, t] ty #[v, x]).run P w = .ok (.slice a' (n + m) c') w' ∧ w'.ownsRow 0 e sz (.slice a' (n + m) c') (n + m) (xs ++ news) ∧ w.grownBy w' v.ownBlock ∧
      w.drawn ≤ w'.drawn ∧ (∀ b, (Value.slice a' (n + m) c').ownBlock = some b → v.ownBlock = some b ∨ w.heap.size ≤ b) := by
  obtain ⟨i, z, hi, hz, rfl, rfl, hzs, hsz⟩ := he.info
  obtain ⟨hl, hx⟩ := hsrc
  have hsmall : n + m ≤ 9223372036854775807 := by simp only [maxLen] at h63; omega
  have hlen : (xs ++ news).length = (n + m) * i.size := by rw [List.length_append, hown.1, hl, Nat.add_mul]
  rcases hx with ⟨a, c, rfl, hnews⟩ | ⟨c, rfl, rfl⟩
  · rcases hown.2 with ⟨rfl, rfl⟩ | ⟨g, cap, cur, rfl, hbg, hg, hnc, hcm, hcs, htake⟩
    · have hx : xs = [] := List.eq_nil_of_length_eq_zero (by simpa using hown.1)
      subst hx
      by_cases hm : m = 0
      · subst hm
        have hn : news = [] := List.eq_nil_of_length_eq_zero (by simpa using hl)
        subst hn
        refine ⟨none, 0, w, ?_, World.ownsRow_nil w 0 e i.size, ⟨rfl, rfl, rfl, Nat.le_refl _, fun _ _ _ => rfl⟩, Nat.le_refl _, by simp [Value.ownBlock]⟩
        simp [Builtin.append_, run_underlying ht.und, sizeOf, typeInfo, hi, Builtin.lenOf, Builtin.firstCells, loadCells, loadCellsFrom]
      · have hr := run_append_nil (P := P) w t ty e i z ht.und hi hz a m c news hl hnews (by omega) (by omega) (by have hb := hbytes; simp only [Nat.zero_add] at hb; omega)
        have hgr := grown_new (w := w) (n := 0) (old := 0) (e := e) (xs := []) hzs (by simp) hl h63 (Value.ownBlock (.slice none 0 0))
        simp only [Nat.zero_add, List.nil_append, Array.empty_append] at hgr ⊢
        exact ⟨_, _, _, hr, hgr.1, hgr.2, by simp, fun b hb => by simp [Value.ownBlock] at hb; omega⟩
    · by_cases hroom : n + m ≤ cap
      · have hfit : n * i.size + news.length ≤ cur.size := by rw [hl, hcs, ← Nat.add_mul]; exact Nat.mul_le_mul_right _ hroom
        have hr := run_append_room (P := P) w t ty e i ht.und hi g n cap cur hg a m c news hl hnews h1 hroom hfit
        refine ⟨_, _, _, hr, ⟨hlen, .inr ⟨g, cap, _, rfl, hbg, setRow_heap w g cur _ e _ hg, hroom, hcm, ?_, ?_⟩⟩, ⟨rfl, rfl, rfl, by simp [World.setRow], fun k _ hk => setRow_other w g _ k (fun e => hk (by simp [Value.ownBlock, e]))⟩, Nat.le_refl _, fun b hb => .inl hb⟩
        · simp only [List.size_toArray, List.length_append, List.length_take, List.length_drop, Array.length_toList]
          omega
        · rw [htake, ← hlen]
          exact List.take_left
      · have holds : ∀ j u, xs[j]? = some u → w.cell? ((⟨g, 0, none⟩ : Addr).add j) = some u := hown.cells (g := g) rfl
        have hr := run_append_grow (P := P) w t ty e i z ht.und hi hz ⟨g, 0, none⟩ n cap xs hown.1 holds a m c news hl hnews (by omega) (by omega) (growslice_fits (by omega) hbytes)
        have hgr := grown_new (w := w) (n := n) (old := cap) (e := e) hzs hown.1 hl h63 (Value.ownBlock (.slice (some ⟨g, 0, none⟩) n cap))
        exact ⟨_, _, _, hr, hgr.1, hgr.2, by simp, fun b hb => by simp [Value.ownBlock] at hb; omega⟩
  · have hn : news = [] := List.eq_nil_of_length_eq_zero (by simpa using hl)
    subst hn
    rw [List.append_nil, Nat.add_zero]
    have key : ∃ a' c', v = .slice a' n c' ∧ n ≤ c' := by
      rcases hown.2 with ⟨rfl, rfl⟩ | ⟨g, cap, cur, rfl, _, _, hnc, _⟩
      · exact ⟨none, 0, rfl, Nat.le_refl _⟩
      · exact ⟨_, cap, rfl, hnc⟩
    obtain ⟨a', c', rfl, hc⟩ := key
    refine ⟨a', c', w, ?_, hown, ⟨rfl, rfl, rfl, Nat.le_refl _, fun _ _ _ => rfl⟩, Nat.le_refl _, fun b hb => .inl hb⟩
    cases a' with
    | none => simp [Builtin.append_, run_underlying ht.und, sizeOf, typeInfo, hi, Builtin.lenOf, Builtin.firstCells, hc]
    | some q => simp [Builtin.append_, run_underlying ht.und, sizeOf, typeInfo, hi, Builtin.lenOf, Builtin.firstCells, hc, storeCells]
end

variable {C : Cx} {A A' A1 A2 B B' : List Assn} {w : World} {Q : Exit → Act → World → Prop} {S : World → Prop} {env : Env} {ops : Array Oper} {r : Sd} {i d : Nat} {o : Oper} {v : Value} {cl : Cl}
variable {ty T : TypeId} {pos : String} {af : Array Edge} {gd : Option (Nat × Bool)} {x y : Operand}

theorem Conf.appended {v v' : Value} {T sz n n' : Nat} {xs xs' : List Value} {w' : World} (h : Conf C (own T sz v n xs :: A) w) (hown : w'.ownsRow 0 T sz v' n' xs') (hg : w.grownBy w' v.ownBlock) (hdr : w.drawn ≤ w'.drawn) (hb : ∀ b, v'.ownBlock = some b → v.ownBlock = some b ∨ w.heap.size ≤ b) : Conf C (own T sz v' n' xs' :: A) w' := by
  have := h.update (i := 0) (p := own T sz v n xs) (q := own T sz v' n' xs') rfl hg.os hg.tape hg.output hg.size hdr fun F ⟨_, hF⟩ => ⟨fun b => v'.ownBlock = some b, ⟨hown, fun b => Iff.rfl⟩, fun b hb' => ?_, fun b hb' hn => hg.block b hb' (fun e => hn ((hF b).2 e.symm))⟩
  · simpa using this
  · rcases hb b hb' with h1 | h1
    · exact .inl ((hF b).2 h1)
    · exact .inr h1

/-- An append to an own row. -/
theorem XL.appendG {t e sz bytes n c m : Nat} {a : Option Addr} {xv : Value} {xs news : List Value} (ho : ops[i]? = some ⟨some d, .call ⟨.builtin .append, #[x, y], #[t, t]⟩, ty, pos, af, gd⟩) (hg : gok ops env ⟨some d, .call ⟨.builtin .append, #[x, y], #[t, t]⟩, ty, pos, af, gd⟩ = some true) (hdn : Nat.blt d C.n.n = true)
    [ht : SlT C.P t e] [he : ElT C.P e sz bytes] (hx : ev env x = some (.slice a n c)) (hy : ev env y = some xv)
    (hsrc : ∀ w, Conf C (own e sz (.slice a n c) n xs :: A) w → Src w sz xv m news) (h1 : ∀ u ∈ news, u.oneCell' = true) (h63 : n + m ≤ maxLen) (hbytes : (n + m) * bytes ≤ 140737488355328)
    (k : ∀ a' c', After cl S C (own e sz (.slice a' (n + m) c') (n + m) (xs ++ news) :: A) ∧ XL C ops Q S r ((d, .slice a' (n + m) c') :: env) (own e sz (.slice a' (n + m) c') (n + m) (xs ++ news) :: A)) : XL C ops Q S (.op cl i r) env (own e sz (.slice a n c) n xs :: A) := by
  refine XL.chg ho hg rfl hdn fun ac w hE hc => ?_
  obtain ⟨F, hF, _⟩ := hc.get (i := 0) rfl
  obtain ⟨a', c', w', hr, h2, h3, hdr, h4⟩ := append_own (P := C.P) t ty e sz bytes (.slice a n c) n xs hF.1 xv m news (hsrc w hc) h1 h63 hbytes
  obtain ⟨haf, hk⟩ := k a' c'
  refine ⟨_, _, w', ?_, hc.appended h2 h3 hdr h4, haf, hk⟩
  simp [execOp, resolve, invoke, builtin, hE.ev hx, hE.ev hy, hr]

/-- An append of a literal that has just been made; that literal is let go. -/
theorem XL.append {t e sz bytes n c m g c2 : Nat} {a : Option Addr} {xs news : List Value} (ho : ops[i]? = some ⟨some d, .call ⟨.builtin .append, #[x, y], #[t, t]⟩, ty, pos, af, gd⟩) (hg : gok ops env ⟨some d, .call ⟨.builtin .append, #[x, y], #[t, t]⟩, ty, pos, af, gd⟩ = some true) (hdn : Nat.blt d C.n.n = true)
    [ht : SlT C.P t e] [he : ElT C.P e sz bytes] (hx : ev env x = some (.slice a n c)) (hy : ev env y = some (.slice (some ⟨g, 0, none⟩) m c2)) {j j2 : Nat} {T2 : TypeId}
    [hl : Loc A g news T2 j] [ho2 : OwnAt A (.slice a n c) e sz n xs j2] [t1 : Take A (own e sz (.slice a n c) n xs) A1] [t2 : Take A1 (cells g news T2) A2]
    (hm : (news.length == m * sz && news.all (·.oneCell')) = true) (h63 : n + m ≤ maxLen ∧ (n + m) * bytes ≤ 140737488355328)
    (haf : ∀ a' c', After cl S C (own e sz (.slice a' (n + m) c') (n + m) (xs ++ news) :: A2))
    (k : ∀ a' c', XL C ops Q S r ((d, .slice a' (n + m) c') :: env) (own e sz (.slice a' (n + m) c') (n + m) (xs ++ news) :: A2)) : XL C ops Q S (.op cl i r) env A := by
  obtain ⟨hm1, hm2⟩ : news.length = m * sz ∧ ∀ u ∈ news, u.oneCell' = true := by simpa using hm
  have p1 : A.Perm (own e sz (.slice a n c) n xs :: cells g news T2 :: A2) := t1.perm.trans (List.Perm.cons _ t2.perm)
  refine XL.chg ho hg rfl hdn fun ac w hE hc => ?_
  have hc1 := hc.perm p1
  have hsrc : Src w sz (.slice (some ⟨g, 0, none⟩) m c2) m news := ⟨hm1, .inl ⟨_, c2, rfl, fun j u hu => by rw [at_add, Nat.zero_add]; exact hc1.cellAt (i := 1) rfl hu⟩⟩
  have hc2 : Conf C (own e sz (.slice a n c) n xs :: A2) w := hc1.sub (List.Sublist.cons_cons _ (List.Sublist.cons _ (List.Sublist.refl _)))
  obtain ⟨F, hF, _⟩ := hc2.get (i := 0) rfl
  obtain ⟨a', c', w', hr, h2, h3, hdr, h4⟩ := append_own (P := C.P) t ty e sz bytes (.slice a n c) n xs hF.1 _ m news hsrc hm2 h63.1 h63.2
  refine ⟨_, _, w', ?_, hc2.appended h2 h3 hdr h4, haf a' c', k a' c'⟩
  simp [execOp, resolve, invoke, builtin, hE.ev hx, hE.ev hy, hr]

/-- A nil slice is a row of one's own. -/
theorem Conf.nilOwn (T sz : Nat) (h : Conf C A w) : Conf C (own T sz (.slice none 0 0) 0 [] :: A) w :=
  h.new rfl rfl rfl (Nat.le_refl _) (Nat.le_refl _) (fun _ _ => rfl) ⟨fun _ => False, ⟨World.ownsRow_nil w 0 T sz, fun b => by simp [Value.ownBlock]⟩, fun b hb => hb.elim⟩

/-! ### values out of parts -/
class CellsOf (v : Value) (cs : outParam (List Value)) : Prop where eq : v.cells = cs.toArray
instance {k : IntKind} {n : Int} : CellsOf (.int k n) [.int k n] := ⟨rfl⟩
instance {b : Bool} : CellsOf (.bool b) [.bool b] := ⟨rfl⟩
instance {s : ByteArray} : CellsOf (.string s) [.string s] := ⟨rfl⟩
instance {p : Option Addr} : CellsOf (.pointer p) [.pointer p] := ⟨rfl⟩
instance {a : Option Addr} {n c : Nat} : CellsOf (.slice a n c) [.slice a n c] := ⟨rfl⟩
instance {r : Option Nat} : CellsOf (.map r) [.map r] := ⟨rfl⟩
instance {fn : Fn} {a b : Array Value} : CellsOf (.func fn a b) [.func fn a b] := ⟨rfl⟩
instance : CellsOf .nilFunc [.nilFunc] := ⟨rfl⟩
instance {cs : List Value} : CellsOf (.agg cs.toArray) cs := ⟨rfl⟩
class PutAts (cs : List Value) (o : Nat) (vs : List Value) (cs' : outParam (List Value)) : Prop where
  eq : (vs.zipIdx o).foldl (fun (a : List Value) (x : Value × Nat) => a.set x.2 x.1) cs = cs'
  le : vs.length = 0 ∨ o + vs.length ≤ cs.length
instance {cs : List Value} {o : Nat} : PutAts cs o [] cs := ⟨rfl, .inl rfl⟩
instance {cs cs1 cs2 : List Value} {o : Nat} {v : Value} {vs : List Value} [h : SetAt cs o v cs1] [k : PutAts cs1 (o + 1) vs cs2] : PutAts cs o (v :: vs) cs2 := ⟨by simp only [List.zipIdx_cons, List.foldl_cons, h.eq, k.eq], by
  have h1 := h.lt
  have h2 := k.le
  have h3 : cs1.length = cs.length := by rw [← h.eq]; simp
  simp only [List.length_cons]
  omega⟩
class PlAt (pl : List (Nat × Nat)) (f : Nat) (off m : outParam Nat) : Prop where at_ : pl[f]? = some (off, m)
instance {o m : Nat} {pl : List (Nat × Nat)} : PlAt ((o, m) :: pl) 0 o m := ⟨rfl⟩
instance {x : Nat × Nat} {f o m : Nat} {pl : List (Nat × Nat)} [h : PlAt pl f o m] : PlAt (x :: pl) (f + 1) o m := ⟨by simpa using h.at_⟩
/-- A struct's places and zero. -/
class StT (P : Program) (t : TypeId) (pl : outParam (List (Nat × Nat))) (zs : outParam (List Value)) : Prop where built : ∀ ps, P.built t ps = Instr.fill (pl.toArray[·]?) zs.toArray ps
theorem StT.mk' {P : Program} {t : Nat} {pl : List (Nat × Nat)} {zs : List Value} {z : Value} {fs : Array Field} (hu : P.underlying t = some (.struct fs)) (hz : ((P.info? t).bind (·.zero)) = some z) (hzc : z.cells = zs.toArray) (hp : fs.toList.mapM (fun f => (P.info? f.type).map fun i => (f.offset, i.size)) = some pl) : StT P t pl zs := ⟨fun ps => by
  cases hi : P.info? t with
  | none => simp [hi] at hz
  | some i =>
    simp [hi] at hz
    simp [Program.built, hi, hz, hu, hp, hzc]⟩
/-- What a struct's literal comes to, part by part. -/
class Fill (pl : List (Nat × Nat)) (zs : List Value) (ps : List (Nat × Value)) (cs : outParam (List Value)) : Prop where
  eq : Instr.fill (pl.toArray[·]?) zs.toArray ps = some cs.toArray
instance {pl : List (Nat × Nat)} {zs : List Value} : Fill pl zs [] zs := ⟨rfl⟩
theorem fold_put_list : ∀ (l : List Value) (k : Nat) (acc : Array Value), ((l.zipIdx k).foldl (fun cs (x : Value × Nat) => cs.setIfInBounds x.2 x.1) acc).toList = (l.zipIdx k).foldl (fun (a : List Value) (x : Value × Nat) => a.set x.2 x.1) acc.toList
  | [], k, acc => rfl
  | a :: l, k, acc => by
    simp only [List.zipIdx_cons, List.foldl_cons]
    rw [fold_put_list l (k + 1) (acc.setIfInBounds k a), Array.toList_setIfInBounds]
theorem zipIdx_fold_shift (off : Nat) : ∀ (l : List Value) (k : Nat) (acc : Array Value), (l.zipIdx k).foldl (fun cs (x : Value × Nat) => cs.setIfInBounds (off + x.2) x.1) acc = (l.zipIdx (off + k)).foldl (fun cs (x : Value × Nat) => cs.setIfInBounds x.2 x.1) acc
  | [], _, _ => rfl
  | a :: l, k, acc => by
    simp only [List.zipIdx_cons, List.foldl_cons]
    rw [zipIdx_fold_shift off l (k + 1)]
    rfl
class Len (cs : List Value) (n : outParam Nat) : Prop where eq : cs.length = n
instance : Len [] 0 := ⟨rfl⟩
instance {v : Value} {cs : List Value} {n : Nat} [h : Len cs n] : Len (v :: cs) (n + 1) := ⟨by simp [h.eq]⟩
theorem Fill.step {pl : List (Nat × Nat)} {f off m : Nat} {zs zs' vs cs : List Value} {v : Value} {ps : List (Nat × Value)} (h1 : PlAt pl f off m) (h2 : CellsOf v vs) (h3 : vs.length = m) (h7 : PutAts zs off vs zs') (h8 : Fill pl zs' ps cs) (hm : 0 < m) : Fill pl zs ((f, v) :: ps) cs := ⟨by
  have hsz : v.cells.size = m := by rw [h2.eq]; simp [h3]
  have hle := h7.le
  have hpl : pl.toArray[f]? = some (off, m) := by simpa using h1.at_
  simp only [Instr.fill, hpl]
  have hc : ¬ ((v.cells.size ≠ m || decide (off + v.cells.size > zs.toArray.size)) = true) := by
    simp [hsz]; omega
  rw [if_neg hc]
  have e : v.cells.zipIdx.foldl (fun cs (x : Value × Nat) => cs.setIfInBounds (off + x.2) x.1) zs.toArray = zs'.toArray := by
    rw [h2.eq, ← Array.foldl_toList, Array.toList_zipIdx]
    rw [zipIdx_fold_shift]
    apply Array.ext'
    rw [fold_put_list]
    simpa using h7.eq
  rw [← h8.eq, ← e]⟩
instance {pl : List (Nat × Nat)} {f off m : Nat} {zs zs' vs cs : List Value} {v : Value} {ps : List (Nat × Value)} [h1 : PlAt pl f off (m + 1)] [h2 : CellsOf v vs] [h3 : Len vs (m + 1)] [h7 : PutAts zs off vs zs'] [h8 : Fill pl zs' ps cs] : Fill pl zs ((f, v) :: ps) cs := Fill.step h1 h2 h3.eq h7 h8 (Nat.succ_pos m)
theorem D.build {W : World → Prop} {t : Nat} {parts : Array (Nat × Operand)} {ps : List (Nat × Value)} {zs cs : List Value} {pl : List (Nat × Nat)} (hp : evps env parts.toList = some ps) [hst : StT C.P t pl zs] [hf : Fill pl zs ps cs] : Det C W env ⟨some d, .build t parts, ty, pos, af, gd⟩ (.agg cs.toArray) := ⟨fun a w he _ => by
  have hp' := he.evps _ _ hp
  have hr := run_build (P := C.P) w t (parts.map fun (i, x) => (i, a.eval x)) cs.toArray (by
    rw [hst.built]
    have : (parts.map fun (i, x) => (i, a.eval x)).toList = ps := by rw [Array.toList_map]; exact hp'
    rw [this]
    exact hf.eq)
  simp only [execOp, Sem.run_bind, hr, Result.andThen_ok, Sem.run_pure]⟩

theorem XL.cmpTF {p : Prop} [Decidable p] (ho : ops[i]? = some o) (hg : gok ops env o = some true) (hd : o.dst = some d) (hdn : Nat.blt d C.n.n = true) (h : Det C (fun _ => True) env o (.bool (decide p))) (hp : p) (k : XL C ops Q S r ((d, .bool true) :: env) A) : XL C ops Q S (.op .fin i r) env A :=
  XL.det0F ho hg hd hdn (by simpa [hp] using h) k
theorem XL.cmpFF {p : Prop} [Decidable p] (ho : ops[i]? = some o) (hg : gok ops env o = some true) (hd : o.dst = some d) (hdn : Nat.blt d C.n.n = true) (h : Det C (fun _ => True) env o (.bool (decide p))) (hp : ¬ p) (k : XL C ops Q S r ((d, .bool false) :: env) A) : XL C ops Q S (.op .fin i r) env A :=
  XL.det0F ho hg hd hdn (by simpa [hp] using h) k
theorem XL.cmpT0 {p : Prop} [Decidable p] (ho : ops[i]? = some o) (hg : gok ops env o = some true) (hd : o.dst = some d) (hdn : Nat.blt d C.n.n = true) (h : Det C (fun _ => True) env o (.bool (decide p))) (hp : p) (k : XL C ops Q S r ((d, .bool true) :: env) A) : XL C ops Q S (.op .v0 i r) env A :=
  XL.det0 ho hg hd hdn (by simpa [hp] using h) k
theorem XL.cmpF0 {p : Prop} [Decidable p] (ho : ops[i]? = some o) (hg : gok ops env o = some true) (hd : o.dst = some d) (hdn : Nat.blt d C.n.n = true) (h : Det C (fun _ => True) env o (.bool (decide p))) (hp : ¬ p) (k : XL C ops Q S r ((d, .bool false) :: env) A) : XL C ops Q S (.op .v0 i r) env A :=
  XL.det0 ho hg hd hdn (by simpa [hp] using h) k

/-! ### results -/
def RV (C : Cx) (env : Env) (A : List Assn) (r : ResultVar) (v : Value) : Prop := ∀ a w, EnvOK C.n env a → Conf C A w → (match r with
  | .tmp t => pure (a.tmps.getD t undef)
  | .cell b t => do loadVar t (← asAddr (a.tmps.getD b undef)) : Sem Value).run C.P w = .ok v w
theorem RV.tmp {t : Nat} (h : env.lookup t = some v) : RV C env A (.tmp t) v := fun a w he _ => by simp [he.getD h]
theorem RV.cell {b t g T' sz j : Nat} {cs : List Value} (h : env.lookup b = some (.pointer (some ⟨g, 0, none⟩))) [ha : Ag C.P t] [hs : Sz C.P t sz] [hl : Loc A g cs T' j] (hlen : (cs.length == sz) = true) : RV C env A (.cell b t) (.agg cs.toArray) := fun a w he hc => by
  have := run_loadCells_list (P := C.P) w ⟨g, 0, none⟩ cs (fun j u hu => by rw [at_add, Nat.zero_add]; exact hc.cellAt hl.at_ hu)
  rw [show cs.length = sz by simpa using hlen] at this
  simp [he.getD h, asAddr, loadVar, ha.agg, hs.run, this]
theorem RV.cell1 {b t g T' j : Nat} {u : Value} (h : env.lookup b = some (.pointer (some ⟨g, 0, none⟩))) [ha : One C.P t] [hl : Loc A g [u] T' j] : RV C env A (.cell b t) u := fun a w he hc => by
  simp [he.getD h, asAddr, loadVar, ha.one, hc.cellAt (o := 0) hl.at_ rfl]
theorem Res.r0 {fn : Func} (h : fn.results = #[]) : Res C fn env A (.tuple #[]) := Res.none h
theorem Res.r1 {fn : Func} {r1 : ResultVar} (h : fn.results = #[r1]) (h1 : RV C env A r1 v) : Res C fn env A v := fun a w he hc => by
  have e1 := h1 a w he hc
  simp only [results, h]
  simp only [Array.mapM_eq_mapM_toList, List.mapM_cons, List.mapM_nil, Sem.run_bind, Sem.run_map]
  cases r1 <;> simp_all
theorem Res.r2 {fn : Func} {r1 r2 : ResultVar} {v2 : Value} (h : fn.results = #[r1, r2]) (h1 : RV C env A r1 v) (h2 : RV C env A r2 v2) : Res C fn env A (.tuple #[v, v2]) := fun a w he hc => by
  have e1 := h1 a w he hc
  have e2 := h2 a w he hc
  simp only [results, h]
  simp only [Array.mapM_eq_mapM_toList, List.mapM_cons, List.mapM_nil, Sem.run_bind, Sem.run_map]
  cases r1 <;> cases r2 <;> simp_all
theorem Res.r3 {fn : Func} {r1 r2 r3 : ResultVar} {v2 v3 : Value} (h : fn.results = #[r1, r2, r3]) (h1 : RV C env A r1 v) (h2 : RV C env A r2 v2) (h3 : RV C env A r3 v3) : Res C fn env A (.tuple #[v, v2, v3]) := fun a w he hc => by
  have e1 := h1 a w he hc
  have e2 := h2 a w he hc
  have e3 := h3 a w he hc
  simp only [results, h]
  simp only [Array.mapM_eq_mapM_toList, List.mapM_cons, List.mapM_nil, Sem.run_bind, Sem.run_map]
  cases r1 <;> cases r2 <;> cases r3 <;> simp_all
end Go.Lx
