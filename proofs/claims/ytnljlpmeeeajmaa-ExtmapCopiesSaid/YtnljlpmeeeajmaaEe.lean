/- Package extmap's walks, part e: the extents ahead of a span, in it, and behind it. -/
import Derived.Test.YtnljlpmeeeajmaaEd
namespace Go.Lx
open Go.Proofs
set_option linter.unusedVariables false
set_option linter.unusedSimpArgs false
set_option maxRecDepth 20000
set_option maxHeartbeats 2000000

def prt (f t : Int) (x : Ext) : Ext := ⟨f, t - f, x.q, x.p + f - x.a⟩
def ahE (s : Sp) (l1 P : List Ext) : List Ext := l1 ++ (P.filter fun x => decide (x.a < s.1)).map fun x => prt x.a s.1 x
def inF (s : Sp) (P : List Ext) : List Ext := P.map fun x => prt (max x.a s.1) (min (x.a + x.n) (s.1 + s.2)) x
def beE (s : Sp) (l3 P : List Ext) : List Ext := (P.filter fun x => decide (x.a + x.n > s.1 + s.2)).reverse.map (fun x => prt (s.1 + s.2) (x.a + x.n) x) ++ l3
theorem ahE_snoc {s : Sp} {l1 P : List Ext} {x : Ext} : ahE s l1 (P ++ [x]) = if x.a < s.1 then ahE s l1 P ++ [prt x.a s.1 x] else ahE s l1 P := by
  unfold ahE
  rw [List.filter_append]
  split <;> rename_i h <;> simp [h]
theorem inF_snoc {s : Sp} {P : List Ext} {x : Ext} : inF s (P ++ [x]) = inF s P ++ [prt (max x.a s.1) (min (x.a + x.n) (s.1 + s.2)) x] := by simp [inF]
theorem beE_snoc {s : Sp} {l3 P : List Ext} {x : Ext} : beE s l3 (P ++ [x]) = if x.a + x.n > s.1 + s.2 then prt (s.1 + s.2) (x.a + x.n) x :: beE s l3 P else beE s l3 P := by
  unfold beE
  rw [List.filter_append]
  split <;> rename_i h <;> simp [h]

theorem aro_len (s : Sp) (l P : List Ext) (k m i : Nat) (hP : P.length ≤ l.length) : (ahE s (l.take k) (P.take i)).length ≤ l.length + l.length ∧ (inF s (P.take i)).length ≤ l.length ∧ (beE s (l.drop m) (P.take i)).length ≤ l.length + l.length := by
  have h1 := List.length_filter_le (fun x : Ext => decide (x.a < s.1)) (P.take i)
  have h2 := List.length_filter_le (fun x : Ext => decide (x.a + x.n > s.1 + s.2)) (P.take i)
  simp only [ahE, inF, beE, List.length_append, List.length_map, List.length_reverse, List.length_take, List.length_drop] at *
  omega
/-- Where a span parts extents. -/
structure Parts (l : List Ext) (s : Sp) (k m : Nat) : Prop where
  km : k ≤ m
  ml : m ≤ l.length
  lo : ∀ j x, j < k → l[j]? = some x → x.a + x.n ≤ s.1
  mid : ∀ j x, k ≤ j → l[j]? = some x → s.1 < x.a + x.n
  in_ : ∀ j x, k ≤ j → j < m → l[j]? = some x → x.a < s.1 + s.2
  hi : ∀ x, l[m]? = some x → s.1 + s.2 ≤ x.a
def midL (l : List Ext) (k m : Nat) : List Ext := (l.drop k).take (m - k)

structure AroI where
  i : Nat
  pa : Option Addr
  nA : Nat
  ca : Nat
  pi : Option Addr
  nI : Nat
  ci : Nat
  pb : Option Addr
  nB : Nat
  cb : Nat
theorem viewA {s : Sp} (a : Option Addr) (c : Nat) (l : List Ext) (k : Nat) (h1 : k ≤ l.length) (h2 : l.length ≤ c) : ∀ w', Rd w' 4 a l.length c (encE l) → Rd w' 4 (subA a 4 0 k) k k (encE (ahE s (l.take k) [])) := fun w' h => by
  have := Rd.subT (f := encE1) (l := 0) (h := k) (m := k) (fun _ => rfl) h (Nat.zero_le _) (Nat.le_refl _) (by omega) h1
  simpa [ahE, encE] using this
theorem viewB {s : Sp} (a : Option Addr) (c : Nat) (l : List Ext) (m : Nat) (h1 : m ≤ l.length) : ∀ w', Rd w' 4 a l.length c (encE l) → Rd w' 4 (subA a 4 m c) (l.length - m) (c - m) (encE (beE s (l.drop m) [])) := fun w' h => by
  have := Rd.subT (f := encE1) (l := m) (h := l.length) (m := c) (fun _ => rfl) h h1 h.le (Nat.le_refl _) (Nat.le_refl _)
  rw [List.take_of_length_le (by simp)] at this
  simpa [beE, encE] using this
theorem viewM (a : Option Addr) (c : Nat) (l : List Ext) (k m : Nat) (h1 : k ≤ m) (h2 : m ≤ l.length) : ∀ w', Rd w' 4 a l.length c (encE l) → Rd w' 4 (subA a 4 k c) (m - k) (c - k) (encE (midL l k m)) := fun w' h =>
  Rd.subT (f := encE1) (l := k) (h := m) (m := c) (fun _ => rfl) h h1 (Nat.le_trans h2 h.le) (Nat.le_refl _) h2
theorem mid_get {l P : List Ext} {k m i : Nat} {x : Ext} (h : midL l k m = P) (hx : P[i]? = some x) : l[k + i]? = some x := by
  rw [← h] at hx
  unfold midL at hx
  rw [List.getElem?_take] at hx
  split at hx
  · rw [List.getElem?_drop] at hx; exact hx
  · cases hx

def valE (x : Ext) : Value := .agg #[.int .i64 x.a, .int .i64 x.n, .int .i64 x.q, .int .i64 x.p]
theorem mid_first {lo : Int} {l P : List Ext} {s : Sp} {k m i : Nat} {x : Ext} (hr : Rise lo l) (hP : Parts l s k m) (h : midL l k m = P) (hx : P[i]? = some x) (hlt : x.a < s.1) : i = 0 := by
  rcases Nat.eq_zero_or_pos i with h0 | h0
  · exact h0
  · have hxl := mid_get h hx
    have hl := (List.getElem?_eq_some_iff.1 hxl).1
    obtain ⟨y, hy⟩ := get_lt (l := l) (k := k + i - 1) (by omega)
    have h1 := hP.mid (k + i - 1) y (by omega) hy
    have h2 := hr.idx (by omega : k + i - 1 < k + i) hy hxl
    omega

theorem two_mem {w : World} {s1 s2 : Sle} (h1 : Rd w 4 s1.a s1.l.length s1.c (encE s1.l)) (h2 : Rd w 4 s2.a s2.l.length s2.c (encE s2.l)) : ∀ s ∈ [s1, s2], Rd w 4 s.a s.l.length s.c (encE s.l) := fun s hs => by
  rcases List.mem_cons.1 hs with rfl | hs
  · exact h1
  · rcases List.mem_cons.1 hs with rfl | hs
    · exact h2
    · cases hs

theorem around_spec (w : World) (gm : Nat) (a : Option Addr) (c : Nat) (l : List Ext) (s : Sp) (hm : w.cell? ⟨gm, 0, none⟩ = some (.slice a l.length c)) (hl : Rd w 4 a l.length c (encE l)) (hr : Rise 0 l) (hs : mayS s) (hbd : l.length ≤ 200000) :
    Spec Try.prog 44 #[.pointer (some ⟨gm, 0, none⟩), .agg #[.int .i64 s.1, .int .i64 s.2]] w (fun _ => False) (fun v A => ∃ k m pa ca pi ci pb cb, Parts l s k m ∧ v = .tuple #[.slice pa (ahE s (l.take k) (midL l k m)).length ca, .slice pi (inF s (midL l k m)).length ci, .slice pb (beE s (l.drop m) (midL l k m)).length cb] ∧
      A = [vw 4 a l.length c (encE l) 30 4 pa (ahE s (l.take k) (midL l k m)).length ca (encE (ahE s (l.take k) (midL l k m))), own 30 4 (.slice pi (inF s (midL l k m)).length ci) (inF s (midL l k m)).length (encE (inF s (midL l k m))), vw 4 a l.length c (encE l) 30 4 pb (beE s (l.drop m) (midL l k m)).length cb (encE (beE s (l.drop m) (midL l k m)))]) := by
  have hs' := hs
  unfold mayS at hs'
  have hle := hl.le
  refine Spec.enter (args := [.pointer (some ⟨gm, 0, none⟩), .agg #[.int .i64 s.1, .int .i64 s.2]]) (A := []) Try.func44 rfl Try.ntmps44 rfl (fun _ h => h) ?_
  (refine X.seq ?_ <;> (refine X.text (L := (.op .fin 0 (.op .fin 1 (.op .fin 2 (.op .fin 3 .nil))))) rfl ?_ <;>
    (refine XL.boxN rfl rfl rfl rfl (by intro g; infer_instance) (fun gs => ?_)) <;>
    ((apply XL.det0F rfl rfl rfl rfl; exact D.assign rfl)) <;>
    ((apply XL.det0F rfl rfl rfl rfl; exact D.assign rfl)) <;>
    ((apply XL.det0F rfl rfl rfl rfl; exact D.assign rfl)) <;>
    (refine XL.nil ?_)) <;> (first | refine Ex.then ?_ | (refine N.next ?_ <;> (refine X.seq ?_ <;> (refine X.draw (.op .v0 0 (.op .v0 1 (.op .v0 2 (.op .v1 3 (.op .v0 4 (.op .v1 5 (.op .ch 6 (.op .v0 7 (.op .v0 8 (.op .v0 9 (.op .v0 10 (.op .v0 11 .nil)))))))))))) mixed (by kernel_rfl) ?_ <;>
    ((apply XL.det0 rfl rfl rfl rfl; exact D.move rfl)) <;>
    ((apply XL.det0 rfl rfl rfl rfl; exact D.nilCheck rfl)) <;>
    ((apply XL.det0 rfl rfl rfl rfl; first | exact D.fieldAddrB0 rfl rfl | exact D.fieldAddrB rfl rfl | exact D.fieldAddrE0 rfl rfl | exact D.fieldAddrE rfl rfl)) <;>
    ((apply XL.det1 rfl rfl rfl rfl; exact D.load1 rfl (fun w hw => hw.cell0 hm (fun h => h)))) <;>
    ((apply XL.det0 rfl rfl rfl rfl; first | exact D.fieldAddrB0 rfl rfl | exact D.fieldAddrB rfl rfl | exact D.fieldAddrE0 rfl rfl | exact D.fieldAddrE rfl rfl)) <;>
    ((apply XL.det1 rfl rfl rfl rfl; first | exact D.load1 rfl (fun w h => h.cellAt (Loc.at_) rfl) | exact D.loadN rfl rfl (fun w h j u hu => by rw [at_add, Nat.zero_add]; exact h.cellAt (Loc.at_) hu) | exact D.loadP rfl rfl)) <;>
    ((refine XL.call rfl rfl rfl rfl (fun w hw => Search_spec w a c l 0 s.1 (by omega) (hl.conf0 hw) hr (by omega)) ?_; rintro v B' ⟨k, b, rfl, hk, hlo, hmid, rfl⟩; refine XL.both ?_)) <;>
    ((apply XL.det0 rfl rfl rfl rfl; exact D.move rfl)) <;>
    ((apply XL.det0 rfl rfl rfl rfl; exact D.extract rfl rfl)) <;>
    ((apply XL.det0 rfl rfl rfl rfl; exact D.extract rfl rfl)) <;>
    ((apply XL.det0 rfl rfl rfl rfl; exact D.assign rfl)) <;>
    ((apply XL.det0 rfl rfl rfl rfl; exact D.assign rfl)) <;>
    (refine XL.nil ?_)) <;> (first | refine Ex.then ?_ | (refine N.next ?_ <;> (refine X.seq ?_ <;> (refine X.text (L := (.op .fin 0 (.op .fin 1 .nil))) rfl ?_ <;>
    ((apply XL.det0F rfl rfl rfl rfl; exact D.move rfl)) <;>
    ((apply XL.det0F rfl rfl rfl rfl; exact D.assign rfl)) <;>
    (refine XL.nil ?_)) <;> (first | refine Ex.then ?_ | (refine N.next ?_ <;> (refine X.seq ?_ <;> (refine X.block ?_ <;> ((refine X.loop (ι := Nat) (fun m => [(0, .pointer (some ⟨gm, 0, none⟩)), (3, .pointer (some ⟨gs, 0, none⟩)), (4, .slice none 0 0), (5, .slice none 0 0), (6, .slice none 0 0), (7, .int .i64 k), (9, .int .i64 m)]) (fun _ => [cells gs [.int .i64 s.1, .int .i64 s.2] 26]) (fun m => k ≤ m ∧ m ≤ l.length ∧ ∀ j x, k ≤ j → j < m → l[j]? = some x → x.a < s.1 + s.2) (fun m => l.length - m) (k) ?_ ?_ ?_ ?_; (focus (exact ⟨Nat.le_refl _, hk, fun j x h1 h2 => by omega⟩)); (focus (repeat (first | exact Sub.nil | refine Sub.cons rfl ?_))); (focus (exact (fun w h => h.takes))); rintro m ⟨hkm, hml, hin⟩) <;> (refine X.seq ?_ <;> (refine X.seq ?_ <;> (refine X.draw (.op .v0 0 (.op .v0 1 (.op .v0 2 (.op .v0 3 (.op .v1 4 (.op .v0 5 (.op .v0 6 (.op .v0 7 (.op .v0 8 (.op .v0 9 (.op .v0 10 (.op .v1 11 (.op .v0 12 (.op .v0 13 (.op .v0 14 (.op .v0 15 (.op .v1 16 (.op .v1 17 (.op .ch 18 (.op .v0 19 (.op .v0 20 .nil))))))))))))))))))))) mixed (by kernel_rfl) ?_ <;>
    ((apply XL.det0 rfl rfl rfl rfl; exact D.move rfl)) <;>
    ((apply XL.det0 rfl rfl rfl rfl; exact D.move rfl)) <;>
    ((apply XL.det0 rfl rfl rfl rfl; exact D.nilCheck rfl)) <;>
    ((apply XL.det0 rfl rfl rfl rfl; first | exact D.fieldAddrB0 rfl rfl | exact D.fieldAddrB rfl rfl | exact D.fieldAddrE0 rfl rfl | exact D.fieldAddrE rfl rfl)) <;>
    ((apply XL.det1 rfl rfl rfl rfl; exact D.load1 rfl (fun w hw => hw.cell0 hm (fun h => h)))) <;>
    ((apply XL.det0 rfl rfl rfl rfl; first | exact D.len rfl | exact D.lenS rfl)) <;>
    (first | refine XL.split0 rfl rfl rfl rfl (D.int rfl rfl rfl) (fun h1 => ?_) (fun h1 => ?_)) <;>
    ((apply XL.det0 rfl rfl rfl rfl; exact D.move rfl)) <;>
    (first | refine XL.skip0 rfl rfl rfl rfl ?_ | ((apply XL.det0 rfl rfl rfl rfl; exact D.move rfl))) <;>
    (first | refine XL.skip0 rfl rfl rfl rfl ?_ | ((apply XL.det0 rfl rfl rfl rfl; exact D.nilCheck rfl))) <;>
    (first | refine XL.skip0 rfl rfl rfl rfl ?_ | ((apply XL.det0 rfl rfl rfl rfl; first | exact D.fieldAddrB0 rfl rfl | exact D.fieldAddrB rfl rfl | exact D.fieldAddrE0 rfl rfl | exact D.fieldAddrE rfl rfl))) <;>
    (first | refine XL.skip1 rfl rfl rfl rfl ?_ | ((apply XL.det1 rfl rfl rfl rfl; exact D.load1 rfl (fun w hw => hw.cell0 hm (fun h => h))))) <;>
    (first | refine XL.skip0 rfl rfl rfl rfl ?_ | ((apply XL.det0 rfl rfl rfl rfl; exact D.move rfl))) <;>
    (first | refine XL.skip0 rfl rfl rfl rfl ?_ | (have hmlt : m < l.length := (by omega); obtain ⟨x, hx⟩ := get_lt hmlt; (apply XL.det0 rfl rfl rfl rfl; exact D.indexAddr m rfl rfl rfl hmlt (hl.sm (by omega))))) <;>
    (first | refine XL.skip0 rfl rfl rfl rfl ?_ | ((apply XL.det0 rfl rfl rfl rfl; first | exact D.fieldAddrB0 rfl rfl | exact D.fieldAddrB rfl rfl | exact D.fieldAddrE0 rfl rfl | exact D.fieldAddrE rfl rfl))) <;>
    (first | refine XL.skip0 rfl rfl rfl rfl ?_ | ((apply XL.det0 rfl rfl rfl rfl; first | exact D.fieldAddrB0 rfl rfl | exact D.fieldAddrB rfl rfl | exact D.fieldAddrE0 rfl rfl | exact D.fieldAddrE rfl rfl))) <;>
    (first | refine XL.skip1 rfl rfl rfl rfl ?_ | ((apply XL.det1 rfl rfl rfl rfl; exact D.load1 rfl (fun w hw => by have := Rd.ext (Rd.conf0 hl hw) hx 0 _ rfl; simpa [el_add] using this)))) <;>
    (first | refine XL.skip1 rfl rfl rfl rfl ?_ | ((apply XL.det1 rfl rfl rfl rfl; first | exact D.load1 rfl (fun w h => h.cellAt (Loc.at_) rfl) | exact D.loadN rfl rfl (fun w h j u hu => by rw [at_add, Nat.zero_add]; exact h.cellAt (Loc.at_) hu) | exact D.loadP rfl rfl))) <;>
    (first | refine XL.skipC rfl rfl rfl rfl ?_ | ((refine XL.call rfl rfl rfl rfl (fun w hw => End_spec _ _ w) ?_; rintro v B' ⟨rfl, rfl⟩; refine XL.both ?_); rw [may_end hs])) <;>
    (first | refine XL.skip0 rfl rfl rfl rfl ?_ | (first | refine XL.split0 rfl rfl rfl rfl (D.int rfl rfl rfl) (fun h2 => ?_) (fun h2 => ?_))) <;>
    ((apply XL.det0 rfl rfl rfl rfl; first | exact D.pickT rfl rfl | exact D.pickF rfl rfl | exact D.pick rfl rfl rfl)) <;>
    (refine XL.nil ?_)) <;> (first | refine Ex.then ?_ | (refine N.next ?_ <;> ((
    refine X.cond rfl ?_ ?_; rotate_left; (focus (
    intro hc; first | exact absurd hc (by decide) | (cases hc; done) | (refine X.exit ?_))); rotate_right; (focus (
    intro hc; first | exact absurd hc (by decide) | (cases hc; done) | (refine X.skip ?_)))))))) <;> (first | refine Ex.then ?_ | (refine N.next ?_ <;> (refine X.block ?_ <;> (refine X.text (L := (.op .fin 0 (.op .fin 1 (.op .fin 2 .nil)))) rfl ?_ <;>
    ((apply XL.det0F rfl rfl rfl rfl; exact D.move rfl)) <;>
    ((apply XL.det0F rfl rfl rfl rfl; first | exact D.add64 rfl rfl (by omega) | exact D.int rfl rfl rfl)) <;>
    ((apply XL.det0F rfl rfl rfl rfl; exact D.assign rfl)) <;>
    (refine XL.nil ?_)) <;> (first | refine N.block ?_ | refine Ex.here ?_ | refine Ex.out rfl ?_))))) <;> (first | refine Ex.then ?_ | ((refine N.again ((m + 1)) ?_ ?_ ?_ ?_; (focus (exact ⟨by omega, by omega, fun j y h3 h4 hy => by by_cases e : j = m; subst e; rw [hx] at hy; cases hy; omega; exact hin j y h3 (by omega) hy⟩)); (focus (first | omega | (dsimp only; omega))); (focus (repeat (first | exact Sub.nil | refine Sub.cons rfl ?_))); exact (fun w h => h.takes))))) <;> (first | refine N.block ?_ | refine Ex.here ?_ | refine Ex.out rfl ?_)) <;> (first | refine Ex.then ?_ | (refine N.next ?_ <;> (refine X.seq ?_ <;> (refine X.draw (.op .v0 0 (.op .v0 1 (.op .v0 2 (.op .v1 3 (.op .v0 4 (.op .v0 5 (.op .v0 6 (.op .v0 7 (.op .v0 8 (.op .v0 9 (.op .v1 10 (.op .v0 11 (.op .v0 12 (.op .v0 13 (.op .v0 14 .nil))))))))))))))) mixed (by kernel_rfl) ?_ <;>
    ((apply XL.det0 rfl rfl rfl rfl; exact D.move rfl)) <;>
    ((apply XL.det0 rfl rfl rfl rfl; exact D.nilCheck rfl)) <;>
    ((apply XL.det0 rfl rfl rfl rfl; first | exact D.fieldAddrB0 rfl rfl | exact D.fieldAddrB rfl rfl | exact D.fieldAddrE0 rfl rfl | exact D.fieldAddrE rfl rfl)) <;>
    (have hP : Parts l s k m := ⟨hkm, hml, hlo, hmid, hin, fun y hy => by first | (have := (List.getElem?_eq_some_iff.1 hy).1; omega) | (rw [hx] at hy; cases hy; omega)⟩; (apply XL.det1 rfl rfl rfl rfl; exact D.load1 rfl (fun w hw => hw.cell0 hm (fun h => h)))) <;>
    ((apply XL.det0 rfl rfl rfl rfl; exact D.move rfl)) <;>
    ((apply XL.det0 rfl rfl rfl rfl; exact D.move rfl)) <;>
    ((apply XL.det0 rfl rfl rfl rfl; exact D.sliceHM (h := k) (m := k) rfl rfl rfl (by omega))) <;>
    ((apply XL.det0 rfl rfl rfl rfl; exact D.move rfl)) <;>
    ((apply XL.det0 rfl rfl rfl rfl; exact D.nilCheck rfl)) <;>
    ((apply XL.det0 rfl rfl rfl rfl; first | exact D.fieldAddrB0 rfl rfl | exact D.fieldAddrB rfl rfl | exact D.fieldAddrE0 rfl rfl | exact D.fieldAddrE rfl rfl)) <;>
    ((apply XL.det1 rfl rfl rfl rfl; exact D.load1 rfl (fun w hw => hw.cell0 hm (fun h => h)))) <;>
    ((apply XL.det0 rfl rfl rfl rfl; exact D.move rfl)) <;>
    ((apply XL.det0 rfl rfl rfl rfl; exact D.sliceL (l := m) rfl rfl (by omega))) <;>
    ((apply XL.det0 rfl rfl rfl rfl; exact D.assign rfl)) <;>
    ((apply XL.det0 rfl rfl rfl rfl; exact D.assign rfl)) <;>
    (refine XL.nil ?_)) <;> (first | refine Ex.then ?_ | (refine N.next ?_ <;> (refine X.seq ?_ <;> (refine X.seq ?_ <;> (refine X.text (L := (.op .fin 0 (.op .fin 1 (.op .fin 2 (.op .fin 3 (.op .fin 4 (.op .fin 5 (.op .fin 6 (.op .fin 7 (.op .fin 8 .nil)))))))))) rfl ?_ <;>
    ((apply XL.det0F rfl rfl rfl rfl; exact D.move rfl)) <;>
    ((apply XL.det0F rfl rfl rfl rfl; exact D.nilCheck rfl)) <;>
    ((apply XL.det0F rfl rfl rfl rfl; first | exact D.fieldAddrB0 rfl rfl | exact D.fieldAddrB rfl rfl | exact D.fieldAddrE0 rfl rfl | exact D.fieldAddrE rfl rfl)) <;>
    ((apply XL.detF rfl rfl rfl rfl; exact D.load1 rfl (fun w hw => hw.cell0 hm (fun h => h)))) <;>
    ((apply XL.det0F rfl rfl rfl rfl; exact D.move rfl)) <;>
    ((apply XL.det0F rfl rfl rfl rfl; exact D.move rfl)) <;>
    ((apply XL.det0F rfl rfl rfl rfl; exact D.sliceLH (l := k) (h := m) rfl rfl rfl (by omega))) <;>
    (obtain ⟨P, hPe⟩ : ∃ P, midL l k m = P := (⟨_, rfl⟩); have hPl : P.length = m - k := (by rw [← hPe]; simp [midL]; omega); have vA := viewA (s := s) a c l k (by omega) (by omega); have vB := viewB (s := s) a c l m (by omega); have vM := viewM a c l k m (by omega) (by omega); rw [hPe] at vM; refine XL.mem (B := [vw 4 a l.length c (encE l) 30 4 (subA a 4 0 k) k k (encE (ahE s (l.take k) (P.take 0))), own 30 4 (.slice none 0 0) 0 (encE (inF s (P.take 0))), vw 4 a l.length c (encE l) 30 4 (subA a 4 m c) (l.length - m) (c - m) (encE (beE s (l.drop m) (P.take 0))), cells gs [.int .i64 s.1, .int .i64 s.2] 26]) (fun w h => (((h.vwNew vB).nilOwn 30 4).vwNew vA)) ?_; (apply XL.det0F rfl rfl rfl rfl; exact D.len rfl)) <;>
    ((apply XL.det0F rfl rfl rfl rfl; exact D.move rfl)) <;>
    (refine XL.nil ?_)) <;> (first | refine Ex.then ?_ | (refine N.next ?_ <;> (refine X.block ?_ <;> ((refine X.loop (ι := AroI) (fun x => [(3, .pointer (some ⟨gs, 0, none⟩)), (4, .slice x.pa x.nA x.ca), (5, .slice x.pi x.nI x.ci), (6, .slice x.pb x.nB x.cb), (65, .slice (subA a 4 k c) (m - k) (c - k)), (66, .int .i64 (m - k : Nat)), (67, .int .i64 x.i)]) (fun x => [vw 4 a l.length c (encE l) 30 4 x.pa x.nA x.ca (encE (ahE s (l.take k) (P.take x.i))), own 30 4 (.slice x.pi x.nI x.ci) x.nI (encE (inF s (P.take x.i))), vw 4 a l.length c (encE l) 30 4 x.pb x.nB x.cb (encE (beE s (l.drop m) (P.take x.i))), cells gs [.int .i64 s.1, .int .i64 s.2] 26]) (fun x => x.i ≤ m - k ∧ x.nA = (ahE s (l.take k) (P.take x.i)).length ∧ x.nI = (inF s (P.take x.i)).length ∧ x.nB = (beE s (l.drop m) (P.take x.i)).length ∧ (x.i = 0 → x.ca = x.nA)) (fun x => m - k - x.i) (⟨0, subA a 4 0 k, k, k, none, 0, 0, subA a 4 m c, l.length - m, c - m⟩) ?_ ?_ ?_ ?_; (focus (exact ⟨Nat.zero_le _, by simp [ahE]; omega, by simp [inF], by simp [beE], fun _ => rfl⟩)); (focus (repeat (first | exact Sub.nil | refine Sub.cons rfl ?_))); (focus (exact (fun w h => h.takes))); rintro ⟨i, pa, nA, ca, pi, nI, ci, pb, nB, cb⟩ ⟨hi, hnA, hnI, hnB, hca⟩; (dsimp only at *)) <;> (refine X.seq ?_ <;> (refine X.text (L := (.op .fin 0 .nil)) rfl ?_ <;>
    (first | refine XL.splitF rfl rfl rfl rfl (D.int rfl rfl rfl) (fun h5 => ?_) (fun h5 => ?_)) <;>
    (refine XL.nil ?_)) <;> (first | refine Ex.then ?_ | (refine N.next ?_ <;> (refine X.seq ?_ <;> ((
    refine X.cond rfl ?_ ?_; rotate_left; (focus (
    intro hc; first | exact absurd hc (by decide) | (cases hc; done) | (refine X.exit ?_))); rotate_right; (focus (
    intro hc; first | exact absurd hc (by decide) | (cases hc; done) | (refine X.skip ?_))))) <;> (first | refine Ex.then ?_ | (refine N.next ?_ <;> (refine X.seq ?_ <;> (refine X.block ?_ <;> (refine X.seq ?_ <;> (refine X.text (L := (.op .fin 0 (.op .fin 1 (.op .fin 2 (.op .fin 3 .nil))))) rfl ?_ <;>
    (have hil : i < P.length := (by omega); have bds := aro_len s l P k m i (by omega); obtain ⟨x, hx⟩ := get_lt hil; have hxl : l[k + i]? = some x := (mid_get hPe hx); have hxi := (hr.mem (List.mem_of_getElem? hxl)).1; have hxi' := hxi; unfold inE at hxi'; have hx1 := hP.mid (k + i) x (by omega) hxl; have hx2 := hP.in_ (k + i) x (by omega) (by omega) hxl; (apply XL.detF rfl rfl rfl rfl; exact D.indexAddr i rfl rfl rfl (by omega) (by have := (hl.subT (f := encE1) (fun _ => rfl) (l := k) (h := m) (m := c) (by omega) (by omega) (by omega) (by omega)).sm (by omega); exact this))) <;>
    ((apply XL.detF rfl rfl rfl rfl; exact D.loadN rfl rfl (fun w hw j u hu => Rd.ext (vM w (hl.conf0 hw)) hx j u hu))) <;>
    (refine XL.alloc rfl rfl rfl (by intro g; infer_instance) (fun g => ?_)) <;>
    (first | refine XL.store1 rfl rfl rfl rfl rfl ?_ | refine XL.storeN rfl rfl rfl rfl rfl rfl ?_) <;>
    (refine XL.nil ?_)) <;> (first | refine Ex.then ?_ | (refine N.next ?_ <;> (refine X.seq ?_ <;> (refine X.seq ?_ <;> (refine X.text (L := (.op .fin 0 (.op .fin 1 (.op .fin 2 (.op .fin 3 (.op .fin 4 (.op .fin 5 .nil))))))) rfl ?_ <;>
    ((apply XL.det0F rfl rfl rfl rfl; first | exact D.fieldAddrB0 rfl rfl | exact D.fieldAddrB rfl rfl | exact D.fieldAddrE0 rfl rfl | exact D.fieldAddrE rfl rfl)) <;>
    ((apply XL.det0F rfl rfl rfl rfl; first | exact D.fieldAddrB0 rfl rfl | exact D.fieldAddrB rfl rfl | exact D.fieldAddrE0 rfl rfl | exact D.fieldAddrE rfl rfl)) <;>
    ((apply XL.detF rfl rfl rfl rfl; first | exact D.load1 rfl (fun w h => h.cellAt (Loc.at_) rfl) | exact D.loadN rfl rfl (fun w h j u hu => by rw [at_add, Nat.zero_add]; exact h.cellAt (Loc.at_) hu) | exact D.loadP rfl rfl)) <;>
    ((apply XL.det0F rfl rfl rfl rfl; first | exact D.fieldAddrB0 rfl rfl | exact D.fieldAddrB rfl rfl | exact D.fieldAddrE0 rfl rfl | exact D.fieldAddrE rfl rfl)) <;>
    ((apply XL.detF rfl rfl rfl rfl; first | exact D.load1 rfl (fun w h => h.cellAt (Loc.at_) rfl) | exact D.loadN rfl rfl (fun w h j u hu => by rw [at_add, Nat.zero_add]; exact h.cellAt (Loc.at_) hu) | exact D.loadP rfl rfl)) <;>
    (first | refine XL.splitF rfl rfl rfl rfl (D.int rfl rfl rfl) (fun h6 => ?_) (fun h6 => ?_)) <;>
    (refine XL.nil ?_)) <;> (first | refine Ex.then ?_ | (refine N.next ?_ <;> ((
    refine X.cond rfl ?_ ?_; rotate_left; (focus (
    intro hc; first | exact absurd hc (by decide) | (cases hc; done) | (refine X.skip ?_))); rotate_right; (focus (
    intro hc; first | exact absurd hc (by decide) | (cases hc; done) | (refine X.text (L := (.op .fin 0 (.op .fin 1 (.op .fin 2 (.op .fin 3 (.op .fin 4 (.op .fin 5 (.op .fin 6 (.op .fin 7 (.op .fin 8 (.op .fin 9 (.op .fin 10 .nil)))))))))))) rfl ?_ <;>
    ((apply XL.det0F rfl rfl rfl rfl; exact D.move rfl)) <;>
    ((apply XL.detF rfl rfl rfl rfl; first | exact D.load1 rfl (fun w h => h.cellAt (Loc.at_) rfl) | exact D.loadN rfl rfl (fun w h j u hu => by rw [at_add, Nat.zero_add]; exact h.cellAt (Loc.at_) hu) | exact D.loadP rfl rfl)) <;>
    ((apply XL.det0F rfl rfl rfl rfl; first | exact D.fieldAddrB0 rfl rfl | exact D.fieldAddrB rfl rfl | exact D.fieldAddrE0 rfl rfl | exact D.fieldAddrE rfl rfl)) <;>
    ((apply XL.det0F rfl rfl rfl rfl; first | exact D.fieldAddrB0 rfl rfl | exact D.fieldAddrB rfl rfl | exact D.fieldAddrE0 rfl rfl | exact D.fieldAddrE rfl rfl)) <;>
    ((apply XL.detF rfl rfl rfl rfl; first | exact D.load1 rfl (fun w h => h.cellAt (Loc.at_) rfl) | exact D.loadN rfl rfl (fun w h j u hu => by rw [at_add, Nat.zero_add]; exact h.cellAt (Loc.at_) hu) | exact D.loadP rfl rfl)) <;>
    ((apply XL.det0F rfl rfl rfl rfl; first | exact D.fieldAddrB0 rfl rfl | exact D.fieldAddrB rfl rfl | exact D.fieldAddrE0 rfl rfl | exact D.fieldAddrE rfl rfl)) <;>
    ((apply XL.detF rfl rfl rfl rfl; first | exact D.load1 rfl (fun w h => h.cellAt (Loc.at_) rfl) | exact D.loadN rfl rfl (fun w h j u hu => by rw [at_add, Nat.zero_add]; exact h.cellAt (Loc.at_) hu) | exact D.loadP rfl rfl)) <;>
    ((refine XL.call rfl rfl rfl rfl (fun w hw => part_spec x x.a s.1 ⟨hxi, by omega⟩ w) ?_; rintro v B' ⟨rfl, rfl⟩; refine XL.both ?_)) <;>
    ((refine XL.sliceL valE encE1 [prt x.a s.1 x] (fun _ => rfl) (fun _ => rfl) rfl rfl rfl rfl rfl rfl (fun _ => by infer_instance) (fun gl => ?_))) <;>
    (have hi0 : i = 0 := (mid_first hr hP hPe hx h6); have hcn := (hca hi0).symm; subst hcn; (refine XL.appendN (n := nA) (m := 1) rfl rfl rfl rfl rfl (by omega) (fun w hw => hw.vrd (a := pa) (hl.conf0 hw)) (fun w hw => hw.rd (a := some ⟨gl, 0, none⟩)) (by unfold maxLen; omega) (fun _ _ => by infer_instance) (fun g2 c2 => ?_)); refine XL.mem (fun w h => h.vwOwn (sz0 := 4) (a0 := a) (n0 := l.length) (c0 := c) (xs0 := encE l)) ?_; rw [show encE (ahE s (l.take k) (P.take i)) ++ [prt x.a s.1 x].flatMap encE1 = encE (ahE s (l.take k) (P.take (i + 1))) from (by rw [take_succ_snoc hx, ahE_snoc, if_pos h6]; simp [encE])]) <;>
    ((apply XL.det0F rfl rfl rfl rfl; exact D.assign rfl)) <;>
    (refine XL.nil ?_))))))))) <;> (first | refine Ex.then ?_ | (refine N.next ?_ <;> (refine X.seq ?_ <;> (refine X.draw (.op .v0 0 (.op .v1 1 (.op .v0 2 (.op .v0 3 (.op .v1 4 (.op .v0 5 (.op .v1 6 (.op .v0 7 (.op .v0 8 (.op .v1 9 (.op .v1 11 (.op .ch 10 (.op .ch 12 (.op .v0 13 (.op .ch 14 (.op .ch 15 (.op .fin 16 (.op .v0 17 .nil)))))))))))))))))) mixed (by kernel_rfl) ?_ <;>
    ((first | (have hAh : ahE s (l.take k) (P.take (i + 1)) = ahE s (l.take k) (P.take i) := (by rw [take_succ_snoc hx, ahE_snoc, if_neg h6])) | (have hAh : ahE s (l.take k) (P.take (i + 1)) = ahE s (l.take k) (P.take i) ++ [prt x.a s.1 x] := (by rw [take_succ_snoc hx, ahE_snoc, if_pos h6]))); (apply XL.det0 rfl rfl rfl rfl; exact D.move rfl)) <;>
    ((apply XL.det1 rfl rfl rfl rfl; first | exact D.load1 rfl (fun w h => h.cellAt (Loc.at_) rfl) | exact D.loadN rfl rfl (fun w h j u hu => by rw [at_add, Nat.zero_add]; exact h.cellAt (Loc.at_) hu) | exact D.loadP rfl rfl)) <;>
    ((apply XL.det0 rfl rfl rfl rfl; first | exact D.fieldAddrB0 rfl rfl | exact D.fieldAddrB rfl rfl | exact D.fieldAddrE0 rfl rfl | exact D.fieldAddrE rfl rfl)) <;>
    ((apply XL.det0 rfl rfl rfl rfl; first | exact D.fieldAddrB0 rfl rfl | exact D.fieldAddrB rfl rfl | exact D.fieldAddrE0 rfl rfl | exact D.fieldAddrE rfl rfl)) <;>
    ((apply XL.det1 rfl rfl rfl rfl; first | exact D.load1 rfl (fun w h => h.cellAt (Loc.at_) rfl) | exact D.loadN rfl rfl (fun w h j u hu => by rw [at_add, Nat.zero_add]; exact h.cellAt (Loc.at_) hu) | exact D.loadP rfl rfl)) <;>
    ((apply XL.det0 rfl rfl rfl rfl; first | exact D.fieldAddrB0 rfl rfl | exact D.fieldAddrB rfl rfl | exact D.fieldAddrE0 rfl rfl | exact D.fieldAddrE rfl rfl)) <;>
    ((apply XL.det1 rfl rfl rfl rfl; first | exact D.load1 rfl (fun w h => h.cellAt (Loc.at_) rfl) | exact D.loadN rfl rfl (fun w h j u hu => by rw [at_add, Nat.zero_add]; exact h.cellAt (Loc.at_) hu) | exact D.loadP rfl rfl)) <;>
    ((apply XL.det0 rfl rfl rfl rfl; exact D.max2 rfl rfl)) <;>
    ((apply XL.det0 rfl rfl rfl rfl; first | exact D.fieldAddrB0 rfl rfl | exact D.fieldAddrB rfl rfl | exact D.fieldAddrE0 rfl rfl | exact D.fieldAddrE rfl rfl)) <;>
    ((apply XL.det1 rfl rfl rfl rfl; first | exact D.load1 rfl (fun w h => h.cellAt (Loc.at_) rfl) | exact D.loadN rfl rfl (fun w h j u hu => by rw [at_add, Nat.zero_add]; exact h.cellAt (Loc.at_) hu) | exact D.loadP rfl rfl)) <;>
    ((apply XL.det1 rfl rfl rfl rfl; first | exact D.load1 rfl (fun w h => h.cellAt (Loc.at_) rfl) | exact D.loadN rfl rfl (fun w h j u hu => by rw [at_add, Nat.zero_add]; exact h.cellAt (Loc.at_) hu) | exact D.loadP rfl rfl)) <;>
    ((refine XL.call rfl rfl rfl rfl (fun w hw => End_spec _ _ w) ?_; rintro v B' ⟨rfl, rfl⟩; refine XL.both ?_); rw [D.wrap64_fit (by omega)]) <;>
    ((refine XL.call rfl rfl rfl rfl (fun w hw => End_spec _ _ w) ?_; rintro v B' ⟨rfl, rfl⟩; refine XL.both ?_); rw [may_end hs]) <;>
    ((apply XL.det0 rfl rfl rfl rfl; exact D.min2 rfl rfl)) <;>
    ((refine XL.call rfl rfl rfl rfl (fun w hw => part_spec x _ _ ⟨hxi, by omega⟩ w) ?_; rintro v B' ⟨rfl, rfl⟩; refine XL.both ?_)) <;>
    (refine XL.slice1 rfl rfl rfl rfl rfl rfl (by intro g; infer_instance) (fun g => ?_)) <;>
    ((refine XL.append rfl rfl rfl rfl rfl rfl ?_ ?_ (fun a' c' => ?_); (focus (skip; unfold maxLen; omega)); (focus (intro _ _; infer_instance))); rw [show encE (inF s (P.take i)) ++ [Value.int IntKind.i64 (max x.a s.1), Value.int IntKind.i64 (min (x.a + x.n) (s.1 + s.2) - max x.a s.1), Value.int IntKind.i64 x.q, Value.int IntKind.i64 (x.p + max x.a s.1 - x.a)] = encE (inF s (P.take (i + 1))) from (by rw [take_succ_snoc hx, inF_snoc]; simp [encE, encE1, prt])]) <;>
    ((apply XL.det0 rfl rfl rfl rfl; exact D.assign rfl)) <;>
    (refine XL.nil ?_)) <;> (first | refine Ex.then ?_ | (refine N.next ?_ <;> (refine X.seq ?_ <;> (refine X.draw (.op .v0 0 (.op .v1 1 (.op .v1 3 (.op .ch 2 (.op .ch 4 (.op .v0 5 .nil)))))) mixed (by kernel_rfl) ?_ <;>
    ((apply XL.det0 rfl rfl rfl rfl; first | exact D.fieldAddrB0 rfl rfl | exact D.fieldAddrB rfl rfl | exact D.fieldAddrE0 rfl rfl | exact D.fieldAddrE rfl rfl)) <;>
    ((apply XL.det1 rfl rfl rfl rfl; first | exact D.load1 rfl (fun w h => h.cellAt (Loc.at_) rfl) | exact D.loadN rfl rfl (fun w h j u hu => by rw [at_add, Nat.zero_add]; exact h.cellAt (Loc.at_) hu) | exact D.loadP rfl rfl)) <;>
    ((apply XL.det1 rfl rfl rfl rfl; first | exact D.load1 rfl (fun w h => h.cellAt (Loc.at_) rfl) | exact D.loadN rfl rfl (fun w h j u hu => by rw [at_add, Nat.zero_add]; exact h.cellAt (Loc.at_) hu) | exact D.loadP rfl rfl)) <;>
    ((refine XL.call rfl rfl rfl rfl (fun w hw => End_spec _ _ w) ?_; rintro v B' ⟨rfl, rfl⟩; refine XL.both ?_); rw [D.wrap64_fit (by omega)]) <;>
    ((refine XL.call rfl rfl rfl rfl (fun w hw => End_spec _ _ w) ?_; rintro v B' ⟨rfl, rfl⟩; refine XL.both ?_); rw [may_end hs]) <;>
    (first | refine XL.split0 rfl rfl rfl rfl (D.int rfl rfl rfl) (fun h7 => ?_) (fun h7 => ?_)) <;>
    (refine XL.nil ?_)) <;> (first | refine Ex.then ?_ | (refine N.next ?_ <;> ((
    refine X.cond rfl ?_ ?_; rotate_left; (focus (
    intro hc; first | exact absurd hc (by decide) | (cases hc; done) | (refine X.skip ?_))); rotate_right; (focus (
    intro hc; first | exact absurd hc (by decide) | (cases hc; done) | (refine X.draw (.op .v1 0 (.op .v1 1 (.op .v0 3 (.op .v1 4 (.op .v0 8 (.op .ch 2 (.op .ch 5 (.op .ch 6 (.op .ch 7 (.op .ch 9 (.op .ch 10 (.op .v0 11 .nil)))))))))))) mixed (by kernel_rfl) ?_ <;>
    ((apply XL.det1 rfl rfl rfl rfl; first | exact D.load1 rfl (fun w h => h.cellAt (Loc.at_) rfl) | exact D.loadN rfl rfl (fun w h j u hu => by rw [at_add, Nat.zero_add]; exact h.cellAt (Loc.at_) hu) | exact D.loadP rfl rfl)) <;>
    ((apply XL.det1 rfl rfl rfl rfl; first | exact D.load1 rfl (fun w h => h.cellAt (Loc.at_) rfl) | exact D.loadN rfl rfl (fun w h j u hu => by rw [at_add, Nat.zero_add]; exact h.cellAt (Loc.at_) hu) | exact D.loadP rfl rfl)) <;>
    ((apply XL.det0 rfl rfl rfl rfl; first | exact D.fieldAddrB0 rfl rfl | exact D.fieldAddrB rfl rfl | exact D.fieldAddrE0 rfl rfl | exact D.fieldAddrE rfl rfl)) <;>
    ((apply XL.det1 rfl rfl rfl rfl; first | exact D.load1 rfl (fun w h => h.cellAt (Loc.at_) rfl) | exact D.loadN rfl rfl (fun w h j u hu => by rw [at_add, Nat.zero_add]; exact h.cellAt (Loc.at_) hu) | exact D.loadP rfl rfl)) <;>
    (subst hnB; (apply XL.det0 rfl rfl rfl rfl; exact D.move rfl)) <;>
    ((refine XL.call rfl rfl rfl rfl (fun w hw => End_spec _ _ w) ?_; rintro v B' ⟨rfl, rfl⟩; refine XL.both ?_); rw [may_end hs]) <;>
    ((refine XL.call rfl rfl rfl rfl (fun w hw => End_spec _ _ w) ?_; rintro v B' ⟨rfl, rfl⟩; refine XL.both ?_); rw [D.wrap64_fit (by omega)]) <;>
    ((refine XL.call rfl rfl rfl rfl (fun w hw => part_spec x _ _ ⟨hxi, by omega⟩ w) ?_; rintro v B' ⟨rfl, rfl⟩; refine XL.both ?_)) <;>
    ((refine XL.sliceL valE encE1 [prt (s.1 + s.2) (x.a + x.n) x] (fun _ => rfl) (fun _ => rfl) rfl rfl rfl rfl rfl rfl (fun _ => by infer_instance) (fun gl2 => ?_))) <;>
    ((refine XL.sliceL valL encL1 [⟨some ⟨gl2, 0, none⟩, 1, [prt (s.1 + s.2) (x.a + x.n) x]⟩, ⟨pb, cb, beE s (l.drop m) (P.take i)⟩] (fun _ => rfl) (fun _ => rfl) rfl rfl rfl rfl rfl rfl (fun _ => by infer_instance) (fun gl3 => ?_))) <;>
    (have hsum : sumL [⟨some ⟨gl2, 0, none⟩, 1, [prt (s.1 + s.2) (x.a + x.n) x]⟩, ⟨pb, cb, beE s (l.drop m) (P.take i)⟩] ≤ 1000000 := (by simp only [sumL, List.length_cons, List.length_nil]; omega); (refine XL.call rfl rfl rfl rfl (fun w hw => Concat_spec w _ _ [⟨some ⟨gl2, 0, none⟩, 1, [prt (s.1 + s.2) (x.a + x.n) x]⟩, ⟨pb, cb, beE s (l.drop m) (P.take i)⟩] (hw.rd (a := some ⟨gl3, 0, none⟩)) (two_mem (hw.rd (a := some ⟨gl2, 0, none⟩)) (hw.vrd (a := pb) (hl.conf0 hw))) (by simp) hsum) ?_; rintro v B' ⟨a9, c9, rfl, rfl⟩; refine XL.both ?_); rw [show ([⟨some ⟨gl2, 0, none⟩, 1, [prt (s.1 + s.2) (x.a + x.n) x]⟩, ⟨pb, cb, beE s (l.drop m) (P.take i)⟩] : List Sle).flatMap (·.l) = beE s (l.drop m) (P.take (i + 1)) from (by rw [take_succ_snoc hx, beE_snoc, if_pos h7]; simp)]) <;>
    ((apply XL.det0 rfl rfl rfl rfl; exact D.assign rfl)) <;>
    (refine XL.nil ?_)))))))))))))))))) <;> (first | refine N.block ?_ | refine Ex.here ?_ | refine Ex.out rfl ?_)) <;> (first | refine Ex.then ?_ | (refine N.next ?_ <;> (refine X.text (L := (.op .fin 0 (.op .fin 1 .nil))) rfl ?_ <;>
    (have hIn : (inF s (P.take (i + 1))).length = nI + 1 := (by rw [take_succ_snoc hx, inF_snoc]; simp [hnI]); (first | (have hBh : beE s (l.drop m) (P.take (i + 1)) = beE s (l.drop m) (P.take i) := (by rw [take_succ_snoc hx, beE_snoc, if_neg h7]); rw [← hBh]) | (refine XL.mem (fun w h => h.vwOwn (sz0 := 4) (a0 := a) (n0 := l.length) (c0 := c) (xs0 := encE l)) ?_)); (first | rw [← hAh] | skip); (apply XL.det0F rfl rfl rfl rfl; exact D.add64 rfl rfl (by omega))) <;>
    ((apply XL.det0F rfl rfl rfl rfl; exact D.move rfl)) <;>
    (refine XL.nil ?_))))))))))) <;> (first | refine Ex.then ?_ | (first | (refine N.again (⟨i + 1, pa, nA, ca, a', nI + 1, c', pb, nB, cb⟩) ?_ ?_ ?_ ?_; (focus (exact ⟨by dsimp only; omega, by first | (rw [hAh]; exact hnA) | (rw [hAh, List.length_append, ← hnA]; rfl), hIn.symm, by first | rfl | (rw [hBh]; exact hnB), fun h => absurd h (Nat.succ_ne_zero i)⟩)); (focus (first | omega | (dsimp only; omega))); (focus (repeat (first | exact Sub.nil | refine Sub.cons rfl ?_))); exact (fun w h => h.takes)) | (refine N.again (⟨i + 1, some ⟨g2, 0, none⟩, nA + 1, c2, a', nI + 1, c', pb, nB, cb⟩) ?_ ?_ ?_ ?_; (focus (exact ⟨by dsimp only; omega, by first | (rw [hAh]; exact hnA) | (rw [hAh, List.length_append, ← hnA]; rfl), hIn.symm, by first | rfl | (rw [hBh]; exact hnB), fun h => absurd h (Nat.succ_ne_zero i)⟩)); (focus (first | omega | (dsimp only; omega))); (focus (repeat (first | exact Sub.nil | refine Sub.cons rfl ?_))); exact (fun w h => h.takes)) | (refine N.again (⟨i + 1, pa, nA, ca, a', nI + 1, c', a9, (beE s (l.drop m) (P.take (i + 1))).length, c9⟩) ?_ ?_ ?_ ?_; (focus (exact ⟨by dsimp only; omega, by first | (rw [hAh]; exact hnA) | (rw [hAh, List.length_append, ← hnA]; rfl), hIn.symm, by first | rfl | (rw [hBh]; exact hnB), fun h => absurd h (Nat.succ_ne_zero i)⟩)); (focus (first | omega | (dsimp only; omega))); (focus (repeat (first | exact Sub.nil | refine Sub.cons rfl ?_))); exact (fun w h => h.takes)) | (refine N.again (⟨i + 1, some ⟨g2, 0, none⟩, nA + 1, c2, a', nI + 1, c', a9, (beE s (l.drop m) (P.take (i + 1))).length, c9⟩) ?_ ?_ ?_ ?_; (focus (exact ⟨by dsimp only; omega, by first | (rw [hAh]; exact hnA) | (rw [hAh, List.length_append, ← hnA]; rfl), hIn.symm, by first | rfl | (rw [hBh]; exact hnB), fun h => absurd h (Nat.succ_ne_zero i)⟩)); (focus (first | omega | (dsimp only; omega))); (focus (repeat (first | exact Sub.nil | refine Sub.cons rfl ?_))); exact (fun w h => h.takes))))) <;> (first | refine N.block ?_ | refine Ex.here ?_ | refine Ex.out rfl ?_))))) <;> (first | refine Ex.then ?_ | (refine N.next ?_ <;> (refine X.seq ?_ <;> (refine X.text (L := (.op .fin 0 (.op .fin 1 (.op .fin 2 (.op .fin 3 (.op .fin 4 (.op .fin 5 .nil))))))) rfl ?_ <;>
    (have hPt : P.take i = P := (List.take_of_length_le (by omega)); rw [hPt] at hnA hnI hnB ⊢; subst hPe; subst hnA; subst hnI; subst hnB; (apply XL.det0F rfl rfl rfl rfl; exact D.move rfl)) <;>
    ((apply XL.det0F rfl rfl rfl rfl; exact D.move rfl)) <;>
    ((apply XL.det0F rfl rfl rfl rfl; exact D.move rfl)) <;>
    ((apply XL.det0F rfl rfl rfl rfl; exact D.assign rfl)) <;>
    ((apply XL.det0F rfl rfl rfl rfl; exact D.assign rfl)) <;>
    ((apply XL.det0F rfl rfl rfl rfl; exact D.assign rfl)) <;>
    (refine XL.nil ?_)) <;> (first | refine Ex.then ?_ | (refine N.next ?_ <;> ((refine X.ret ?_; (repeat (first | refine Rt.then ?_ | refine Rt.block ?_ | refine Rt.scope ?_)); apply Rt.done (Res.r3 Try.results44 (RV.tmp rfl) (RV.tmp rfl) (RV.tmp rfl)); (focus (exact ⟨k, m, pa, ca, pi, ci, pb, cb, hP, rfl, rfl⟩)); exact fun w h => h.takes)))))))))))))))))))))))
end Go.Lx
