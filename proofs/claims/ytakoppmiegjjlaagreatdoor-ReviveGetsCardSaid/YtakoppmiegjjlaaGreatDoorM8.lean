import Derived.Test.YtakoppmiegjjlaaGreatDoorM6
import Derived.Test.YtakoppmiegjjlaaGreatDoorM7
import Derived.Test.YtakoppmiegjjlaaGreatDoorM4
set_option linter.unusedVariables false
set_option linter.unusedSimpArgs false
set_option maxRecDepth 20000
set_option maxHeartbeats 4000000
namespace Go.Lx
open Go.Proofs
def NoMap (w : World) (g : Nat) : Prop := ∃ (es : Array MapEntry) (clock : Nat), w.heap[g]? = some (.map es clock) ∧ es.toList = []
theorem NoMap.conf0 {P : Program} {m : Kd} {w0 w : World} {A : List Assn} {g : Nat} (h : NoMap w0 g) (hw : Conf ⟨P, m, w0, fun _ => False⟩ A w) : NoMap w g := by
  obtain ⟨es, clock, h1, h2⟩ := h
  exact ⟨es, clock, (hw.keep g (Array.getElem?_eq_some_iff.1 h1).1 (fun h => h)).trans h1, h2⟩
theorem Conf.noMap {C : Cx} {A : List Assn} {w : World} {g i : Nat} {f : Bs → Value} [h : MapTAt A g Bs f [] i] (hc : Conf C A w) : NoMap w g := by
  obtain ⟨es, clock, h1, h2, _⟩ := hc.mapTAt (g := g)
  exact ⟨es, clock, h1, by simpa using h2⟩
def kindB (k : Int) : Bs := if k = 1 then [100] else if k = 2 then [99] else if k = 3 then [109] else [101]
def preB (v : Bs) (k : Int) : Bs := ((v ++ [47]) ++ kindB k) ++ [47]
theorem kind_len (k : Int) : (kindB k).length = 1 := by
  unfold kindB
  split
  · rfl
  · split
    · rfl
    · split <;> rfl
theorem kind_cut {k : Int} (h : 1 ≤ k ∧ k ≤ 4) : (([45, 100, 99, 109, 101] : Bs).drop k.toNat).take (k.toNat + 1 - k.toNat) = kindB k := by
  rcases (by omega : k = 1 ∨ k = 2 ∨ k = 3 ∨ k = 4) with rfl | rfl | rfl | rfl <;> rfl
theorem bkNew_spec (w : World) (q : Int) (h : 0 ≤ q) : Spec Tryz.prog 8 #[.int .i64 q] w (fun _ => False) (fun v A => ∃ g gm, v = .tuple #[.pointer (some ⟨g, 0, none⟩), .int .i64 0] ∧ A = [cells g [.map (some gm), .int .i64 q, .int .i64 0, .slice none 0 0, .slice none 0 0] 110, mapT tk gm []]) := by
  refine Spec.enter (args := [.int .i64 q]) (A := []) Tryz.func8 rfl Tryz.ntmps8 rfl (fun _ h => h) ?_
  ((refine Qg (by kernel_rfl) ?_<;>repeat' first|refine Z.p rfl ?_|refine Qf ?_)<;>refine X.seq ?_<;>((refine Qg (by kernel_rfl) ?_<;>repeat' first|refine Z.p rfl ?_|(refine XL.at 1 ?_;(refine Z.cf rfl (by omega) ?_))|refine Qf ?_)<;>(refine Qj rfl ?_ ?_;rotate_left;(focus (intro hc;first|(refine X.skip ?_)));rotate_right;(focus (intro hc;first|exact no_ hc rfl))))<;>(first|refine N.next ?_<;>((refine Qg (by kernel_rfl) ?_<;>repeat' first|refine Z.p rfl ?_|(refine XL.at 0 ?_;(refine XL.makeMapT tk rfl rfl rfl (fun _ => by infer_instance) (fun gm => ?_)))|(refine XL.at 3 ?_;(refine Qt rfl rfl rfl rfl (by intro g; infer_instance) (fun g => ?_)))|refine Z.bd rfl rfl ?_|refine Qf ?_)<;>(apply X.r2 Tryz.results8 (Qi rfl) (Qi rfl);(focus (exact ⟨g, gm, rfl, rfl⟩));exact fun _=>Conf.takes))))
theorem bkNext0_spec (w : World) (g : Nat) (h3 : w.cell? ⟨g, 3, none⟩ = some (.slice none 0 0)) : Spec Tryz.prog 186 #[.pointer (some ⟨g, 0, none⟩)] w (fun _ => False) (fun v A => v = .int .i64 0 ∧ A = []) := by
  refine Spec.enter (args := [.pointer (some ⟨g, 0, none⟩)]) (A := []) Tryz.func186 rfl Tryz.ntmps186 rfl (fun _ h => h) ?_
  ((refine Qg (by kernel_rfl) ?_<;>repeat' first|refine Z.p rfl ?_|refine Qf ?_)<;>refine X.seq ?_<;>((refine Qg (by kernel_rfl) ?_<;>repeat' first|refine Z.p rfl ?_|(refine XL.at 3 ?_;(refine Z.la rfl rfl (fun w hw => hw.cell0 h3 (fun h => h)) ?_))|(refine XL.at 5 ?_;(refine Z.ct rfl (by decide) ?_))|refine Z.fa rfl rfl rfl ?_|refine Z.ln rfl rfl ?_|refine Qf ?_)<;>(refine Qj rfl ?_ ?_;rotate_left;(focus (intro hc;first|exact no_ hc rfl));rotate_right;(focus (intro hc;first|((refine Qg (by kernel_rfl) ?_<;>repeat' first|refine Z.p rfl ?_|refine Qf ?_)<;>(apply X.r1 Tryz.results186 (Qi rfl);(focus (exact ⟨rfl, rfl⟩));exact fun _=>Conf.takes))))))<;>(first|refine Ex.then ?_))
theorem bkFails0_spec (w : World) (g : Nat) (h3 : w.cell? ⟨g, 3, none⟩ = some (.slice none 0 0)) : Spec Tryz.prog 163 #[.pointer (some ⟨g, 0, none⟩)] w (fun _ => False) (fun v A => v = .bool false ∧ A = []) := by
  refine Spec.enter (args := [.pointer (some ⟨g, 0, none⟩)]) (A := []) Tryz.func163 rfl Tryz.ntmps163 rfl (fun _ h => h) ?_
  ((refine Qg (by kernel_rfl) ?_<;>repeat' first|refine Z.p rfl ?_|refine Qf ?_)<;>(refine Qg (by kernel_rfl) ?_<;>repeat' first|refine Z.p rfl ?_|(refine XL.at 1 ?_;((refine XL.call rfl rfl rfl rfl (fun w hw => bkNext0_spec w g (hw.cell0 h3 (fun h => h))) ?_; rintro v B' ⟨rfl, rfl⟩; refine Qh ?_)))|(refine XL.at 2 ?_;(refine Z.cf rfl (by decide) ?_))|refine Qf ?_)<;>(apply X.r1 Tryz.results163 (Qi rfl);(focus (exact ⟨rfl, rfl⟩));exact fun _=>Conf.takes))
theorem KeysT_spec (w : World) (gm : Nat) : Spec Tryz.prog 63 #[.map (some gm)] w (fun _ => False) (fun v A => ∃ gk, v = .func (.func 126) #[] #[.pointer (some ⟨gk, 0, none⟩)] ∧ A = [cells gk [.map (some gm)] 107]) := by
  refine Spec.enter (args := [.map (some gm)]) (A := []) Tryz.func63 rfl Tryz.ntmps63 rfl (fun _ h => h) ?_
  ((refine Qg (by kernel_rfl) ?_<;>repeat' first|refine Z.p rfl ?_|(refine XL.at 0 ?_;(refine XL.box1 rfl rfl rfl rfl rfl (by intro g; infer_instance) (fun gk => ?_)))|refine Qf ?_)<;>(refine Qg (by kernel_rfl) ?_<;>repeat' first|refine Z.p rfl ?_|refine Z.mf rfl rfl rfl ?_|refine Qf ?_)<;>(apply X.r1 Tryz.results63 (Qi rfl);(focus (exact ⟨gk, rfl, rfl⟩));exact fun _=>Conf.takes))
theorem SortedT0_spec (w : World) (H : Nat → Prop) (g gm : Nat) (hc : w.cell? ⟨g, 0, none⟩ = some (.map (some gm))) (hm : NoMap w gm) : Spec Tryz.prog 62 #[.func (.func 126) #[] #[.pointer (some ⟨g, 0, none⟩)]] w H (fun v A => v = .slice none 0 0 ∧ A = []) := by
  obtain ⟨es, clock, hb, hes⟩ := hm
  exact sortedNone_row (ρ1 := Tryz.keysT_ren) (ρ2 := Tryz.sortedT_ren) (ρ3 := Tryz.sortT_ren) { Tryz.keysT with } Tryz.sortedT Tryz.sortT rfl (fun args w => (Enters.run (P := Tryz.prog) (f := 125) args w)) w H g gm hc hb hes
theorem bkNames0_spec (w : World) (g gm : Nat) (h0 : w.cell? ⟨g, 0, none⟩ = some (.map (some gm))) (hm : NoMap w gm) : Spec Tryz.prog 25 #[.pointer (some ⟨g, 0, none⟩)] w (fun _ => False) (fun v A => v = .slice none 0 0 ∧ A = []) := by
  refine Spec.enter (args := [.pointer (some ⟨g, 0, none⟩)]) (A := []) Tryz.func25 rfl Tryz.ntmps25 rfl (fun _ h => h) ?_
  ((refine Qg (by kernel_rfl) ?_<;>repeat' first|refine Z.p rfl ?_|refine Qf ?_)<;>refine X.seq ?_<;>((refine Qg (by kernel_rfl) ?_<;>repeat' first|refine Z.p rfl ?_|(refine XL.at 1 ?_;(refine Z.eqP rfl rfl rfl ?_))|refine Qf ?_)<;>(refine Qj rfl ?_ ?_;rotate_left;(focus (intro hc;first|(refine X.skip ?_)));rotate_right;(focus (intro hc;first|exact no_ hc rfl))))<;>(first|refine N.next ?_<;>((refine Qg (by kernel_rfl) ?_<;>repeat' first|refine Z.p rfl ?_|(refine XL.at 3 ?_;(refine Z.la rfl rfl (fun w hw => hw.cell0 h0 (fun h => h)) ?_))|(refine XL.at 4 ?_;((refine XL.call rfl rfl rfl rfl (fun w hw => KeysT_spec w gm) ?_; rintro v B' ⟨gk, rfl, rfl⟩; refine Qh ?_)))|(refine XL.at 5 ?_;((refine XL.call rfl rfl rfl rfl (fun w hw => SortedT0_spec w _ gk gm (hw.cellAt (g := gk) (o := 0) Loc.at_ rfl) (hm.conf0 hw)) ?_; rintro v B' ⟨rfl, rfl⟩; refine Qh ?_)))|refine Z.fa rfl rfl rfl ?_|refine Qf ?_)<;>(apply X.r1 Tryz.results25 (Qi rfl);(focus (exact ⟨rfl, rfl⟩));exact fun _=>Conf.takes))))
theorem bkList0_spec (w : World) (g gm : Nat) (s : Bs) (h0 : w.cell? ⟨g, 0, none⟩ = some (.map (some gm))) (h3 : w.cell? ⟨g, 3, none⟩ = some (.slice none 0 0)) (hm : NoMap w gm) : Spec Tryz.prog 91 #[.pointer (some ⟨g, 0, none⟩), .string ⟨List.toArray s⟩] w (fun _ => False) (fun v A => v = .tuple #[.slice none 0 0, .int .i64 0] ∧ A = []) := by
  refine Spec.enter (args := [.pointer (some ⟨g, 0, none⟩), .string ⟨List.toArray s⟩]) (A := []) Tryz.func91 rfl Tryz.ntmps91 rfl (fun _ h => h) ?_
  ((refine Qg (by kernel_rfl) ?_<;>repeat' first|refine Z.p rfl ?_|refine Qf ?_)<;>refine X.seq ?_<;>(refine X.block ?_<;>((refine Qg (by kernel_rfl) ?_<;>repeat' first|refine Z.p rfl ?_|(refine XL.at 1 ?_;(refine Z.eqP rfl rfl rfl ?_))|refine Qf ?_)<;>(refine Qj rfl ?_ ?_;rotate_left;(focus (intro hc;first|((refine Qg (by kernel_rfl) ?_<;>repeat' first|refine Z.p rfl ?_|(refine XL.at 1 ?_;((refine XL.call rfl rfl rfl rfl (fun w hw => bkFails0_spec w g (hw.cell0 h3 (fun h => h))) ?_; rintro v B' ⟨rfl, rfl⟩; refine Qh ?_)))|refine Qf ?_)<;>(refine Qj rfl ?_ ?_;rotate_left;(focus (intro hc;first|(refine X.skip ?_)));rotate_right;(focus (intro hc;first|exact no_ hc rfl))))));rotate_right;(focus (intro hc;first|exact no_ hc rfl))))<;>(first|refine N.block ?_))<;>(first|refine N.next ?_<;>((refine Qg (by kernel_rfl) ?_<;>repeat' first|refine Z.p rfl ?_|refine Qf ?_)<;>refine X.seq ?_<;>((refine Qg (by kernel_rfl) ?_<;>repeat' first|refine Z.p rfl ?_|(refine XL.at 1 ?_;((refine XL.call rfl rfl rfl rfl (fun w hw => bkNames0_spec w g gm (hw.cell0 h0 (fun h => h)) (hm.conf0 hw)) ?_; rintro v B' ⟨rfl, rfl⟩; refine Qh ?_)))|refine Z.ln rfl rfl ?_|refine Qf ?_)<;>refine X.block ?_<;>((refine Qu (ι := Nat) (fun i => [(6, .slice none 0 0), (17, .int .i64 0), (18, .int .i64 0)]) (fun _ => []) (fun i => True) (fun i => 0) (0) ?_ ?_ ?_ ?_; (focus (trivial)); (focus (repeat (first| exact Sub.nil | refine Sub.cons rfl ?_))); (focus (exact (fun w h => h.takes))); rintro i hi) <;> ((refine Qg (by kernel_rfl) ?_<;>repeat' first|(refine XL.at 0 ?_;(refine Z.cf rfl (by decide) ?_))|refine Qf ?_)<;>refine X.seq ?_<;>((refine Qj rfl ?_ ?_;rotate_left;(focus (intro hc;first|(refine Qs ?_)));rotate_right;(focus (intro hc;first|exact no_ hc rfl))))<;>(first|refine Ex.then ?_)) <;> (first| refine Ex.then ?_ ))<;>(first|refine Qo ?_))<;>(first|refine N.next ?_<;>((refine Qg (by kernel_rfl) ?_<;>repeat' first|refine Z.p rfl ?_|refine Qf ?_)<;>(apply X.r2 Tryz.results91 (Qi rfl) (Qi rfl);(focus (exact ⟨rfl, rfl⟩));exact fun _=>Conf.takes))))))
theorem Prefix_spec (w : World) (s : Bs) (k : Int) (hs : VolOK s) (hk : 1 ≤ k ∧ k ≤ 4) : Spec Tryz.prog 90 #[.string ⟨List.toArray s⟩, .int .i64 k] w (fun _ => False) (fun v A => v = .tuple #[.string ⟨List.toArray (preB s k)⟩, .int .i64 0] ∧ A = []) := by
  have hl := hs.2.2
  refine Spec.enter (args := [.string ⟨List.toArray s⟩, .int .i64 k]) (A := []) Tryz.func90 rfl Tryz.ntmps90 rfl (fun _ h => h) ?_
  ((refine Qg (by kernel_rfl) ?_<;>repeat' first|refine Z.p rfl ?_|refine Qf ?_)<;>refine X.seq ?_<;>(refine X.block ?_<;>((refine Qg (by kernel_rfl) ?_<;>repeat' first|refine Z.p rfl ?_|(refine XL.at 1 ?_;((refine XL.call rfl rfl rfl rfl (fun w hw => Volume_spec s w) ?_; rintro v B' ⟨rfl, rfl⟩; refine Qh ?_); rw [if_pos hs]))|(refine XL.at 2 ?_;(refine Z.cf rfl (by decide) ?_))|refine Qf ?_)<;>(refine Qj rfl ?_ ?_;rotate_left;(focus (intro hc;first|((refine Qg (by kernel_rfl) ?_<;>repeat' first|refine Z.p rfl ?_|(refine XL.at 1 ?_;(refine Z.cf rfl (by omega) ?_))|(refine XL.at 4 ?_;(refine Z.cf rfl (by omega) ?_))|refine Qf ?_)<;>(refine Qj rfl ?_ ?_;rotate_left;(focus (intro hc;first|(refine X.skip ?_)));rotate_right;(focus (intro hc;first|exact no_ hc rfl))))));rotate_right;(focus (intro hc;first|exact no_ hc rfl))))<;>(first|refine N.block ?_))<;>(first|refine N.next ?_<;>((refine Qg (by kernel_rfl) ?_<;>repeat' first|refine Z.p rfl ?_|(refine XL.at 1 ?_;((refine XL.dt rfl (fun ty pos af gd => D.cat (m := [47]) rfl rfl (by simp; omega)) ?_)))|(refine XL.at 4 ?_;(refine Z.g rfl (by omega) ?_))|(refine XL.at 5 ?_;((refine XL.dt rfl (fun ty pos af gd => D.cutLH (l := [45, 100, 99, 109, 101]) (a := k.toNat) (h := k.toNat + 1) rfl rfl rfl (by omega) (by omega) (by simp; omega)) ?_); rw [kind_cut hk]))|(refine XL.at 6 ?_;((refine XL.dt rfl (fun ty pos af gd => D.cat rfl rfl (by have := kind_len k; simp; omega)) ?_)))|(refine XL.at 7 ?_;((refine XL.dt rfl (fun ty pos af gd => D.cat (m := [47]) rfl rfl (by have := kind_len k; simp; omega)) ?_)))|refine Qf ?_)<;>(apply X.r2 Tryz.results90 (Qi rfl) (Qi rfl);(focus (exact ⟨rfl, rfl⟩));exact fun _=>Conf.takes))))
end Go.Lx
namespace Go.Lx
def hexD (d : Nat) : UInt8 := if d ≤ 9 then UInt8.ofNat (48 + d) else UInt8.ofNat (87 + d)
def hexN : Nat → Nat → List UInt8
  | 0, _ => []
  | k + 1, n => hexN k (n / 16) ++ [hexD (n % 16)]
theorem hexN_len : ∀ (k n : Nat), (hexN k n).length = k
  | 0, _ => rfl
  | k + 1, n => by simp [hexN, hexN_len k]
theorem hexN_front : ∀ (k n : Nat), hexN (k + 1) n = hexD (n / 16 ^ k % 16) :: hexN k n
  | 0, n => by simp [hexN]
  | k + 1, n => by
    rw [hexN, hexN_front k (n / 16), hexN, Nat.div_div_eq_div_mul, Nat.pow_succ, Nat.mul_comm 16]
    rfl
theorem hexN_zero : ∀ k : Nat, hexN k 0 = List.replicate k 48
  | 0 => rfl
  | k + 1 => by rw [hexN_front, hexN_zero k]; simp [hexD, List.replicate_succ]
theorem hexN_pad (k : Nat) (n : Nat) (h : n < 16 ^ k) : ∀ j, hexN (j + k) n = List.replicate j 48 ++ hexN k n
  | 0 => by simp
  | j + 1 => by
    have h1 : n < 16 ^ (j + k) := Nat.lt_of_lt_of_le h (Nat.pow_le_pow_right (by decide) (by omega))
    rw [show j + 1 + k = (j + k) + 1 from by omega, hexN_front, hexN_pad k n h j, Nat.div_eq_of_lt h1, List.replicate_succ]
    rfl
theorem hexD_nat {d : Nat} (h : d < 16) : (hexD d).toNat = if d ≤ 9 then 48 + d else 87 + d := by
  unfold hexD
  split
  · rw [UInt8.toNat_ofNat']; omega
  · rw [UInt8.toNat_ofNat']; omega
end Go.Lx
namespace Go.Lx
theorem bl_lt : ∀ (s t : Bs), Op.bytesLess s t = true ↔ s < t
  | [], [] => by simp [Op.bytesLess]
  | [], _ :: _ => by simp [Op.bytesLess]
  | _ :: _, [] => by simp [Op.bytesLess]
  | a :: x, b :: y => by
    have ih := bl_lt x y
    simp only [Op.bytesLess, Bool.or_eq_true, Bool.and_eq_true, decide_eq_true_eq, beq_iff_eq, ih]
    rw [List.cons_lt_cons_iff]
def placeL {β : Type} : List (Bs × β) → Bs → Nat
  | [], _ => 0
  | p :: l, k => if p.1 < k then placeL l k + 1 else 0
def insL {β : Type} (l : List (Bs × β)) (k : Bs) (v : β) : List (Bs × β) := l.take (placeL l k) ++ (k, v) :: l.drop (placeL l k)
def RiseT {β : Type} (l : List (Bs × β)) : Prop := l.Pairwise (·.1 < ·.1)
theorem insL_cons {β : Type} (p : Bs × β) (l : List (Bs × β)) (k : Bs) (v : β) : insL (p :: l) k v = if p.1 < k then p :: insL l k v else (k, v) :: p :: l := by
  unfold insL
  simp only [placeL]
  split
  · simp
  · simp
theorem placeL_le {β : Type} : ∀ (l : List (Bs × β)) (k : Bs), placeL l k ≤ l.length
  | [], _ => Nat.le_refl _
  | p :: l, k => by
    have := placeL_le l k
    simp only [placeL, List.length_cons]
    split <;> omega
theorem placeL_below {β : Type} : ∀ (l : List (Bs × β)) (k : Bs) (i : Nat) (p : Bs × β), i < placeL l k → l[i]? = some p → p.1 < k
  | [], _, i, _, h, _ => by simp [placeL] at h
  | q :: l, k, i, p, h, hp => by
    simp only [placeL] at h
    split at h
    · rename_i hq
      cases i with
      | zero => simp at hp; subst hp; exact hq
      | succ i => exact placeL_below l k i p (by omega) (by simpa using hp)
    · omega
theorem placeL_at {β : Type} : ∀ (l : List (Bs × β)) (k : Bs) (p : Bs × β), l[placeL l k]? = some p → ¬ p.1 < k
  | [], _, _, h => by simp at h
  | q :: l, k, p, h => by
    simp only [placeL] at h
    split at h
    · exact placeL_at l k p (by simpa using h)
    · rename_i hq
      simp at h; subst h; exact hq
theorem placeL_of {β : Type} {l : List (Bs × β)} {k : Bs} {i : Nat} (hi : i ≤ l.length) (h : ∀ j p, j < i → l[j]? = some p → p.1 < k) (h2 : ∀ p, l[i]? = some p → ¬ p.1 < k) : placeL l k = i := by
  rcases Nat.lt_trichotomy (placeL l k) i with g | g | g
  · obtain ⟨p, hp⟩ : ∃ p, l[placeL l k]? = some p := ⟨l[placeL l k]'(by omega), List.getElem?_eq_getElem (by omega)⟩
    exact absurd (h _ p g hp) (placeL_at l k p hp)
  · exact g
  · have := placeL_le l k
    obtain ⟨p, hp⟩ : ∃ p, l[i]? = some p := ⟨l[i]'(by omega), List.getElem?_eq_getElem (by omega)⟩
    exact absurd (placeL_below l k i p g hp) (h2 p hp)
theorem get_insL {β : Type} (k : Bs) (v : β) : ∀ (l : List (Bs × β)), (∀ p ∈ l, p.1 ≠ k) → ∀ j, getT (insL l k v) j = if j = k then some v else getT l j
  | [], _, j => by
    simp only [insL, placeL, List.take_nil, List.drop_nil, List.nil_append, getT]
    by_cases h : j = k
    · rw [if_pos h, if_pos h.symm]
    · rw [if_neg h, if_neg (Ne.symm h)]
  | p :: l, hn, j => by
    have ih := get_insL k v l (fun q hq => hn q (List.mem_cons_of_mem _ hq)) j
    rw [insL_cons]
    split
    · simp only [getT, ih]
      by_cases hj : p.1 = j
      · rw [if_pos hj, if_pos hj, if_neg (fun e => hn p List.mem_cons_self (hj.trans e))]
      · rw [if_neg hj, if_neg hj]
    · simp only [getT]
      by_cases h : j = k
      · rw [if_pos h, if_pos h.symm]
      · rw [if_neg h, if_neg (Ne.symm h)]
theorem mem_insL {β : Type} {k : Bs} {v : β} : ∀ {l : List (Bs × β)} {p : Bs × β}, p ∈ insL l k v ↔ p = (k, v) ∨ p ∈ l
  | [], p => by simp [insL, placeL]
  | q :: l, p => by
    have ih := mem_insL (k := k) (v := v) (l := l) (p := p)
    rw [insL_cons]
    split
    · simp only [List.mem_cons, ih]
      constructor
      · rintro (h | h | h) <;> simp [h]
      · rintro (h | h | h) <;> simp [h]
    · simp [List.mem_cons]
theorem lt_of_not {a b : Bs} (h : ¬ a < b) (hne : a ≠ b) : b < a := Classical.byContradiction fun c => hne (List.le_antisymm (List.not_lt.1 c) (List.not_lt.1 h))
theorem rise_insL {β : Type} (k : Bs) (v : β) : ∀ (l : List (Bs × β)), RiseT l → (∀ p ∈ l, p.1 ≠ k) → RiseT (insL l k v)
  | [], _, _ => by simp [insL, placeL, RiseT]
  | p :: l, h, hn => by
    unfold RiseT at h
    rw [List.pairwise_cons] at h
    have ih := rise_insL k v l h.2 (fun q hq => hn q (List.mem_cons_of_mem _ hq))
    rw [insL_cons]
    split
    · rename_i hp
      refine List.pairwise_cons.2 ⟨fun q hq => ?_, ih⟩
      rcases mem_insL.1 hq with rfl | hq
      · exact hp
      · exact h.1 q hq
    · rename_i hp
      have hk := lt_of_not hp (hn p List.mem_cons_self)
      refine List.pairwise_cons.2 ⟨fun q hq => ?_, List.pairwise_cons.2 h⟩
      rcases List.mem_cons.1 hq with rfl | hq
      · exact hk
      · exact List.lt_trans hk (h.1 q hq)
structure Agree {β : Type} (es l : List (Bs × β)) : Prop where
  get : ∀ k, getT es k = getT l k
  nodup : (keyT es).Nodup
  rise : RiseT l
theorem Agree.nil {β : Type} : Agree ([] : List (Bs × β)) [] := ⟨fun k => rfl, List.nodup_nil, List.Pairwise.nil⟩
theorem getT_none' {β : Type} {l : List (Bs × β)} {k : Bs} (h : getT l k = none) : ∀ p ∈ l, p.1 ≠ k := fun p hp he => (getT_none l k).1 h (he ▸ List.mem_map.2 ⟨p, hp, rfl⟩)
theorem Agree.put {β : Type} {es l : List (Bs × β)} {k : Bs} (h : Agree es l) (v : β) (hn : getT l k = none) : Agree (setT es k v) (insL l k v) :=
  ⟨fun j => by rw [getT_set, get_insL k v l (getT_none' hn), h.get], nodup_setT k v es h.nodup, rise_insL k v l h.rise (getT_none' hn)⟩
def usedL : List (Bs × Bs) → Nat
  | [] => 0
  | p :: l => p.2.length + usedL l
theorem usedL_append : ∀ (l m : List (Bs × Bs)), usedL (l ++ m) = usedL l + usedL m
  | [], m => by simp [usedL]
  | p :: l, m => by simp only [List.cons_append, usedL, usedL_append l m]; omega
theorem usedL_ins (l : List (Bs × Bs)) (k v : Bs) : usedL (insL l k v) = usedL l + v.length := by
  unfold insL
  rw [usedL_append]
  simp only [usedL]
  have := usedL_append (l.take (placeL l k)) (l.drop (placeL l k))
  rw [List.take_append_drop] at this
  omega
theorem insL_len {β : Type} (l : List (Bs × β)) (k : Bs) (v : β) : (insL l k v).length = l.length + 1 := by
  have := placeL_le l k
  unfold insL
  simp; omega
theorem usedL_take {l : List (Bs × Bs)} {i : Nat} {p : Bs × Bs} (h : l[i]? = some p) : usedL (l.take (i + 1)) = usedL (l.take i) + p.2.length := by
  rw [List.take_add_one, h, usedL_append]; simp [usedL]
theorem usedL_le {l : List (Bs × Bs)} (i : Nat) : usedL (l.take i) ≤ usedL l := by
  have := usedL_append (l.take i) (l.drop i)
  rw [List.take_append_drop] at this
  omega
theorem getT_at {β : Type} : ∀ {l : List (Bs × β)} {i : Nat} {p : Bs × β}, l[i]? = some p → (∀ j q, j < i → l[j]? = some q → q.1 ≠ p.1) → getT l p.1 = some p.2
  | [], _, _, h, _ => by simp at h
  | q :: l, 0, p, h, _ => by simp at h; subst h; simp [getT]
  | q :: l, i + 1, p, h, hn => by
    have h0 := hn 0 q (by omega) rfl
    simp only [getT]
    rw [if_neg h0]
    exact getT_at (i := i) (by simpa using h) (fun j r hj hr => hn (j + 1) r (by omega) (by simpa using hr))
theorem getT_not {β : Type} {l : List (Bs × β)} {k : Bs} {i : Nat} (hi : l.length ≤ i) (hn : ∀ j q, j < i → l[j]? = some q → q.1 ≠ k) : getT l k = none := by
  rw [getT_none]
  intro h
  obtain ⟨p, hp, rfl⟩ := List.mem_map.1 h
  obtain ⟨j, hj⟩ := List.mem_iff_getElem?.1 hp
  exact hn j p (by have := (List.getElem?_eq_some_iff.1 hj).1; omega) hj rfl
end Go.Lx
