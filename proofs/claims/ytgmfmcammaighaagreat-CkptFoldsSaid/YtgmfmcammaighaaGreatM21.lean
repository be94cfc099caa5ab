/- Texts Dk Ef Eg, merged: a claim has at most 60 files. -/
import Derived.Test.YtgmfmcammaighaaGreatM20
import Derived.Test.YtgmfmcammaighaaGreatM4
import Derived.Test.YtgmfmcammaighaaGreatM16
/- The document's answer for objects: what bytes are; DobjReads. -/
namespace Go.Lx
open Go.Proofs
set_option linter.unusedVariables false
set_option linter.unusedSimpArgs false
set_option maxRecDepth 20000
set_option maxHeartbeats 4000000

structure RJ where
  s : Bs
  b : Bool
  a : Option Addr
  c : Nat
  l : List Ext
structure RK where
  s : Bs
  b : Bool
  a : Option Addr
  c : Nat
  l : List Sp
theorem RfR.ln {α : Type} {f : Bs → Option (α × Nat)} {d : α} {s s' : Bs} {o o' : Bool} {x : α} (h : RfR f d s o x s' o') : s'.length ≤ s.length := h.len
end Go.Lx

/- Package extmap's walks, part f: a span's sectors are laid. -/
namespace Go.Lx
open Go.Proofs
set_option linter.unusedVariables false
set_option linter.unusedSimpArgs false
set_option maxRecDepth 20000
set_option maxHeartbeats 2000000

theorem three_mem {w : World} {s1 s2 s3 : Sle} (h1 : Rd w 4 s1.a s1.l.length s1.c (encE s1.l)) (h2 : Rd w 4 s2.a s2.l.length s2.c (encE s2.l)) (h3 : Rd w 4 s3.a s3.l.length s3.c (encE s3.l)) : ∀ s ∈ [s1, s2, s3], Rd w 4 s.a s.l.length s.c (encE s.l) := fun s hs => by
  rcases List.mem_cons.1 hs with rfl | hs
  · exact h1
  · exact two_mem h2 h3 s hs

theorem endE_mono {lo lo' : Int} (l : List Ext) (h : lo ≤ lo') : endE lo l ≤ endE lo' l := by
  cases l with
  | nil => exact h
  | cons x l => exact Int.le_refl _
theorem lay_spec (w : World) (H : Nat → Prop) (gm : Nat) (a ax : Option Addr) (c cx : Nat) (l xs : List Ext) (s : Sp) (hown : Sep [cells gm [.slice a l.length c] 104, own 63 4 (.slice a l.length c) l.length (encE l), own 63 4 (.slice ax xs.length cx) xs.length (encE xs)] w H)
    (hr : Rise 0 l) (hs : mayS s) (hx : Rise s.1 xs) (hxe : endE s.1 xs ≤ s.1 + s.2) (hbd : l.length ≤ 100000 ∧ xs.length ≤ 100000) :
    Spec Tryz.prog 83 #[.pointer (some ⟨gm, 0, none⟩), .agg #[.int .i64 s.1, .int .i64 s.2], .slice ax xs.length cx] w H (fun v B => ∃ pi ci a2 c2 A I K l2, v = .slice pi (List.length I) ci ∧ Aro l s A I K ∧ JnI 0 (A ++ xs ++ K) (A ++ xs ++ K).length l2 ∧ I.length ≤ l.length ∧
      B = [cells gm [.slice a2 (List.length l2) c2] 104, own 63 4 (.slice a2 l2.length c2) l2.length (encE l2), own 63 4 (.slice pi I.length ci) I.length (encE I)]) := by
  refine Spec.enter (args := [.pointer (some ⟨gm, 0, none⟩), .agg #[.int .i64 s.1, .int .i64 s.2], .slice ax xs.length cx]) (A := [cells gm [.slice a l.length c] 104, own 63 4 (.slice a l.length c) l.length (encE l), own 63 4 (.slice ax xs.length cx) xs.length (encE xs)]) Tryz.func83 rfl Tryz.ntmps83 rfl hown ?_
  ((refine X.st (by kernel_rfl) ?_<;>repeat' first|refine Z.p rfl ?_|refine XL.boxN rfl rfl rfl rfl (by intro g; infer_instance) (fun g => ?_)|refine XL.box1 rfl rfl rfl rfl rfl (by intro g; infer_instance) (fun g => ?_)|refine XL.nn ?_)<;>(refine X.st (by kernel_rfl) ?_<;>repeat' first|refine Z.p rfl ?_|(refine XL.at 2 ?_;((refine XL.call rfl rfl rfl rfl (fun w hw => around_spec w gm a c l s (hw.cellAt (i := 1) (o := 0) rfl rfl) (hw.rd (a := a)) hr hs (by omega)) ?_; rintro v B' ⟨k, m, pa, ca, pi, ci, pb, cb, hP, rfl, rfl⟩; refine XL.both ?_); have hA := aro_of hP hr hs; have hbl := aro_len s l (midL l k m) k m (midL l k m).length (by simp [midL]; omega); rw [List.take_length] at hbl; obtain ⟨A, hAe⟩ : ∃ A, ahE s (l.take k) (midL l k m) = A := (⟨_, rfl⟩); obtain ⟨I, hIe⟩ : ∃ I, inF s (midL l k m) = I := (⟨_, rfl⟩); obtain ⟨K, hKe⟩ : ∃ K, beE s (l.drop m) (midL l k m) = K := (⟨_, rfl⟩); rw [hAe, hIe, hKe] at hA hbl; rw [hAe, hIe, hKe]; have hrise : Rise 0 (A ++ xs ++ K) := (rise_append.2 ⟨rise_append.2 ⟨hA.riseA, hx.weak hA.endA⟩, hA.riseB.weak (by rw [endE_append]; exact Int.le_trans (endE_mono xs hA.endA) hxe)⟩)))|refine Z.l1 rfl rfl rfl ?_|refine Z.lN rfl rfl rfl ?_|refine Z.lP rfl rfl rfl ?_|refine XL.nn ?_)<;>(refine X.st (by kernel_rfl) ?_<;>repeat' first|refine Z.p rfl ?_|(refine XL.at 4 ?_;((refine XL.sliceL valL encL1 [⟨pa, ca, A⟩, ⟨ax, cx, xs⟩, ⟨pb, cb, K⟩] (fun _ => rfl) (fun _ => rfl) rfl rfl rfl rfl rfl rfl (fun _ => by infer_instance) (fun gl3 => ?_))))|(refine XL.at 5 ?_;(have hsum : sumL [⟨pa, ca, A⟩, ⟨ax, cx, xs⟩, ⟨pb, cb, K⟩] ≤ 1000000 := (by simp only [sumL]; omega); (refine XL.call rfl rfl rfl rfl (fun w hw => Concat_spec w _ _ [⟨pa, ca, A⟩, ⟨ax, cx, xs⟩, ⟨pb, cb, K⟩] (hw.rd (a := some ⟨gl3, 0, none⟩)) (three_mem (hw.vrd (a := pa) (hw.rd (a := a))) (hw.rd (a := ax)) (hw.vrd (a := pb) (hw.rd (a := a)))) (by simp) hsum) ?_; rintro v B' ⟨a9, c9, rfl, rfl⟩; refine XL.both ?_)))|(refine XL.at 6 ?_;(rw [show ([⟨pa, ca, A⟩, ⟨ax, cx, xs⟩, ⟨pb, cb, K⟩] : List Sle).flatMap (·.l) = A ++ xs ++ K from (by simp)]; have hlen : (A ++ xs ++ K).length ≤ 1000000 := (by simp only [List.length_append]; omega); (refine XL.call rfl rfl rfl rfl (fun w hw => joinedE_spec w a9 c9 (A ++ xs ++ K) 0 (hw.rd (a := a9)) hrise hlen) ?_; rintro v B' ⟨a2, c2, l2, rfl, hJ, rfl⟩; refine XL.both ?_)))|refine Z.fa rfl rfl rfl ?_|refine XL.store1 rfl rfl rfl rfl rfl ?_|refine XL.storeN rfl rfl rfl rfl rfl rfl ?_|refine XL.storeP rfl rfl rfl rfl rfl rfl ?_|refine XL.nn ?_)<;>(refine X.st (by kernel_rfl) ?_<;>repeat' first|refine Z.p rfl ?_|refine XL.nn ?_)<;>(apply X.r1 Tryz.results83 (RV.tmp rfl);(focus (exact ⟨pi, ci, a2, c2, A, I, K, l2, rfl, hA, hJ, hbl.2.1, rfl⟩));exact fun _=>Conf.takes))
end Go.Lx

/- Package extmap's walks, part g: the map's calls. -/
namespace Go.Lx
open Go.Proofs
set_option linter.unusedVariables false
set_option linter.unusedSimpArgs false
set_option maxRecDepth 20000
set_option maxHeartbeats 2000000

theorem rise_len : ∀ (l : List Ext) (lo : Int), Rise lo l → lo ≤ 65536 → lo + (l.length : Int) ≤ 65536
  | [], lo, _, h => by simp; omega
  | x :: l, lo, h, _ => by
    have h2 := h.2.1
    have h1 := h.1
    unfold inE at h2
    have ih := rise_len l _ h.2.2 (by omega)
    simp only [List.length_cons]
    omega
theorem New_spec (w : World) : Spec Tryz.prog 18 #[] w (fun _ => False) (fun v A => ∃ g, v = .pointer (some ⟨g, 0, none⟩) ∧ A = [cells g [.slice none 0 0] 104]) := by
  refine Spec.enter (args := []) (A := []) Tryz.func18 rfl Tryz.ntmps18 rfl (fun _ h => h) ?_
  ((refine X.st (by kernel_rfl) ?_<;>repeat' first|refine Z.p rfl ?_|refine XL.nn ?_)<;>(refine X.st (by kernel_rfl) ?_<;>repeat' first|refine Z.p rfl ?_|refine Z.bd rfl rfl ?_|refine XL.boxN rfl rfl rfl rfl (by intro g; infer_instance) (fun g => ?_)|refine XL.box1 rfl rfl rfl rfl rfl (by intro g; infer_instance) (fun g => ?_)|refine XL.nn ?_)<;>(apply X.r1 Tryz.results18 (RV.tmp rfl);(focus (exact ⟨_, rfl, rfl⟩));exact fun _=>Conf.takes))
theorem CloneE_spec (w : World) (a : Option Addr) (c : Nat) (l : List Ext) (hl : Rd w 4 a l.length c (encE l)) (hbd : l.length ≤ 1000000) : Spec Tryz.prog 55 #[.slice a l.length c] w (fun _ => False) (fun v A => ∃ a' c', v = .slice a' l.length c' ∧ A = [own 63 4 (.slice a' l.length c') l.length (encE l)]) := by
  have hn : a.isNone = true → l = [] := fun h => by
    rcases Nat.eq_zero_or_pos l.length with h0 | h0
    · exact List.length_eq_zero_iff.1 h0
    · have := hl.sm h0; cases a <;> simp at h this
  refine Spec.enter (args := [.slice a l.length c]) (A := []) Tryz.func55 rfl Tryz.ntmps55 rfl (fun _ h => h) ?_
  refine X.mem (B := [own 63 4 (.slice none 0 0) 0 []]) (fun w h => h.nilOwn 63 4) ?_
  ((refine X.st (by kernel_rfl) ?_<;>repeat' first|refine Z.p rfl ?_|refine XL.nn ?_)<;>refine X.seq ?_<;>((refine X.st (by kernel_rfl) ?_<;>repeat' first|refine Z.p rfl ?_|refine Z.eqN rfl rfl rfl ?_|refine XL.nn ?_)<;>(refine X.cond rfl ?_ ?_;rotate_left;(focus (intro hc;first|exact no_ hc rfl|(refine X.skip ?_)));rotate_right;(focus (intro hc;first|exact no_ hc rfl|((refine X.st (by kernel_rfl) ?_<;>repeat' first|refine Z.p rfl ?_|refine XL.nn ?_)<;>(apply X.r1 Tryz.results55 (RV.tmp rfl);(focus (first | (have h := hn (by assumption); subst h; exact ⟨none, 0, rfl, (rfl : [own 63 4 (.slice none 0 0) 0 []] = _)⟩) | exact ⟨_, _, rfl, rfl⟩));exact fun _=>Conf.takes))))))<;>(first|refine Ex.then ?_|refine N.next ?_<;>((refine X.st (by kernel_rfl) ?_<;>repeat' first|refine Z.p rfl ?_|(refine XL.at 2 ?_;((refine XL.appendR (news := encE l) rfl rfl rfl rfl rfl (fun w hw => hl.conf0 hw) (encE_one l) (by unfold maxLen; omega) (fun _ _ => by infer_instance) (fun a' c' => ?_)); rw [Nat.zero_add, List.nil_append]))|refine XL.slice0 rfl rfl rfl (by intro g; infer_instance) (fun g => ?_)|refine XL.nn ?_)<;>(apply X.r1 Tryz.results55 (RV.tmp rfl);(focus (first | (have h := hn (by assumption); subst h; exact ⟨none, 0, rfl, (rfl : [own 63 4 (.slice none 0 0) 0 []] = _)⟩) | exact ⟨_, _, rfl, rfl⟩));exact fun _=>Conf.takes))))
theorem All_spec (w : World) (gm : Nat) (a : Option Addr) (c : Nat) (l : List Ext) (hm : w.cell? ⟨gm, 0, none⟩ = some (.slice a l.length c)) (hl : Rd w 4 a l.length c (encE l)) (hbd : l.length ≤ 1000000) : Spec Tryz.prog 21 #[.pointer (some ⟨gm, 0, none⟩)] w (fun _ => False) (fun v A => ∃ a' c', v = .slice a' l.length c' ∧ A = [own 63 4 (.slice a' l.length c') l.length (encE l)]) := by
  refine Spec.enter (args := [.pointer (some ⟨gm, 0, none⟩)]) (A := []) Tryz.func21 rfl Tryz.ntmps21 rfl (fun _ h => h) ?_
  ((refine X.st (by kernel_rfl) ?_<;>repeat' first|refine Z.p rfl ?_|refine XL.nn ?_)<;>refine X.seq ?_<;>((refine X.st (by kernel_rfl) ?_<;>repeat' first|refine Z.p rfl ?_|refine Z.eqP rfl rfl rfl ?_|refine XL.nn ?_)<;>(refine X.cond rfl ?_ ?_;rotate_left;(focus (intro hc;first|exact no_ hc rfl|(refine X.skip ?_)));rotate_right;(focus (intro hc;first|exact no_ hc rfl|((refine X.st (by kernel_rfl) ?_<;>repeat' first|refine Z.p rfl ?_|refine XL.nn ?_)<;>(apply X.r1 Tryz.results21 (RV.tmp rfl);(focus (exact ⟨_, _, rfl, rfl⟩));exact fun _=>Conf.takes))))))<;>(first|refine Ex.then ?_|refine N.next ?_<;>((refine X.st (by kernel_rfl) ?_<;>repeat' first|refine Z.p rfl ?_|(refine XL.at 3 ?_;((apply XL.detF rfl rfl rfl rfl; exact D.load1 rfl (fun w hw => hw.cell0 hm (fun h => h)))))|(refine XL.at 4 ?_;((refine XL.call rfl rfl rfl rfl (fun w hw => CloneE_spec w a c l (hl.conf0 hw) hbd) ?_; rintro v B' ⟨a', c', rfl, rfl⟩; refine XL.both ?_)))|refine Z.fa rfl rfl rfl ?_|refine XL.nn ?_)<;>(apply X.r1 Tryz.results21 (RV.tmp rfl);(focus (exact ⟨_, _, rfl, rfl⟩));exact fun _=>Conf.takes))))
theorem Copy_spec (w : World) (gm : Nat) (a : Option Addr) (c : Nat) (l : List Ext) (hm : w.cell? ⟨gm, 0, none⟩ = some (.slice a l.length c)) (hl : Rd w 4 a l.length c (encE l)) (hbd : l.length ≤ 1000000) : Spec Tryz.prog 49 #[.pointer (some ⟨gm, 0, none⟩)] w (fun _ => False) (fun v A => ∃ g a' c', v = .pointer (some ⟨g, 0, none⟩) ∧ A = [cells g [.slice a' l.length c'] 104, own 63 4 (.slice a' l.length c') l.length (encE l)]) := by
  refine Spec.enter (args := [.pointer (some ⟨gm, 0, none⟩)]) (A := []) Tryz.func49 rfl Tryz.ntmps49 rfl (fun _ h => h) ?_
  ((refine X.st (by kernel_rfl) ?_<;>repeat' first|refine Z.p rfl ?_|refine XL.nn ?_)<;>refine X.seq ?_<;>((refine X.st (by kernel_rfl) ?_<;>repeat' first|refine Z.p rfl ?_|refine Z.eqP rfl rfl rfl ?_|refine XL.nn ?_)<;>(refine X.cond rfl ?_ ?_;rotate_left;(focus (intro hc;first|exact no_ hc rfl|(refine X.skip ?_)));rotate_right;(focus (intro hc;first|exact no_ hc rfl|((refine X.st (by kernel_rfl) ?_<;>repeat' first|refine Z.p rfl ?_|refine XL.nn ?_)<;>(apply X.r1 Tryz.results49 (RV.tmp rfl);(focus (exact ⟨_, a', c', rfl, rfl⟩));exact fun _=>Conf.takes))))))<;>(first|refine Ex.then ?_|refine N.next ?_<;>((refine X.st (by kernel_rfl) ?_<;>repeat' first|refine Z.p rfl ?_|(refine XL.at 1 ?_;((refine XL.call rfl rfl rfl rfl (fun w hw => All_spec w gm a c l (hw.cell0 hm (fun h => h)) (hl.conf0 hw) hbd) ?_; rintro v B' ⟨a', c', rfl, rfl⟩; refine XL.both ?_)))|refine Z.bd rfl rfl ?_|refine XL.boxN rfl rfl rfl rfl (by intro g; infer_instance) (fun g => ?_)|refine XL.box1 rfl rfl rfl rfl rfl (by intro g; infer_instance) (fun g => ?_)|refine XL.nn ?_)<;>(apply X.r1 Tryz.results49 (RV.tmp rfl);(focus (exact ⟨_, a', c', rfl, rfl⟩));exact fun _=>Conf.takes))))
theorem Find_spec (w : World) (gm : Nat) (a : Option Addr) (c : Nat) (l : List Ext) (s : Sp) (hm : w.cell? ⟨gm, 0, none⟩ = some (.slice a l.length c)) (hl : Rd w 4 a l.length c (encE l)) (hr : Rise 0 l) : Spec Tryz.prog 22 #[.pointer (some ⟨gm, 0, none⟩), .agg #[.int .i64 s.1, .int .i64 s.2]] w (fun _ => False) (fun v A => ∃ pi ci I e, v = .tuple #[.slice pi (List.length I) ci, .int .i64 e] ∧ ((e = 0 ∧ mayS s ∧ (∃ A K, Aro l s A I K) ∧ I.length ≤ l.length) ∨ (e = 1 ∧ ¬ mayS s ∧ I = [])) ∧ A = [own 63 4 (.slice pi I.length ci) I.length (encE I)]) := by
  have hlen := rise_len l 0 hr (by omega)
  refine Spec.enter (args := [.pointer (some ⟨gm, 0, none⟩), .agg #[.int .i64 s.1, .int .i64 s.2]]) (A := []) Tryz.func22 rfl Tryz.ntmps22 rfl (fun _ h => h) ?_
  refine X.mem (B := [own 63 4 (.slice none ([] : List Ext).length 0) ([] : List Ext).length (encE [])]) (fun w h => h.nilOwn 63 4) ?_
  ((refine X.st (by kernel_rfl) ?_<;>repeat' first|refine Z.p rfl ?_|refine XL.boxN rfl rfl rfl rfl (by intro g; infer_instance) (fun g => ?_)|refine XL.box1 rfl rfl rfl rfl rfl (by intro g; infer_instance) (fun g => ?_)|refine XL.nn ?_)<;>refine X.seq ?_<;>(refine X.block ?_<;>((refine X.st (by kernel_rfl) ?_<;>repeat' first|refine Z.p rfl ?_|refine Z.eqP rfl rfl rfl ?_|refine XL.nn ?_)<;>(refine X.cond rfl ?_ ?_;rotate_left;(focus (intro hc;first|exact no_ hc rfl|((refine X.st (by kernel_rfl) ?_<;>repeat' first|refine Z.p rfl ?_|(refine XL.at 1 ?_;((refine XL.call rfl rfl rfl rfl (fun w hw => May_spec _ _ w) ?_; rintro v B' ⟨rfl, rfl⟩; refine XL.both ?_); (by_cases hs : mayS s <;> first | rw [if_pos hs] | rw [if_neg hs])))|refine Z.l1 rfl rfl rfl ?_|refine Z.lN rfl rfl rfl ?_|refine Z.lP rfl rfl rfl ?_|refine Z.ct rfl (by omega) ?_|refine Z.cf rfl (by omega) ?_|refine Z.cs rfl (fun _=>?_) (fun _=>?_)|refine XL.nn ?_)<;>(refine X.cond rfl ?_ ?_;rotate_left;(focus (intro hc;first|exact no_ hc rfl|(refine X.skip ?_)));rotate_right;(focus (intro hc;first|exact no_ hc rfl|((refine X.st (by kernel_rfl) ?_<;>repeat' first|refine Z.p rfl ?_|refine XL.nn ?_)<;>(apply X.r2 Tryz.results22 (RV.tmp rfl) (RV.tmp rfl);(focus (first | (exact ⟨pi, ci, _, 0, rfl, .inl ⟨rfl, hs, ⟨_, _, hA⟩, hbl.2.1⟩, rfl⟩) | (exact ⟨none, 0, [], 1, rfl, .inr ⟨rfl, hs, rfl⟩, rfl⟩)));exact fun _=>Conf.takes))))))));rotate_right;(focus (intro hc;first|exact no_ hc rfl|((refine X.st (by kernel_rfl) ?_<;>repeat' first|refine Z.p rfl ?_|refine XL.nn ?_)<;>(apply X.r2 Tryz.results22 (RV.tmp rfl) (RV.tmp rfl);(focus (first | (exact ⟨pi, ci, _, 0, rfl, .inl ⟨rfl, hs, ⟨_, _, hA⟩, hbl.2.1⟩, rfl⟩) | (exact ⟨none, 0, [], 1, rfl, .inr ⟨rfl, hs, rfl⟩, rfl⟩)));exact fun _=>Conf.takes))))))<;>(first|refine N.block ?_|refine Ex.here ?_|refine Ex.out rfl ?_))<;>(first|refine Ex.then ?_|refine N.next ?_<;>((refine X.st (by kernel_rfl) ?_<;>repeat' first|refine Z.p rfl ?_|(refine XL.at 2 ?_;((refine XL.call rfl rfl rfl rfl (fun w hw => around_spec w gm a c l s (hw.cell0 hm (fun h => h)) (hl.conf0 hw) hr hs (by omega)) ?_; rintro v B' ⟨k, m, pa, ca, pi, ci, pb, cb, hP, rfl, rfl⟩; refine XL.both ?_); have hA := aro_of hP hr hs; have hbl := aro_len s l (midL l k m) k m (midL l k m).length (by simp [midL]; omega); rw [List.take_length] at hbl))|refine Z.l1 rfl rfl rfl ?_|refine Z.lN rfl rfl rfl ?_|refine Z.lP rfl rfl rfl ?_|refine XL.nn ?_)<;>(refine X.st (by kernel_rfl) ?_<;>repeat' first|refine Z.p rfl ?_|refine XL.nn ?_)<;>(apply X.r2 Tryz.results22 (RV.tmp rfl) (RV.tmp rfl);(focus (first | (exact ⟨pi, ci, _, 0, rfl, .inl ⟨rfl, hs, ⟨_, _, hA⟩, hbl.2.1⟩, rfl⟩) | (exact ⟨none, 0, [], 1, rfl, .inr ⟨rfl, hs, rfl⟩, rfl⟩)));exact fun _=>Conf.takes))))
end Go.Lx
