/- Texts Bj Bg Bh, merged: a claim has at most 60 files. -/
import Derived.Test.YthgnlbibdiileaaGreatM4
import Derived.Test.YthgnlbibdiileaaGreatM19
import Derived.Test.YthgnlbibdiileaaGreatM18
/- Walks: a batch as an object. -/
namespace Go.Lx
open Go.Proofs
set_option linter.unusedVariables false
set_option linter.unusedSimpArgs false
set_option maxRecDepth 20000
set_option maxHeartbeats 4000000
structure SlJ where
  i : Nat
  a : Option Addr
  c : Nat
  ps : List Ext
  bp : Option Addr
  a2 : Option Addr
  c2 : Nat
  l : Bs
structure SlI (M : Md) (p : List Sp) (g : Nat) (x : SlJ) : Prop where
  hi : x.i ≤ p.length
  ps : x.ps = ptsOf (p.take x.i)
  l : x.l = dataOf M (p.take x.i)
  bp : x.bp = none ∨ x.bp = some ⟨g, 0, none⟩
  nil : x.l = [] → x.a2 = none
structure SlK where
  k : Nat
  bp : Option Addr
  a2 : Option Addr
  c2 : Nat
  l : Bs
structure SlL (M : Md) (p : List Sp) (g i : Nat) (s : Sp) (x : SlK) : Prop where
  hk : x.k ≤ s.2.toNat
  l : x.l = dataOf M (p.take i) ++ ((secL s).take x.k).flatMap fun t => (M t).getD []
  bp : x.bp = none ∨ x.bp = some ⟨g, 0, none⟩
  nil : x.l = [] → x.a2 = none
theorem dataOf_take {M : Md} {p : List Sp} {i : Nat} {s : Sp} (h : p[i]? = some s) : dataOf M (p.take (i + 1)) = dataOf M (p.take i) ++ (secL s).flatMap fun t => (M t).getD [] := by
  unfold dataOf; rw [secsL_take h, List.flatMap_append]
theorem ptsOf_take {p : List Sp} {i : Nat} {s : Sp} (h : p[i]? = some s) : ptsOf (p.take (i + 1)) = ptsOf (p.take i) ++ [⟨s.1, s.2, 0, 0⟩] := by
  unfold ptsOf; rw [take_snocE h, List.map_append]; rfl
theorem ptsOf_len (p : List Sp) : (ptsOf p).length = p.length := by simp [ptsOf]
theorem SlL.leave {M : Md} {p : List Sp} {g i : Nat} {s : Sp} {x : SlK} {a : Option Addr} {c : Nat} {ps : List Ext} (h : SlL M p g i s x) (hs : p[i]? = some s) (hk : s.2.toNat ≤ x.k) (hps : ps = ptsOf (p.take i)) : SlI M p g ⟨i + 1, a, c, ps ++ [⟨s.1, s.2, 0, 0⟩], x.bp, x.a2, x.c2, x.l⟩ := by
  have hk2 := h.hk
  have e : (secL s).take x.k = secL s := List.take_of_length_le (by rw [secL_len]; omega)
  exact ⟨lt_of_get hs, by dsimp only; rw [ptsOf_take hs, hps], by dsimp only; rw [dataOf_take hs, h.l, e], h.bp, h.nil⟩
/-- What is not cut has bytes. -/
theorem SetsM.byte {M : Md} {p : List Sp} {i k : Nat} {s : Sp} (h : SetsM M false p) (hs : p[i]? = some s) (hk : k < s.2.toNat) : (M (s.1 + (k : Int))).getD [] ≠ [] := by
  obtain ⟨b, h1, h2⟩ := (h.mem (s.1 + (k : Int))).1 ⟨s, List.mem_of_getElem? hs, by omega, by omega⟩
  rw [h1]
  simpa using h2
theorem SlL.step {M : Md} {p : List Sp} {g i : Nat} {s : Sp} {x : SlK} {a : Option Addr} {c : Nat} (h : SlL M p g i s x) (hp : SetsM M false p) (hs : p[i]? = some s) (hk : x.k < s.2.toNat) : SlL M p g i s ⟨x.k + 1, some ⟨g, 0, none⟩, a, c, x.l ++ (M (s.1 + (x.k : Int))).getD []⟩ := by
  refine ⟨hk, ?_, .inr rfl, fun e => ?_⟩
  · dsimp only
    rw [secL_snoc hk, List.flatMap_append, ← List.append_assoc, ← h.l]
    simp
  · exact absurd (List.append_eq_nil_iff.1 e).2 (hp.byte hs hk)
theorem part_len {M : Md} {p : List Sp} {i k : Nat} {s : Sp} (hM : OkM M) (hp : SetsM M false p) (hs : p[i]? = some s) (hk : k < s.2.toNat) : (dataOf M (p.take i) ++ ((secL s).take k).flatMap fun t => (M t).getD []).length + ((M (s.1 + (k : Int))).getD []).length ≤ 19200 := by
  have h1 := dataOf_len hp hM
  have h2 : dataOf M p = (dataOf M (p.take i) ++ ((secL s).take k).flatMap fun t => (M t).getD []) ++ (((M (s.1 + (k : Int))).getD []) ++ (((secL s).drop (k + 1)).flatMap (fun t => (M t).getD []) ++ dataOf M (p.drop (i + 1)))) := by
    have e1 : dataOf M p = dataOf M (p.take (i + 1)) ++ dataOf M (p.drop (i + 1)) := by
      conv => lhs; rw [← List.take_append_drop (i + 1) p]
      unfold dataOf secsL; rw [List.flatMap_append, List.flatMap_append]
    have e2 : (secL s).flatMap (fun t => (M t).getD []) = ((secL s).take k).flatMap (fun t => (M t).getD []) ++ ((M (s.1 + (k : Int))).getD [] ++ ((secL s).drop (k + 1)).flatMap (fun t => (M t).getD [])) := by
      conv => lhs; rw [← List.take_append_drop (k + 1) (secL s)]
      rw [List.flatMap_append, secL_snoc hk, List.flatMap_append, List.append_assoc]
      simp
    rw [e1, dataOf_take hs, e2]
    simp only [List.append_assoc]
  rw [h2] at h1
  simp only [List.length_append] at h1 ⊢
  omega
theorem bSeal_spec (w : World) (g gm : Nat) (L : List (Int × Bs)) (S : Bst) (k : Nat) (ep sq : Int) (h1 : w.cell? ⟨g, 1, none⟩ = some (.map (some gm))) (h2 : w.cell? ⟨g, 2, none⟩ = some (.int .i64 S.up)) (h3 : w.cell? ⟨g, 3, none⟩ = some (.int .i64 S.n)) (hm : MapOf sV w gm L) (hN : (keyM L).Nodup) (hS : getM L = S.M) (hG : Gd S) (hk : k < 18446744073709551616) :
    Spec Tryz.prog 14 #[.pointer (some ⟨g, 0, none⟩), .int .u64 ((k : Nat) : Int), .int .i64 ep, .int .i64 sq] w (fun _ => False) (fun v A => ∃ o e a c b d, v = .tuple #[.agg #[.int .u64 ((o.k : Nat) : Int), .int .i64 o.ep, .int .i64 o.sq, .int .i64 o.up, .slice a o.ps.length c, .slice b o.cs.length d, .string ⟨List.toArray o.d⟩], .int .i64 e] ∧ SealR S k ep sq o e ∧ A = [own 70 4 (.slice a (List.length o.ps) c) (List.length o.ps) (encE o.ps), own 63 2 (.slice b (List.length o.cs) d) (List.length o.cs) (encS o.cs)]) := by
  have hM : OkM (getM L) := by rw [hS]; exact hG.M
  refine Spec.enter (args := [.pointer (some ⟨g, 0, none⟩), .int .u64 ((k : Nat) : Int), .int .i64 ep, .int .i64 sq]) (A := []) Tryz.func14 rfl Tryz.ntmps14 rfl (fun _ h => h) ?_
  refine X.mem (B := [own 70 4 (.slice none ([] : List Ext).length 0) ([] : List Ext).length (encE []), own 63 2 (.slice none ([] : List Sp).length 0) ([] : List Sp).length (encS []), own 5 1 (.slice none ([] : Bs).length 0) ([] : Bs).length (encY [])]) (fun w h => ((h.nilOwn 5 1).nilOwn 63 2).nilOwn 70 4) ?_
  ((refine X.st (by kernel_rfl) ?_<;>repeat' first|refine Z.p rfl ?_|(refine XL.at 0 ?_;(refine XL.alloc rfl rfl rfl (by intro g; infer_instance) (fun g8 => ?_)))|refine XL.nn ?_)<;>refine X.seq ?_<;>(refine X.block ?_<;>((refine X.st (by kernel_rfl) ?_<;>repeat' first|refine Z.p rfl ?_|refine Z.eqP rfl rfl rfl ?_|refine XL.nn ?_)<;>(refine X.cond rfl ?_ ?_;rotate_left;(focus (intro hc;first|exact no_ hc rfl|((refine X.st (by kernel_rfl) ?_<;>repeat' first|refine Z.p rfl ?_|(refine XL.at 3 ?_;(refine Z.la rfl rfl (fun w hw => hw.cell0 h3 (fun h => h)) ?_))|(refine XL.at 4 ?_;(refine Z.cs rfl (fun h4 => ?_) (fun h4 => ?_)))|refine Z.fa rfl rfl rfl ?_|refine XL.nn ?_)<;>(refine X.cond rfl ?_ ?_;rotate_left;(focus (intro hc;first|exact no_ hc rfl|(refine X.skip ?_)));rotate_right;(focus (intro hc;first|exact no_ hc rfl|((refine X.st (by kernel_rfl) ?_<;>repeat' first|refine Z.p rfl ?_|refine Z.bd rfl rfl ?_|refine XL.store1 rfl rfl rfl rfl rfl ?_|refine XL.storeN rfl rfl rfl rfl rfl rfl ?_|refine XL.storeP rfl rfl rfl rfl rfl rfl ?_|refine XL.nn ?_)<;>(apply X.r2 Tryz.results14 (RV.of rfl) (RV.tmp rfl);(focus (first | exact ⟨zD, 15, none, 0, none, 0, rfl, .inl ⟨h4, rfl, rfl⟩, (rfl : [own 70 4 (.slice none ([] : List Ext).length 0) ([] : List Ext).length (encE []), own 63 2 (.slice none ([] : List Sp).length 0) ([] : List Sp).length (encS [])] = _)⟩ | exact ⟨zD, _, none, 0, none, 0, rfl, .inr ⟨h4, p, q, hS ▸ hp, hS ▸ hq, .inl ⟨by omega, rfl, rfl⟩⟩, (rfl : [own 70 4 (.slice none 0 0) 0 [], own 63 2 (.slice none 0 0) 0 []] = _)⟩ | exact ⟨objOf S k ep sq p q, 0, a3, c3, b, d, rfl, .inr ⟨h4, p, q, hS ▸ hp, hS ▸ hq, .inr ⟨by omega, rfl, rfl⟩⟩, (rfl : [own 70 4 (.slice a3 (List.length (ptsOf p)) c3) (List.length (ptsOf p)) (encE (ptsOf p)), own 63 2 (.slice b (List.length q) d) (List.length q) (encS q)] = _)⟩));exact fun _=>Conf.takes))))))));rotate_right;(focus (intro hc;first|exact no_ hc rfl|((refine X.st (by kernel_rfl) ?_<;>repeat' first|refine Z.p rfl ?_|refine Z.bd rfl rfl ?_|refine XL.store1 rfl rfl rfl rfl rfl ?_|refine XL.storeN rfl rfl rfl rfl rfl rfl ?_|refine XL.storeP rfl rfl rfl rfl rfl rfl ?_|refine XL.nn ?_)<;>(apply X.r2 Tryz.results14 (RV.of rfl) (RV.tmp rfl);(focus (first | exact ⟨zD, 15, none, 0, none, 0, rfl, .inl ⟨h4, rfl, rfl⟩, (rfl : [own 70 4 (.slice none ([] : List Ext).length 0) ([] : List Ext).length (encE []), own 63 2 (.slice none ([] : List Sp).length 0) ([] : List Sp).length (encS [])] = _)⟩ | exact ⟨zD, _, none, 0, none, 0, rfl, .inr ⟨h4, p, q, hS ▸ hp, hS ▸ hq, .inl ⟨by omega, rfl, rfl⟩⟩, (rfl : [own 70 4 (.slice none 0 0) 0 [], own 63 2 (.slice none 0 0) 0 []] = _)⟩ | exact ⟨objOf S k ep sq p q, 0, a3, c3, b, d, rfl, .inr ⟨h4, p, q, hS ▸ hp, hS ▸ hq, .inr ⟨by omega, rfl, rfl⟩⟩, (rfl : [own 70 4 (.slice a3 (List.length (ptsOf p)) c3) (List.length (ptsOf p)) (encE (ptsOf p)), own 63 2 (.slice b (List.length q) d) (List.length q) (encS q)] = _)⟩));exact fun _=>Conf.takes))))))<;>(first|refine N.block ?_|refine Ex.here ?_|refine Ex.out rfl ?_))<;>(first|refine Ex.then ?_|refine N.next ?_<;>((refine X.st (by kernel_rfl) ?_<;>repeat' first|refine Z.p rfl ?_|(refine XL.at 3 ?_;(refine Z.la rfl rfl (fun w hw => hw.cell0 h1 (fun h => h)) ?_))|(refine XL.at 4 ?_;((refine XL.call rfl rfl rfl rfl (fun w hw => parted_spec w gm L (hm.conf0 hw) hN hM) ?_; rintro v B' ⟨a, c, p, b, d, q, rfl, hp, hq, rfl⟩; refine XL.both ?_); have hpl := hp.len hM; have hql := hq.len hM))|refine Z.fa rfl rfl rfl ?_|refine XL.nn ?_)<;>(refine X.st (by kernel_rfl) ?_<;>repeat' first|refine Z.p rfl ?_|(refine XL.at 6 ?_;(refine Z.la rfl rfl (fun w hw => hw.cell0 h2 (fun h => h)) ?_))|(refine XL.at 9 ?_;(refine XL.alloc rfl rfl rfl (by intro g; infer_instance) (fun g12 => ?_)))|refine Z.fa rfl rfl rfl ?_|refine Z.bd rfl rfl ?_|refine XL.store1 rfl rfl rfl rfl rfl ?_|refine XL.storeN rfl rfl rfl rfl rfl rfl ?_|refine XL.storeP rfl rfl rfl rfl rfl rfl ?_|refine XL.nn ?_)<;>(refine X.st (by kernel_rfl) ?_<;>repeat' first|(refine XL.at 0 ?_;(refine XL.alloc rfl rfl rfl (by intro g; infer_instance) (fun g13 => ?_)))|refine XL.nn ?_)<;>refine X.seq ?_<;>((refine X.st (by kernel_rfl) ?_<;>repeat' first|refine Z.p rfl ?_|refine Z.ln rfl rfl ?_|refine Z.lnL rfl rfl ?_|refine Z.lnS rfl rfl ?_|refine XL.nn ?_)<;>refine X.block ?_<;>((refine X.loop (ι := SlJ) (fun x => [(0, .pointer (some ⟨g, 0, none⟩)), (8, .pointer (some ⟨g8, 0, none⟩)), (12, .pointer (some ⟨g12, 0, none⟩)), (13, .pointer (some ⟨g13, 0, none⟩)), (46, .slice a p.length c), (47, .int .i64 p.length), (48, .int .i64 ((x.i : Nat) : Int))]) (fun x => [cells g12 [.int .u64 ((k : Nat) : Int), .int .i64 ep, .int .i64 sq, .int .i64 S.up, .slice x.a (List.length x.ps) x.c, .slice b (List.length q) d, .string ByteArray.empty] 42, own 70 4 (.slice x.a (List.length x.ps) x.c) (List.length x.ps) (encE x.ps), cells g13 [.pointer x.bp, .slice x.a2 (List.length x.l) x.c2] 88, own 5 1 (.slice x.a2 (List.length x.l) x.c2) (List.length x.l) (encY x.l), own 63 2 (.slice a (List.length p) c) (List.length p) (encS p), own 63 2 (.slice b (List.length q) d) (List.length q) (encS q), cells g8 [.int .u64 0, .int .i64 0, .int .i64 0, .int .i64 0, .slice none 0 0, .slice none 0 0, .string ByteArray.empty] 42]) (fun x => SlI (getM L) p g13 x) (fun x => p.length - x.i) (⟨0, none, 0, [], none, none, 0, []⟩) ?_ ?_ ?_ ?_; (focus (exact ⟨Nat.zero_le _, rfl, rfl, .inl rfl, fun _ => rfl⟩)); (focus (repeat (first | exact Sub.nil | refine Sub.cons rfl ?_))); (focus (exact (fun w h => h.takes))); rintro ⟨i, a3, c3, ps, bp, a4, c4, l⟩ hI; (dsimp only at *; have hi := hI.hi; have hps := hI.ps; have hld := hI.l; dsimp only at hi hps hld; have hpl2 : ps.length = i := (by rw [hps, ptsOf_len, List.length_take]; omega))) <;> ((refine X.st (by kernel_rfl) ?_<;>repeat' first|(refine XL.at 0 ?_;(refine Z.cs rfl (fun h5 => ?_) (fun h5 => ?_)))|refine XL.nn ?_)<;>refine X.seq ?_<;>((refine X.cond rfl ?_ ?_;rotate_left;(focus (intro hc;first|exact no_ hc rfl|(refine X.exit ?_)));rotate_right;(focus (intro hc;first|exact no_ hc rfl|(refine X.skip ?_)))))<;>(first|refine Ex.then ?_|refine N.next ?_<;>(refine X.seq ?_<;>(refine X.block ?_<;>((refine X.st (by kernel_rfl) ?_<;>repeat' first|(refine XL.at 0 ?_;(have hil : i < p.length := (by omega); (obtain ⟨s, hs⟩ := get_lt hil); have hsm := hp.set.mem rfl (List.mem_of_getElem? hs); refine XL.fact (fun w h => (h.ownRd (i := 4) rfl).sm (by omega)) (fun hsa => ?_); refine Z.ix i rfl rfl rfl rfl hil hsa ?_))|(refine XL.at 1 ?_;(refine Z.lb rfl rfl rfl (fun w hw j u hu => Rd.sp (hw.ownRd (i := 4) rfl) hs j u hu) ?_))|(refine XL.at 2 ?_;(refine XL.alloc rfl rfl rfl (by intro g; infer_instance) (fun g15 => ?_)))|refine XL.store1 rfl rfl rfl rfl rfl ?_|refine XL.storeN rfl rfl rfl rfl rfl rfl ?_|refine XL.storeP rfl rfl rfl rfl rfl rfl ?_|refine XL.nn ?_)<;>(refine X.st (by kernel_rfl) ?_<;>repeat' first|(refine XL.at 5 ?_;((refine XL.append rfl rfl rfl rfl rfl rfl ?_ ?_ (fun a' c' => ?_); (focus (skip; unfold maxLen; omega)); (focus (intro _ _; infer_instance))); rw [encE_snoc' ps ⟨s.1, s.2, 0, 0⟩, show ps.length + 1 = (ps ++ [(⟨s.1, s.2, 0, 0⟩ : Ext)]).length from (by simp)]))|refine Z.fa rfl rfl rfl ?_|refine Z.l1 rfl rfl rfl ?_|refine Z.lN rfl rfl rfl ?_|refine Z.lP rfl rfl rfl ?_|refine Z.bd rfl rfl ?_|refine XL.slice1 rfl rfl rfl rfl rfl rfl (by intro g; infer_instance) (fun g_ => ?_)|refine XL.store1 rfl rfl rfl rfl rfl ?_|refine XL.storeN rfl rfl rfl rfl rfl rfl ?_|refine XL.storeP rfl rfl rfl rfl rfl rfl ?_|refine XL.nn ?_)<;>(refine X.st (by kernel_rfl) ?_<;>repeat' first|refine Z.p rfl ?_|(refine XL.at 1 ?_;(refine Z.l1 (v := .int .i64 (s.1 + ((0 : Nat) : Int))) rfl rfl (by simp) ?_))|refine Z.fa rfl rfl rfl ?_|refine XL.nn ?_)<;>refine X.block ?_<;>((refine X.loop (ι := SlK) (fun x => [(0, .pointer (some ⟨g, 0, none⟩)), (8, .pointer (some ⟨g8, 0, none⟩)), (12, .pointer (some ⟨g12, 0, none⟩)), (13, .pointer (some ⟨g13, 0, none⟩)), (15, .pointer (some ⟨g15, 0, none⟩)), (16, .int .i64 (s.1 + ((x.k : Nat) : Int))), (46, .slice a p.length c), (47, .int .i64 p.length), (48, .int .i64 ((i : Nat) : Int))]) (fun x => [cells g15 [.int .i64 s.1, .int .i64 s.2] 63, cells g12 [.int .u64 ((k : Nat) : Int), .int .i64 ep, .int .i64 sq, .int .i64 S.up, .slice a' (List.length (ps ++ [(⟨s.1, s.2, 0, 0⟩ : Ext)])) c', .slice b (List.length q) d, .string ByteArray.empty] 42, own 70 4 (.slice a' (List.length (ps ++ [(⟨s.1, s.2, 0, 0⟩ : Ext)])) c') (List.length (ps ++ [(⟨s.1, s.2, 0, 0⟩ : Ext)])) (encE (ps ++ [(⟨s.1, s.2, 0, 0⟩ : Ext)])), cells g13 [.pointer x.bp, .slice x.a2 (List.length x.l) x.c2] 88, own 5 1 (.slice x.a2 (List.length x.l) x.c2) (List.length x.l) (encY x.l), own 63 2 (.slice a (List.length p) c) (List.length p) (encS p), own 63 2 (.slice b (List.length q) d) (List.length q) (encS q), cells g8 [.int .u64 0, .int .i64 0, .int .i64 0, .int .i64 0, .slice none 0 0, .slice none 0 0, .string ByteArray.empty] 42]) (fun x => SlL (getM L) p g13 i s x) (fun x => s.2.toNat - x.k) (⟨0, bp, a4, c4, l⟩) ?_ ?_ ?_ ?_; (focus (exact ⟨Nat.zero_le _, by simpa using hld, hI.bp, hI.nil⟩)); (focus (repeat (first | exact Sub.nil | refine Sub.cons rfl ?_))); (focus (exact (fun w h => h.takes))); rintro ⟨kk, bp2, a5, c5, l2⟩ hK; (dsimp only at *; have hkk := hK.hk; dsimp only at hkk)) <;> (refine X.seq ?_<;>((refine X.st (by kernel_rfl) ?_<;>repeat' first|refine Z.p rfl ?_|(refine XL.at 2 ?_;((refine XL.call rfl rfl rfl rfl (fun w hw => end_spec s hsm w) ?_; rintro v B' ⟨rfl, rfl⟩; refine XL.both ?_)))|(refine XL.at 3 ?_;(refine Z.cs rfl (fun h6 => ?_) (fun h6 => ?_)))|refine Z.l1 rfl rfl rfl ?_|refine Z.lN rfl rfl rfl ?_|refine Z.lP rfl rfl rfl ?_|refine XL.nn ?_)<;>(refine X.cond rfl ?_ ?_;rotate_left;(focus (intro hc;first|exact no_ hc rfl|(refine X.exit ?_)));rotate_right;(focus (intro hc;first|exact no_ hc rfl|(refine X.skip ?_)))))<;>(first|refine Ex.then ?_|refine N.next ?_<;>(refine X.seq ?_<;>(refine X.block ?_<;>(refine X.tx (by kernel_rfl) ?_<;>repeat' first|refine Z.p rfl ?_|(refine XL.at 3 ?_;(have hks : kk < s.2.toNat := (by omega); have hpt := part_len hM hp hs hks; have hll := hK.l; dsimp only at hll; rw [← hll] at hpt; refine Z.la rfl rfl (fun w hw => hw.cell0 h1 (fun h => h)) ?_))|(refine XL.at 5 ?_;(refine Z.lkP rfl rfl rfl sV L (fun w hw => hm.conf0 hw) ?_; rw [lkV_s]))|(refine XL.at 6 ?_;((refine XL.callF [cells g13 [.pointer bp2, .slice a5 (List.length l2) c5] 88, own 5 1 (.slice a5 (List.length l2) c5) (List.length l2) (encY l2)] rfl rfl rfl rfl (fun w F hF hm hw => WriteString_spec w F g13 bp2 a5 c5 l2 ((getM L (s.1 + (kk : Int))).getD []) hF hK.bp (by omega)) ?_; rintro v B' ⟨a6, c6, rfl, rfl⟩; refine XL.both ?_)))|refine Z.fa rfl rfl rfl ?_|refine XL.nil ?_)<;>(first|refine N.block ?_|refine Ex.here ?_|refine Ex.out rfl ?_))<;>(first|refine Ex.then ?_|refine N.next ?_<;>(refine X.tx (by kernel_rfl) ?_<;>repeat' first|refine Z.p rfl ?_|(refine XL.at 1 ?_;(refine Z.g rfl (by unfold mayS at hsm; omega) ?_; rw [show s.1 + (kk : Int) + 1 = s.1 + ((kk + 1 : Nat) : Int) from (by omega)]))|refine XL.nil ?_))))) <;> (first | refine Ex.then ?_ | ((refine N.again (⟨kk + 1, some ⟨g13, 0, none⟩, a6, c6, l2 ++ (getM L (s.1 + (kk : Int))).getD []⟩) ?_ ?_ ?_ ?_; (focus (exact hK.step hp hs hks)); (focus (first | omega | (dsimp only; omega))); (focus (repeat (first | exact Sub.nil | refine Sub.cons rfl ?_))); exact (fun w h => h.takes)))))<;>(first|refine N.block ?_|refine Ex.here ?_|refine Ex.out rfl ?_))<;>(first|refine N.block ?_|refine Ex.here ?_|refine Ex.out rfl ?_))<;>(first|refine Ex.then ?_|refine N.next ?_<;>(refine X.tx (by kernel_rfl) ?_<;>repeat' first|refine Z.p rfl ?_|refine Z.g rfl (by omega) ?_|refine Z.w rfl ?_|refine XL.nil ?_))))) <;> (first | refine Ex.then ?_ | ((refine N.again (⟨i + 1, a', c', ps ++ [⟨s.1, s.2, 0, 0⟩], bp2, a5, c5, l2⟩) ?_ ?_ ?_ ?_; (focus (exact hK.leave hs (by dsimp only; omega) hps)); (focus (first | omega | (dsimp only; omega))); (focus (repeat (first | exact Sub.nil | refine Sub.cons rfl ?_))); exact (fun w h => h.takes)))))<;>(first|refine N.block ?_|refine Ex.here ?_|refine Ex.out rfl ?_))<;>(first|refine Ex.then ?_|refine N.next ?_<;>((refine X.st (by kernel_rfl) ?_<;>repeat' first|(refine XL.at 0 ?_;((obtain rfl : i = p.length := (by omega)); rw [List.take_length] at hps hld; rw [hS] at hld; have hnl := hI.nil; dsimp only at hnl; refine XL.fact (p := l ≠ [] → ∃ g2, a4 = some ⟨g2, 0, none⟩ ∧ l.length ≤ c4) (fun w h h0 => h.ownSome (i := 3) rfl (List.length_pos_iff.2 h0)) (fun hsome => ?_); (by_cases hl0 : l = []) <;> first | (have ha := hnl hl0; subst ha; (refine XL.callF [cells g13 [.pointer bp, .slice none (List.length l) c4] 88] rfl rfl rfl rfl (fun w F hF hm hw => StringN_spec w F g13 bp c4 l hl0 hF) ?_; rintro v B' ⟨rfl, rfl⟩; refine XL.both ?_)) | ((obtain ⟨g2, rfl, hlc⟩ := hsome hl0); (refine XL.callF [cells g13 [.pointer bp, .slice (some ⟨g2, 0, none⟩) (List.length l) c4] 88, own 5 1 (.slice (some ⟨g2, 0, none⟩) (List.length l) c4) (List.length l) (encY l)] rfl rfl rfl rfl (fun w F hF hm hw => String1_spec w F g13 g2 bp c4 l hF hl0 (by have := List.length_pos_iff.2 hl0; omega)) ?_; rintro v B' ⟨rfl, rfl⟩; refine XL.both ?_))))|refine Z.fa rfl rfl rfl ?_|refine XL.store1 rfl rfl rfl rfl rfl ?_|refine XL.storeN rfl rfl rfl rfl rfl rfl ?_|refine XL.storeP rfl rfl rfl rfl rfl rfl ?_|refine XL.nn ?_)<;>refine X.seq ?_<;>((refine X.st (by kernel_rfl) ?_<;>repeat' first|refine Z.p rfl ?_|(refine XL.at 1 ?_;(subst hps; subst hld; have hdl := dataOf_len (hS ▸ hp) hG.M; (refine XL.call rfl rfl rfl rfl (fun w hw => dChk_spec w (objOf S k ep sq p q) a3 b c3 d (by have := hw.rd (a := a3); exact this) (by have := hw.rd (a := b); exact this) hk (by have h9 : (objOf S k ep sq p q).d.length ≤ 19200 := hdl; omega)) ?_; rintro v B' ⟨rfl, rfl⟩; refine XL.both ?_)))|refine Z.l1 rfl rfl rfl ?_|refine Z.lN rfl rfl rfl ?_|refine Z.lP rfl rfl rfl ?_|refine XL.nn ?_)<;>(refine X.st (by kernel_rfl) ?_<;>repeat' first|refine Z.p rfl ?_|(refine XL.at 1 ?_;(refine Z.cs rfl (fun h7 => ?_) (fun h7 => ?_)))|refine XL.nn ?_)<;>(refine X.cond rfl ?_ ?_;rotate_left;(focus (intro hc;first|exact no_ hc rfl|(refine X.skip ?_)));rotate_right;(focus (intro hc;first|exact no_ hc rfl|((refine X.st (by kernel_rfl) ?_<;>repeat' first|refine Z.p rfl ?_|(refine XL.at 0 ?_;(refine XL.mem (fun w h => (h.nilOwn 63 2).nilOwn 70 4) ?_; refine Z.bd rfl rfl ?_))|refine XL.store1 rfl rfl rfl rfl rfl ?_|refine XL.storeN rfl rfl rfl rfl rfl rfl ?_|refine XL.storeP rfl rfl rfl rfl rfl rfl ?_|refine XL.nn ?_)<;>(apply X.r2 Tryz.results14 (RV.of rfl) (RV.tmp rfl);(focus (first | exact ⟨zD, 15, none, 0, none, 0, rfl, .inl ⟨h4, rfl, rfl⟩, (rfl : [own 70 4 (.slice none ([] : List Ext).length 0) ([] : List Ext).length (encE []), own 63 2 (.slice none ([] : List Sp).length 0) ([] : List Sp).length (encS [])] = _)⟩ | exact ⟨zD, _, none, 0, none, 0, rfl, .inr ⟨h4, p, q, hS ▸ hp, hS ▸ hq, .inl ⟨by omega, rfl, rfl⟩⟩, (rfl : [own 70 4 (.slice none 0 0) 0 [], own 63 2 (.slice none 0 0) 0 []] = _)⟩ | exact ⟨objOf S k ep sq p q, 0, a3, c3, b, d, rfl, .inr ⟨h4, p, q, hS ▸ hp, hS ▸ hq, .inr ⟨by omega, rfl, rfl⟩⟩, (rfl : [own 70 4 (.slice a3 (List.length (ptsOf p)) c3) (List.length (ptsOf p)) (encE (ptsOf p)), own 63 2 (.slice b (List.length q) d) (List.length q) (encS q)] = _)⟩));exact fun _=>Conf.takes))))))<;>(first|refine Ex.then ?_|refine N.next ?_<;>((refine X.st (by kernel_rfl) ?_<;>repeat' first|refine Z.p rfl ?_|refine Z.l1 rfl rfl rfl ?_|refine Z.lN rfl rfl rfl ?_|refine Z.lP rfl rfl rfl ?_|refine XL.store1 rfl rfl rfl rfl rfl ?_|refine XL.storeN rfl rfl rfl rfl rfl rfl ?_|refine XL.storeP rfl rfl rfl rfl rfl rfl ?_|refine XL.nn ?_)<;>(apply X.r2 Tryz.results14 (RV.of rfl) (RV.tmp rfl);(focus (first | exact ⟨zD, 15, none, 0, none, 0, rfl, .inl ⟨h4, rfl, rfl⟩, (rfl : [own 70 4 (.slice none ([] : List Ext).length 0) ([] : List Ext).length (encE []), own 63 2 (.slice none ([] : List Sp).length 0) ([] : List Sp).length (encS [])] = _)⟩ | exact ⟨zD, _, none, 0, none, 0, rfl, .inr ⟨h4, p, q, hS ▸ hp, hS ▸ hq, .inl ⟨by omega, rfl, rfl⟩⟩, (rfl : [own 70 4 (.slice none 0 0) 0 [], own 63 2 (.slice none 0 0) 0 []] = _)⟩ | exact ⟨objOf S k ep sq p q, 0, a3, c3, b, d, rfl, .inr ⟨h4, p, q, hS ▸ hp, hS ▸ hq, .inr ⟨by omega, rfl, rfl⟩⟩, (rfl : [own 70 4 (.slice a3 (List.length (ptsOf p)) c3) (List.length (ptsOf p)) (encE (ptsOf p)), own 63 2 (.slice b (List.length q) d) (List.length q) (encS q)] = _)⟩));exact fun _=>Conf.takes))))))))
end Go.Lx

/- Walks: the document's batch: new ones, which spans its sectors are. -/
namespace Go.Lx
open Go.Proofs
set_option linter.unusedVariables false
set_option linter.unusedSimpArgs false
set_option maxRecDepth 20000
set_option maxHeartbeats 4000000
/-- What is told of the sectors by the document's lists. -/
structure Rel (M : Md) (sd : List Bool) (dt : List Bs) : Prop where
  ls : sd.length = 300
  ld : dt.length = 300
  at_ : ∀ i : Nat, i < 300 → sd[i]? = some (M (i : Int)).isSome ∧ dt[i]? = some ((M (i : Int)).getD [])
theorem StI.ex (bs : List Bool) (hbd : bs.length ≤ 60000) : ∀ i : Nat, i ≤ bs.length → ∃ o, StI bs i o
  | 0, _ => ⟨[], StI.start⟩
  | i + 1, h => by
    obtain ⟨o, ho⟩ := StI.ex bs hbd i (by omega)
    obtain ⟨b, hb⟩ := get_lt (l := bs) (k := i) (by omega)
    cases b with
    | false => exact ⟨o, ho.skip hb⟩
    | true =>
      by_cases hp : 0 < i ∧ bs[i - 1]? = some true
      · obtain ⟨y, hy, _⟩ := ho.last hp.1 hp.2
        exact ⟨_, (ho.grow hb hp.1 hp.2 hy hbd).1⟩
      · exact ⟨_, ho.push hb (fun h0 h1 => hp ⟨h0, h1⟩) hbd⟩
theorem Rel.upd {M : Md} {sd : List Bool} {dt : List Bs} (h : Rel M sd dt) {m : Nat} (hm : m < 300) (v : Bs) : Rel (upd M (m : Int) v) (sd.set m true) (dt.set m v) := by
  refine ⟨by simp [h.ls], by simp [h.ld], fun i hi => ?_⟩
  have := h.at_ i hi
  rw [List.getElem?_set, List.getElem?_set]
  unfold Lx.upd
  by_cases e : m = i
  · subst e
    rw [if_pos rfl, if_pos rfl, if_pos rfl, if_pos (by rw [h.ls]; omega), if_pos (by rw [h.ld]; omega)]
    exact ⟨rfl, rfl⟩
  · rw [if_neg e, if_neg e, if_neg (by omega)]
    exact this
theorem Rel.nil : Rel (fun _ => none) (List.replicate 300 false) (List.replicate 300 []) := ⟨by simp, by simp, fun i hi => by
  rw [List.getElem?_replicate, List.getElem?_replicate, if_pos hi, if_pos hi]; exact ⟨rfl, rfl⟩⟩
theorem encT_made (n : Nat) : (madeCells #[Value.string ByteArray.empty] (n * 1)).toList = encT (List.replicate n []) := by
  rw [Nat.mul_one, toList_madeCells_one]
  unfold encT
  induction n with
  | zero => rfl
  | succ n ih => rw [List.replicate_succ, List.replicate_succ, List.flatMap_cons, ← ih]; rfl
theorem encT_set (l : List Bs) (k : Nat) (b : Bs) (h : k < l.length) : putAt (encT l) (k * 1) [.string ⟨b.toArray⟩] = encT (l.set k b) := putAt_flat encT1 1 (fun _ => rfl) b l k h
end Go.Lx

/- Walks: the document's batch takes a record up. -/
namespace Go.Lx
open Go.Proofs
set_option linter.unusedVariables false
set_option linter.unusedSimpArgs false
set_option maxRecDepth 20000
set_option maxHeartbeats 4000000
structure CpI (sd sd2 : List Bool) (dt dt2 : List Bs) (i : Nat) : Prop where
  hi : i ≤ 300
  ls : sd2.length = 300
  ld : dt2.length = 300
  at_ : ∀ k, k < i → sd2[k]? = sd[k]? ∧ dt2[k]? = dt[k]?
theorem CpI.step {sd sd2 : List Bool} {dt dt2 : List Bs} {i : Nat} {x : Bool} {y : Bs} (h : CpI sd sd2 dt dt2 i) (hx : sd[i]? = some x) (hy : dt[i]? = some y) (hi : i < 300) : CpI sd (sd2.set i x) dt (dt2.set i y) (i + 1) := by
  refine ⟨hi, by simp [h.ls], by simp [h.ld], fun k hk => ?_⟩
  rw [List.getElem?_set, List.getElem?_set]
  by_cases e : i = k
  · subst e; rw [if_pos rfl, if_pos rfl, if_pos (by rw [h.ls]; omega), if_pos (by rw [h.ld]; omega), hx, hy]; exact ⟨rfl, rfl⟩
  · rw [if_neg e, if_neg e]; exact h.at_ k (by omega)
theorem CpI.done {sd sd2 : List Bool} {dt dt2 : List Bs} (h : CpI sd sd2 dt dt2 300) (h1 : sd.length = 300) (h2 : dt.length = 300) : sd2 = sd ∧ dt2 = dt := by
  constructor
  · apply List.ext_getElem?
    intro k
    by_cases hk : k < 300
    · exact (h.at_ k hk).1
    · rw [List.getElem?_eq_none (by rw [h.ls]; omega), List.getElem?_eq_none (by omega)]
  · apply List.ext_getElem?
    intro k
    by_cases hk : k < 300
    · exact (h.at_ k hk).2
    · rw [List.getElem?_eq_none (by rw [h.ld]; omega), List.getElem?_eq_none (by omega)]
structure RyI (M : Md) (r : RcB) (i n : Nat) (sd : List Bool) (dt : List Bs) : Prop where
  hi : i ≤ r.sp.length
  rel : Rel (wrF r.kd r.d M 0 (secsL (r.sp.take i))) sd dt
  n : n = if r.kd = 1 then (secsL (r.sp.take i)).length else 0
structure RyK (M : Md) (r : RcB) (i : Nat) (s : Sp) (k n : Nat) (sd : List Bool) (dt : List Bs) : Prop where
  hk : k ≤ s.2.toNat
  rel : Rel (wrF r.kd r.d M 0 (secsL (r.sp.take i) ++ (secL s).take k)) sd dt
  n : n = if r.kd = 1 then (secsL (r.sp.take i)).length + k else 0
theorem RyI.enter {M : Md} {r : RcB} {i n : Nat} {sd : List Bool} {dt : List Bs} (h : RyI M r i n sd dt) (s : Sp) : RyK M r i s 0 n sd dt := ⟨Nat.zero_le _, by simpa using h.rel, by simpa using h.n⟩
theorem RyK.leave {M : Md} {r : RcB} {i k n : Nat} {s : Sp} {sd : List Bool} {dt : List Bs} (h : RyK M r i s k n sd dt) (hs : r.sp[i]? = some s) (hk : s.2.toNat ≤ k) : RyI M r (i + 1) n sd dt := by
  have hk2 := h.hk
  have e : (secL s).take k = secL s := List.take_of_length_le (by rw [secL_len]; omega)
  refine ⟨lt_of_get hs, by rw [secsL_take hs, ← e]; exact h.rel, by rw [h.n, secsL_take hs, List.length_append, secL_len, show k = s.2.toNat by omega]⟩
theorem RyK.step {M : Md} {r : RcB} {i k n m : Nat} {s : Sp} {sd : List Bool} {dt : List Bs} (h : RyK M r i s k n sd dt) (hs : r.sp[i]? = some s) (hk : k < s.2.toNat) (hm : (m : Int) = s.1 + (k : Int)) (hm3 : m < 300) :
    RyK M r i s (k + 1) (if r.kd = 1 then n + 1 else n) (sd.set m true) (if r.kd = 1 then (dt.set m []).set m ((r.d.drop (64 * n)).take 64) else dt.set m []) := by
  have e : wrF r.kd r.d M 0 (secsL (r.sp.take i) ++ (secL s).take (k + 1)) = upd (wrF r.kd r.d M 0 (secsL (r.sp.take i) ++ (secL s).take k)) (m : Int) (putB r.kd r.d ((secsL (r.sp.take i)).length + k)) := by
    rw [secL_snoc hk, ← List.append_assoc, wrF_snoc, List.length_append, List.length_take, secL_len, Nat.min_eq_left (by omega), Nat.zero_add, hm]
  have h1 := h.n
  refine ⟨hk, ?_, ?_⟩
  · rw [e]
    have h2 := h.rel.upd hm3 (putB r.kd r.d ((secsL (r.sp.take i)).length + k))
    by_cases hk1 : r.kd = 1
    · rw [if_pos hk1] at h1 ⊢
      rw [List.set_set, h1]
      unfold putB at h2 ⊢
      rw [if_pos hk1] at h2 ⊢
      exact h2
    · rw [if_neg hk1]
      unfold putB at h2 ⊢
      rw [if_neg hk1] at h2 ⊢
      exact h2
  · by_cases hk1 : r.kd = 1
    · rw [if_pos hk1] at h1 ⊢
      rw [if_pos hk1]
      omega
    · rw [if_neg hk1] at h1 ⊢
      rw [if_neg hk1]
      exact h1
theorem RyK.room {M : Md} {r : RcB} {i k n : Nat} {s : Sp} {sd : List Bool} {dt : List Bs} (h : RyK M r i s k n sd dt) (hc : chkR r = 0) (hs : r.sp[i]? = some s) (hk : k < s.2.toNat) (h1 : r.kd = 1) : 64 * n + 64 ≤ r.d.length := by
  obtain ⟨_, c2, c3⟩ := chkR_ok hc
  have := secsL_lt hs hk
  have h2 := secsL_sum r.sp c2
  have h3 := c3 h1
  have h4 := h.n
  rw [if_pos h1] at h4
  omega
theorem cut_take (d : Bs) (n : Nat) : (d.drop (64 * n)).take (64 * n + 64 - 64 * n) = (d.drop (64 * n)).take 64 := by
  congr 1; omega
end Go.Lx
