/- Texts Kh Kg Ki, merged: a claim has at most 60 files. -/
import Derived.Test.YtgmfmcammaighaaGreatM4
import Derived.Test.YtgmfmcammaighaaGreatM27
import Derived.Test.YtgmfmcammaighaaGreatM23
import Derived.Test.YtgmfmcammaighaaGreatM28
import Derived.Test.YtgmfmcammaighaaGreatM20
/- The document's answer for states: Check, Bytes. -/
namespace Go.Lx
open Go.Proofs
set_option linter.unusedVariables false
set_option linter.unusedSimpArgs false
set_option maxRecDepth 20000
set_option maxHeartbeats 4000000
theorem Rd.kA {w : World} {a : Option Addr} {n c m : Nat} {xs : List Kr} {x : Kr} (h : Rd w 3 a n c (encK xs)) (hx : xs[m]? = some x) : w.cell? (el a (m * 3)) = some (.int .i64 x.1) ∧ w.cell? (el a (m * 3 + 1)) = some (.int .i64 x.2.1) ∧ w.cell? (el a (m * 3 + 2)) = some (.int .i64 x.2.2) :=
  ⟨by have := h.kr hx 0 _ rfl; rwa [el_add] at this, by have := h.kr hx 1 _ rfl; rwa [el_add] at this, by have := h.kr hx 2 _ rfl; rwa [el_add] at this⟩
/-- Extents that may be, rise, and are as few as can be: told one by one. -/
def mapN (c : Ck) (n : Nat) : Prop := ∀ k x, k < n → c.m[k]? = some x → mayE x ∧ x.a + x.n ≤ c.sz ∧ inK c.r x.q ∧ ∀ y, 0 < k → c.m[k - 1]? = some y → y.a + y.n ≤ x.a ∧ ¬ Fol y x
theorem mapN.step {c : Ck} {n : Nat} {x : Ext} (h : mapN c n) (hx : c.m[n]? = some x) (hm : mayE x) (h1 : x.a + x.n ≤ c.sz) (h2 : inK c.r x.q) (h3 : ∀ y, 0 < n → c.m[n - 1]? = some y → y.a + y.n ≤ x.a ∧ ¬ Fol y x) : mapN c (n + 1) := fun k y hk hy => by
  rcases Nat.lt_or_ge k n with g | g
  · exact h k y g hy
  · obtain rfl : k = n := by omega
    rw [hx] at hy; cases hy
    exact ⟨hm, h1, h2, h3⟩
end Go.Lx

/- Package ckpt's statements: the chapter's example. -/
namespace Go.Lx
open Go.Proofs
set_option linter.unusedVariables false
set_option linter.unusedSimpArgs false
set_option maxRecDepth 20000
set_option maxHeartbeats 40000000
theorem Rd.krA {w : World} {a : Option Addr} {n c m : Nat} {xs : List Kr} {x : Kr} (h : Rd w 3 a n c (encK xs)) (hx : xs[m]? = some x) : w.cell? (el a (m * 3)) = some (.int .i64 x.1) ∧ w.cell? (el a (m * 3 + 1)) = some (.int .i64 x.2.1) ∧ w.cell? (el a (m * 3 + 2)) = some (.int .i64 x.2.2) :=
  ⟨by have := h.kr hx 0 _ rfl; rwa [el_add] at this, by have := h.kr hx 1 _ rfl; rwa [el_add] at this, by have := h.kr hx 2 _ rfl; rwa [el_add] at this⟩
theorem made128 : (madeCells #[Value.int IntKind.u8 0] (128 * 1)).toList = encY (List.replicate 128 0) := by kernel_rfl
def oK : Dob := ⟨3, 1, 1, 0, [⟨4, 2, 0, 0⟩], [], List.replicate 128 0⟩
def cN (k : Nat) (sz : Int) : Ck := ⟨k, 1, 0, 0, sz, [], [], []⟩
theorem chk_oK : chkD oK = 0 := by
  have h1 : NumsD oK := by unfold NumsD oK; simp
  have h2 : LaidP oK := by
    refine ⟨by decide, by decide, fun i x hi hx => ?_, SetOK.nil _, fun t _ ⟨y, hy, _⟩ => by cases hy⟩
    have hi2 : i < 1 := hi
    obtain rfl : i = 0 := by omega
    cases hx
    exact ⟨⟨by unfold mayS; decide, .inl ⟨rfl, rfl⟩⟩, fun y h => absurd h (by decide)⟩
  refine chkD_of h1 h2 (by decide) ?_
  have e1 := (dobB_drop oK).1
  have e2 := headD_len oK
  have e3 : oK.d.length = 128 := List.length_replicate
  have e4 : oK.ps.length = 1 := rfl
  have e5 : oK.cs.length = 0 := rfl
  rw [e1, sealS_len]
  omega
theorem chk_new {k : Nat} {sz : Int} (h : 1 ≤ sz ∧ sz ≤ 65536) : chkK (cN k sz) = 0 := by
  refine chkK_of ⟨(by decide : (1 : Int) ≤ 1 ∧ (1 : Int) < 1099511627776), (by decide : (0 : Int) ≤ 0 ∧ (0 : Int) < 1099511627776), (by decide : (0 : Int) ≤ 0 ∧ (0 : Int) < 1099511627776), h⟩ ⟨fun i x hi => absurd hi (Nat.not_lt_zero _), trivial, fun x hx => (List.not_mem_nil hx).elim⟩ ⟨fun i x hi => absurd hi (Nat.not_lt_zero _), fun x hx => (List.not_mem_nil hx).elim⟩ (Nat.zero_le _) ?_
  have h1 := bodK_len (cN k sz)
  have h2 := stK_len (cN k sz)
  have e1 : (cN k sz).m.length = 0 := rfl
  have e2 : (cN k sz).r.length = 0 := rfl
  have e3 : (cN k sz).nt.length = 0 := rfl
  omega
def dK : Ck := ⟨3, 1, 1, 0, 20, [⟨4, 2, 1, 0⟩], [(1, 2, 2)], []⟩
theorem fold_awake {d : Ck} {e : Int} (h : FoldR (cN 3 20) [oK] d e) : e = 0 ∧ d = dK := by
  have hk : FoldR (cN 3 20) [oK] dK 0 := by
    refine .inr ⟨chk_new ⟨by decide, by decide⟩, .inr ⟨fun j p hj hp => ?_, dK, ⟨⟨⟨by decide, by unfold inE; decide, trivial⟩, trivial, fun t p => ?_⟩, rfl⟩, .inl ⟨?_, rfl, rfl⟩⟩⟩
    · have hj1 : j < 1 := hj
      obtain rfl : j = 0 := by omega
      cases hp
      refine mayK_of chk_oK rfl rfl (by decide) (by decide) (fun x hx => ?_) (fun y hy => (List.not_mem_nil hy).elim)
      obtain rfl : x = ⟨4, 2, 0, 0⟩ := by simpa [oK] using hx
      decide
    · have hs : sigN (cN 3 20) [oK] 1 = updE noneS ⟨4, 2, 1, 0⟩ := by
        show applyS noneS oK = _
        show stepS 1 noneS 0 ⟨4, 2, 0, 0⟩ = _
        unfold stepS
        rw [if_pos ⟨rfl, rfl⟩]
      show atE [⟨4, 2, 1, 0⟩] t p ↔ sigN (cN 3 20) [oK] 1 t = some p
      rw [hs, atE_one]
      unfold updE
      dsimp only
      by_cases ht : 4 ≤ t ∧ t < 4 + 2
      · rw [if_pos ht]
        constructor
        · rintro ⟨_, _, rfl⟩; rfl
        · intro hh; cases hh; exact ⟨ht.1, ht.2, rfl⟩
      · rw [if_neg ht]
        constructor
        · rintro ⟨g1, g2, _⟩; exact absurd ⟨g1, g2⟩ ht
        · intro hh; cases hh
    · have h1 := bodK_len dK
      have h2 := stK_len dK
      have e1 : dK.m.length = 1 := rfl
      have e2 : dK.r.length = 1 := rfl
      have e3 : dK.nt.length = 0 := rfl
      omega
  obtain ⟨h1, h2⟩ := h.unique hk
  exact ⟨h2, h1⟩
def valOb (x : Ob) : Value := .agg (encOb1 x).toArray
theorem kAwake_spec (w : World) : Spec Tryz.prog 11 #[] w (fun _ => False) (fun v A => v = .bool true ∧ A = []) := by
  refine Spec.enter (args := []) (A := []) Tryz.func11 rfl Tryz.ntmps11 rfl (fun _ h => h) ?_
  ((refine X.st (by kernel_rfl) ?_<;>repeat' first|refine Z.p rfl ?_|refine XL.nn ?_)<;>refine X.meet (ι := Nat × Nat) (fun y => [(0, .bool false), (1, .pointer (some ⟨y.2, 0, none⟩))]) (fun y => [cells y.2 [.int .u64 3, .int .i64 1, .int .i64 1, .int .i64 0, .slice (some ⟨y.1, 0, none⟩) 1 1, .slice none 0 0, .string ⟨List.toArray (List.replicate 128 0)⟩] 48, own 78 4 (.slice (some ⟨y.1, 0, none⟩) 1 1) 1 ([(⟨4, 2, 0, 0⟩ : Ext)].flatMap encE1)]) (fun _ => True) ?_ ?_;(focus (refine X.draw (.a 0 (.br (.c 1 (.br (.c 2 (.br (.c 3 (.br (.c 4 (.a 5 (.c 6 (.f 7 .n)))) (.c 6 (.c 4 (.a 5 (.f 7 .n)))))) (.c 6 (.c 3 (.c 4 (.a 5 (.f 7 .n))))))) (.br (.c 3 (.br (.c 2 (.br (.c 4 (.a 5 (.c 6 (.f 7 .n)))) (.c 6 (.c 4 (.a 5 (.f 7 .n)))))) (.br (.c 4 (.br (.c 2 (.a 5 (.c 6 (.f 7 .n)))) (.c 6 (.c 2 (.a 5 (.f 7 .n)))))) (.c 6 (.br (.c 2 (.c 4 (.a 5 (.f 7 .n)))) (.c 4 (.c 2 (.a 5 (.f 7 .n))))))))) (.c 6 (.br (.c 2 (.c 3 (.c 4 (.a 5 (.f 7 .n))))) (.c 3 (.br (.c 2 (.c 4 (.a 5 (.f 7 .n)))) (.c 4 (.c 2 (.a 5 (.f 7 .n))))))))))) (.br (.c 3 (.br (.c 1 (.br (.c 2 (.br (.c 4 (.a 5 (.c 6 (.f 7 .n)))) (.c 6 (.c 4 (.a 5 (.f 7 .n)))))) (.br (.c 4 (.br (.c 2 (.a 5 (.c 6 (.f 7 .n)))) (.c 6 (.c 2 (.a 5 (.f 7 .n)))))) (.c 6 (.br (.c 2 (.c 4 (.a 5 (.f 7 .n)))) (.c 4 (.c 2 (.a 5 (.f 7 .n))))))))) (.br (.c 4 (.br (.c 1 (.br (.c 2 (.a 5 (.c 6 (.f 7 .n)))) (.c 6 (.c 2 (.a 5 (.f 7 .n)))))) (.c 6 (.c 1 (.c 2 (.a 5 (.f 7 .n))))))) (.c 6 (.br (.c 1 (.br (.c 2 (.c 4 (.a 5 (.f 7 .n)))) (.c 4 (.c 2 (.a 5 (.f 7 .n)))))) (.c 4 (.c 1 (.c 2 (.a 5 (.f 7 .n)))))))))) (.c 6 (.br (.c 1 (.br (.c 2 (.c 3 (.c 4 (.a 5 (.f 7 .n))))) (.c 3 (.br (.c 2 (.c 4 (.a 5 (.f 7 .n)))) (.c 4 (.c 2 (.a 5 (.f 7 .n)))))))) (.c 3 (.br (.c 1 (.br (.c 2 (.c 4 (.a 5 (.f 7 .n)))) (.c 4 (.c 2 (.a 5 (.f 7 .n)))))) (.c 4 (.c 1 (.c 2 (.a 5 (.f 7 .n)))))))))))) mixed (by kernel_rfl) ?_<;>repeat' first|(refine XL.at 1 ?_;((refine XL.call rfl rfl rfl rfl (fun w hw => lPart_spec 4 2 0 0 w) ?_; rintro v B' ⟨rfl, rfl⟩; refine XL.both ?_)))|(refine XL.at 2 ?_;((refine XL.sliceL vE4 encE1 [⟨4, 2, 0, 0⟩] (fun _ => rfl) (fun _ => rfl) rfl rfl rfl rfl rfl rfl (fun _ => by infer_instance) (fun gA => ?_))))|(refine XL.at 3 ?_;((refine XL.make (n := 128) rfl rfl rfl rfl rfl ⟨by decide, by unfold maxLen; decide⟩ (by intro g; infer_instance) (fun gm => ?_))))|(refine XL.at 4 ?_;((apply XL.detC rfl rfl rfl rfl; exact D.toStr (List.replicate 128 0) rfl rfl (fun w hw => by have := hw.rd (a := some ⟨gm, 0, none⟩); rwa [made128] at this))))|(refine XL.at 6 ?_;(refine XL.alloc rfl rfl rfl (by intro g; infer_instance) (fun g1 => ?_)))|refine Z.bd rfl rfl ?_|refine XL.store1 rfl rfl rfl rfl rfl ?_|refine XL.storeN rfl rfl rfl rfl rfl rfl ?_|refine XL.storeP rfl rfl rfl rfl rfl rfl ?_|refine XL.br ?_ ?_|refine XL.nil ?_<;>(refine N.meet ((gA, g1)) (trivial) ?_ ?_;(focus (repeat (first|exact Sub.nil|refine Sub.cons rfl ?_)));exact fun _=>Conf.takes)));(rintro ⟨gA, g1⟩ _<;>(dsimp only)<;>(refine X.meet (ι := Nat × Option Addr × Nat × Option Addr × Nat) (fun y => [(0, .bool false), (2, .pointer (some ⟨y.1, 0, none⟩)), (3, .int .i64 0)]) (fun y => [cells y.1 [.int .u64 ((dK.k : Nat) : Int), .int .i64 dK.ep, .int .i64 dK.sq, .int .i64 dK.up, .int .i64 dK.sz, .slice y.2.1 dK.m.length y.2.2.1, .slice y.2.2.2.1 dK.r.length y.2.2.2.2, .string ⟨List.toArray dK.nt⟩] 26, own 63 4 (.slice y.2.1 (List.length dK.m) y.2.2.1) (List.length dK.m) (encE dK.m), own 83 3 (.slice y.2.2.2.1 (List.length dK.r) y.2.2.2.2) (List.length dK.r) (encK dK.r)]) (fun _ => True) ?_ ?_;(focus (refine X.draw (.b 1 (.br (.c 0 (.br (.c 2 (.br (.c 3 (.a 4 (.a 5 (.a 6 (.c 7 (.f 8 (.a 9 .n))))))) (.c 7 (.c 3 (.a 4 (.a 5 (.a 6 (.f 8 (.a 9 .n))))))))) (.c 7 (.c 2 (.c 3 (.a 4 (.a 5 (.a 6 (.f 8 (.a 9 .n)))))))))) (.br (.c 2 (.br (.c 0 (.br (.c 3 (.a 4 (.a 5 (.a 6 (.c 7 (.f 8 (.a 9 .n))))))) (.c 7 (.c 3 (.a 4 (.a 5 (.a 6 (.f 8 (.a 9 .n))))))))) (.c 7 (.c 0 (.c 3 (.a 4 (.a 5 (.a 6 (.f 8 (.a 9 .n)))))))))) (.c 7 (.br (.c 0 (.c 2 (.c 3 (.a 4 (.a 5 (.a 6 (.f 8 (.a 9 .n)))))))) (.c 2 (.c 0 (.c 3 (.a 4 (.a 5 (.a 6 (.f 8 (.a 9 .n))))))))))))) mixed (by kernel_rfl) ?_<;>repeat' first|refine Z.p rfl ?_|(refine XL.at 0 ?_;((refine XL.call rfl rfl rfl rfl (fun w hw => kNew_spec w 3 20) ?_; rintro v B' ⟨rfl, rfl⟩; refine XL.both ?_)))|(refine XL.at 2 ?_;((refine XL.sliceL valOb encOb1 [⟨oK, some ⟨gA, 0, none⟩, 1, none, 0⟩] (fun _ => rfl) (fun _ => rfl) rfl rfl rfl rfl rfl rfl (fun _ => by infer_instance) (fun gS => ?_))))|(refine XL.at 3 ?_;((refine XL.call rfl rfl rfl rfl (fun w hw => Fold_spec w (cN 3 20) none none (some ⟨gS, 0, none⟩) 0 0 1 [⟨oK, some ⟨gA, 0, none⟩, 1, none, 0⟩] (Rd.nil w 4) (Rd.nil w 3) (by decide) (show (0 : Nat) + 1 ≤ 900000 from by decide) (by decide) (hw.rd (a := some ⟨gS, 0, none⟩)) (fun x hx => by rw [List.mem_singleton] at hx; subst hx; exact ⟨hw.rd (a := some ⟨gA, 0, none⟩), Rd.nil w 2, (show (3 : Nat) < 18446744073709551616 from by decide), (show (List.replicate 128 (0 : UInt8)).length ≤ 1000000 from by decide)⟩)) ?_; rintro v B' ⟨x, e, a1, b1, n1, d1, rfl, hF, rfl⟩; refine XL.both ?_); (obtain ⟨rfl, rfl⟩ := fold_awake hF)))|(refine XL.at 7 ?_;(refine XL.alloc rfl rfl rfl (by intro g; infer_instance) (fun g2 => ?_)))|refine Z.l1 rfl rfl rfl ?_|refine Z.lN rfl rfl rfl ?_|refine Z.lP rfl rfl rfl ?_|refine XL.store1 rfl rfl rfl rfl rfl ?_|refine XL.storeN rfl rfl rfl rfl rfl rfl ?_|refine XL.storeP rfl rfl rfl rfl rfl rfl ?_|refine XL.br ?_ ?_|refine XL.nil ?_<;>(refine N.meet ((g2, a1, n1, b1, d1)) (trivial) ?_ ?_;(focus (repeat (first|exact Sub.nil|refine Sub.cons rfl ?_)));exact fun _=>Conf.takes)));(rintro ⟨g2, a1, n1, b1, d1⟩ _<;>(dsimp only)<;>((refine X.sd (.a 0 (.a 1 (.a 2 (.a 3 (.b 4 (.c 5 (.c 6 (.c 7 (.a 8 (.a 9 (.a 10 (.b 11 (.a 12 (.a 13 (.a 14 (.a 15 (.a 16 (.b 17 (.a 18 (.a 19 (.b 20 (.a 21 (.a 22 (.a 23 (.a 24 (.b 25 (.a 26 (.a 27 (.b 28 (.a 29 (.a 30 (.a 31 (.a 32 (.b 33 (.a 34 (.a 35 (.b 36 (.a 37 (.a 38 (.a 39 (.a 40 (.b 41 (.a 42 (.a 43 (.a 44 .n))))))))))))))))))))))))))))))))))))))))))))) mixed (by kernel_rfl) ?_<;>repeat' first|refine XL.skipC rfl rfl rfl rfl ?_|refine Z.p rfl ?_|(refine XL.at 5 ?_;((refine XL.call rfl rfl rfl rfl (fun w hw => lExt_spec 4 2 1 0 w) ?_; rintro v B' ⟨rfl, rfl⟩; refine XL.both ?_)))|(refine XL.at 6 ?_;((refine XL.sliceL vE4 encE1 [⟨4, 2, 1, 0⟩] (fun _ => rfl) (fun _ => rfl) rfl rfl rfl rfl rfl rfl (fun _ => by infer_instance) (fun gB => ?_))))|(refine XL.at 7 ?_;((refine XL.call rfl rfl rfl rfl (fun w hw => dSame07_spec w a1 (some ⟨gB, 0, none⟩) n1 1 dK.m [⟨4, 2, 1, 0⟩] (hw.rd (a := a1)) (hw.rd (a := some ⟨gB, 0, none⟩))) ?_; rintro v B' ⟨rfl, rfl⟩; refine XL.both ?_); rw [decide_eq_true (show dK.m = [(⟨4, 2, 1, 0⟩ : Ext)] from rfl)]))|(refine XL.at 13 ?_;(refine Z.ct rfl rfl ?_))|(refine XL.at 18 ?_;(refine XL.fact (fun w h => (h.rd (a := b1)).sm (by decide)) (fun hsome => ?_); refine Z.ix 0 rfl rfl rfl rfl (by decide) hsome ?_))|(refine XL.at 20 ?_;(refine Z.la rfl rfl (fun w hw => (Rd.krA (hw.rd (a := b1)) (m := 0) (x := (1, 2, 2)) rfl).1) ?_))|(refine XL.at 21 ?_;(refine Z.ct rfl rfl ?_))|(refine XL.at 26 ?_;(refine Z.ix 0 rfl rfl rfl rfl (by decide) hsome ?_))|(refine XL.at 28 ?_;(refine Z.la rfl rfl (fun w hw => (Rd.krA (hw.rd (a := b1)) (m := 0) (x := (1, 2, 2)) rfl).2.1) ?_))|(refine XL.at 29 ?_;(refine Z.ct rfl rfl ?_))|(refine XL.at 34 ?_;(refine Z.ix 0 rfl rfl rfl rfl (by decide) hsome ?_))|(refine XL.at 36 ?_;(refine Z.la rfl rfl (fun w hw => (Rd.krA (hw.rd (a := b1)) (m := 0) (x := (1, 2, 2)) rfl).2.2) ?_))|(refine XL.at 37 ?_;(refine Z.ct rfl rfl ?_))|(refine XL.at 42 ?_;(refine Z.ct rfl rfl ?_))|refine Z.ct rfl (by omega) ?_|refine Z.cf rfl (by omega) ?_|refine Z.cs rfl (fun _=>?_) (fun _=>?_)|refine Z.fa rfl rfl rfl ?_|refine Z.l1 rfl rfl rfl ?_|refine Z.lN rfl rfl rfl ?_|refine Z.lP rfl rfl rfl ?_|refine Z.pk rfl rfl rfl rfl ?_|refine Z.ln rfl rfl ?_|refine Z.lnL rfl rfl ?_|refine Z.lnS rfl rfl ?_|refine XL.nn ?_)<;>(apply X.r1 Tryz.results11 (RV.tmp rfl);(focus (exact ⟨rfl, rfl⟩));exact fun _=>Conf.takes))))))
end Go.Lx

/- The document's answer for states: Bytes, Check; the law's helpers. -/
namespace Go.Lx
open Go.Proofs
set_option linter.unusedVariables false
set_option linter.unusedSimpArgs false
set_option maxRecDepth 20000
set_option maxHeartbeats 4000000
end Go.Lx
