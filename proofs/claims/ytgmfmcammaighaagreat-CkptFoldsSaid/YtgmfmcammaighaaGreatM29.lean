/- Texts Kf Kg Kq, merged: a claim has at most 60 files. -/
import Derived.Test.YtgmfmcammaighaaGreatM4
import Derived.Test.YtgmfmcammaighaaGreatM28
import Derived.Test.YtgmfmcammaighaaGreatM20
/- Package ckpt's walks: Fold. -/
namespace Go.Lx
open Go.Proofs
set_option linter.unusedVariables false
set_option linter.unusedSimpArgs false
set_option maxRecDepth 20000
set_option maxHeartbeats 4000000
instance (priority := 40) {p : Assn} {B : List Assn} : Suf [p] (p :: B) := ⟨List.cons_sublist_cons.2 (List.nil_sublist B)⟩
structure Ob where
  o : Dob
  a : Option Addr
  c : Nat
  b : Option Addr
  d : Nat
def encOb1 (x : Ob) : List Value := [.int .u64 ((x.o.k : Nat) : Int), .int .i64 x.o.ep, .int .i64 x.o.sq, .int .i64 x.o.up, .slice x.a x.o.ps.length x.c, .slice x.b x.o.cs.length x.d, .string ⟨x.o.d.toArray⟩]
def encOb (l : List Ob) : List Value := l.flatMap encOb1
theorem Rd.ob {w : World} {a : Option Addr} {n c m : Nat} {xs : List Ob} {x : Ob} (h : Rd w 7 a n c (encOb xs)) (hx : xs[m]? = some x) : ∀ j u, [Value.int .u64 ((x.o.k : Nat) : Int), .int .i64 x.o.ep, .int .i64 x.o.sq, .int .i64 x.o.up, .slice x.a x.o.ps.length x.c, .slice x.b x.o.cs.length x.d, .string ⟨x.o.d.toArray⟩][j]? = some u → w.cell? ((el a (m * 7)).add j) = some u := Rd.elem (f := encOb1) h (fun _ => rfl) hx
structure CkS where
  c : Ck
  a : Option Addr
  n : Nat
  b : Option Addr
  d : Nat
def encCk (x : CkS) : List Value := [.int .u64 ((x.c.k : Nat) : Int), .int .i64 x.c.ep, .int .i64 x.c.sq, .int .i64 x.c.up, .int .i64 x.c.sz, .slice x.a x.c.m.length x.n, .slice x.b x.c.r.length x.d, .string ⟨x.c.nt.toArray⟩]
theorem wf_u64 {n : Int} (h2 : (Lit.int .u64 n).wf = true) : 0 ≤ n ∧ n < 18446744073709551616 := by
  have h3 : IntKind.u64.min = 0 := by decide
  have h4 : IntKind.u64.max = 18446744073709551615 := by decide
  simp only [Lit.wf, Bool.and_eq_true, decide_eq_true_eq, h3, h4] at h2
  omega
/-- What is asked of objects that are handed in. -/
def ObOk (w : World) (x : Ob) : Prop := Rd w 4 x.a x.o.ps.length x.c (encE x.o.ps) ∧ Rd w 2 x.b x.o.cs.length x.d (encS x.o.cs) ∧ x.o.k < 18446744073709551616 ∧ x.o.d.length ≤ 1000000
theorem ObOk.conf0 {P : Program} {k : Nat} {w w' : World} {A : List Assn} {x : Ob} (h : ObOk w x) (hw : Conf ⟨P, k, w, fun _ => False⟩ A w') : ObOk w' x := ⟨h.1.conf0 hw, h.2.1.conf0 hw, h.2.2⟩
theorem Fold_spec (w : World) (c : Ck) (a b ao : Option Addr) (n d co : Nat) (l : List Ob) (hl : Rd w 4 a c.m.length n (encE c.m)) (hrw : Rd w 3 b c.r.length d (encK c.r)) (hb1 : c.m.length ≤ 1000000) (hb2 : c.r.length + l.length ≤ 900000) (hb3 : c.nt.length ≤ 1000000) (ho : Rd w 7 ao l.length co (encOb l)) (hob : ∀ x ∈ l, ObOk w x) :
    Spec Tryz.prog 12 #[.agg #[.int .u64 ((c.k : Nat) : Int), .int .i64 c.ep, .int .i64 c.sq, .int .i64 c.up, .int .i64 c.sz, .slice a c.m.length n, .slice b c.r.length d, .string ⟨List.toArray c.nt⟩], .slice ao l.length co] w (fun _ => False) (fun v A => ∃ (c' : Ck) (e : Int) (a1 b1 : Option Addr) (n1 d1 : Nat), v = .tuple #[.agg #[.int .u64 ((c'.k : Nat) : Int), .int .i64 c'.ep, .int .i64 c'.sq, .int .i64 c'.up, .int .i64 c'.sz, .slice a1 c'.m.length n1, .slice b1 c'.r.length d1, .string ⟨List.toArray c'.nt⟩], .int .i64 e] ∧ FoldR c (l.map Ob.o) c' e ∧ A = [own 63 4 (.slice a1 (List.length c'.m) n1) (List.length c'.m) (encE c'.m), own 83 3 (.slice b1 (List.length c'.r) d1) (List.length c'.r) (encK c'.r)]) := by
  have hbo := ho.bd'
  refine Spec.enter (args := [.agg #[.int .u64 ((c.k : Nat) : Int), .int .i64 c.ep, .int .i64 c.sq, .int .i64 c.up, .int .i64 c.sz, .slice a c.m.length n, .slice b c.r.length d, .string ⟨List.toArray c.nt⟩], .slice ao l.length co]) (A := []) Tryz.func12 rfl Tryz.ntmps12 rfl (fun _ h => h) ?_
  refine X.mem (B := [own 63 4 (.slice none (List.length (([] : List Ext))) 0) (List.length (([] : List Ext))) (encE (([] : List Ext))), own 83 3 (.slice none (List.length (([] : List Kr))) 0) (List.length (([] : List Kr))) (encK (([] : List Kr)))]) (fun w h => (h.nilOwn 83 3).nilOwn 63 4) ?_
  ((refine X.st (by kernel_rfl) ?_<;>repeat' first|refine Z.p rfl ?_|(refine XL.at 0 ?_;(refine XL.boxN rfl rfl rfl rfl (by intro g; infer_instance) (fun g2 => ?_)))|(refine XL.at 1 ?_;(refine XL.alloc rfl rfl rfl (by intro g; infer_instance) (fun g4 => ?_)))|refine XL.nn ?_)<;>refine X.seq ?_<;>((refine X.st (by kernel_rfl) ?_<;>repeat' first|refine Z.p rfl ?_|(refine XL.at 1 ?_;((refine XL.call rfl rfl rfl rfl (fun w hw => kChk_spec w c a b n d (hl.conf0 hw) (hrw.conf0 hw) hb1 (by omega) hb3) ?_; rintro v B' ⟨rfl, rfl⟩; refine XL.both ?_)))|refine Z.l1 rfl rfl rfl ?_|refine Z.lN rfl rfl rfl ?_|refine Z.lP rfl rfl rfl ?_|refine XL.nn ?_)<;>(refine X.st (by kernel_rfl) ?_<;>repeat' first|refine Z.p rfl ?_|(refine XL.at 1 ?_;(refine Z.cs rfl (fun h1 => ?_) (fun h1 => ?_)))|refine XL.nn ?_)<;>(refine X.cond rfl ?_ ?_;rotate_left;(focus (intro hc;first|exact no_ hc rfl|(refine X.skip ?_)));rotate_right;(focus (intro hc;first|exact no_ hc rfl|((refine X.st (by kernel_rfl) ?_<;>repeat' first|refine Z.p rfl ?_|refine Z.bd rfl rfl ?_|refine XL.store1 rfl rfl rfl rfl rfl ?_|refine XL.storeN rfl rfl rfl rfl rfl rfl ?_|refine XL.storeP rfl rfl rfl rfl rfl rfl ?_|refine XL.nn ?_)<;>(apply X.r2 Tryz.results12 (RV.of rfl) (RV.tmp rfl);(focus (first | exact ⟨zK, chkK c, none, none, 0, 0, rfl, .inl ⟨h1, rfl, rfl⟩, (rfl : [own 63 4 (.slice none (List.length (([] : List Ext))) 0) (List.length (([] : List Ext))) (encE (([] : List Ext))), own 83 3 (.slice none (List.length (([] : List Kr))) 0) (List.length (([] : List Kr))) (encK (([] : List Kr)))] = _)⟩ | exact ⟨zK, mayK s z.o, none, none, 0, 0, rfl, .inr ⟨Decidable.not_not.1 h1, .inl ⟨i, z.o, hzm, hO, by rw [← hs]; exact h5, by rw [← hs], rfl⟩⟩, (rfl : [own 63 4 (.slice none (List.length (([] : List Ext))) 0) (List.length (([] : List Ext))) (encE (([] : List Ext))), own 83 3 (.slice none (List.length (([] : List Kr))) 0) (List.length (([] : List Kr))) (encK (([] : List Kr)))] = _)⟩ | exact ⟨zK, 31, none, none, 0, 0, rfl, .inr ⟨Decidable.not_not.1 h1, .inr ⟨hok, _, hend, .inr ⟨by omega, rfl, rfl⟩⟩⟩, (rfl : [own 63 4 (.slice none (List.length (([] : List Ext))) 0) (List.length (([] : List Ext))) (encE (([] : List Ext))), own 83 3 (.slice none (List.length (([] : List Kr))) 0) (List.length (([] : List Kr))) (encK (([] : List Kr)))] = _)⟩ | exact ⟨⟨s.k, s.ep, s.sq, s.up, s.sz, lm, q, s.nt⟩, 0, a8, a9, c8, c9, rfl, .inr ⟨Decidable.not_not.1 h1, .inr ⟨hok, _, hend, .inl ⟨by omega, rfl, rfl⟩⟩⟩, (rfl : [own 63 4 (.slice a8 (List.length lm) c8) (List.length lm) (encE lm), own 83 3 (.slice a9 (List.length q) c9) (List.length q) (encK q)] = _)⟩));exact fun _=>Conf.takes))))))<;>(first|refine Ex.then ?_|refine N.next ?_<;>((refine X.st (by kernel_rfl) ?_<;>repeat' first|refine Z.p rfl ?_|(refine XL.at 0 ?_;((obtain ⟨k1, k2, k3, k4, k5⟩ := chkK_ok (Decidable.not_not.1 h1)); (refine XL.call rfl rfl rfl rfl (fun w hw => New_spec w) ?_; rintro v B' ⟨gm, rfl, rfl⟩; refine XL.both ?_)))|refine XL.nn ?_)<;>(refine X.st (by kernel_rfl) ?_<;>repeat' first|refine Z.p rfl ?_|(refine XL.at 3 ?_;(refine XL.mem (B := [cells gm [.slice none (List.length (([] : List Ext))) 0] 104, own 63 4 (.slice none (List.length (([] : List Ext))) 0) (List.length (([] : List Ext))) (encE (([] : List Ext))), cells g2 [.int .u64 ((c.k : Nat) : Int), .int .i64 c.ep, .int .i64 c.sq, .int .i64 c.up, .int .i64 c.sz, .slice a c.m.length n, .slice b c.r.length d, .string ⟨List.toArray c.nt⟩] 26, cells g4 [.int .u64 0, .int .i64 0, .int .i64 0, .int .i64 0, .int .i64 0, .slice none 0 0, .slice none 0 0, .string ByteArray.empty] 26, own 63 4 (.slice none (List.length (([] : List Ext))) 0) (List.length (([] : List Ext))) (encE (([] : List Ext))), own 83 3 (.slice none (List.length (([] : List Kr))) 0) (List.length (([] : List Kr))) (encK (([] : List Kr)))]) (fun w h => ((h.nilOwn 63 4).takes : Conf _ [cells gm [.slice none 0 0] 104, own 63 4 (.slice none 0 0) 0 [], cells g2 [.int .u64 ((c.k : Nat) : Int), .int .i64 c.ep, .int .i64 c.sq, .int .i64 c.up, .int .i64 c.sz, .slice a c.m.length n, .slice b c.r.length d, .string ⟨List.toArray c.nt⟩] 26, cells g4 [.int .u64 0, .int .i64 0, .int .i64 0, .int .i64 0, .int .i64 0, .slice none 0 0, .slice none 0 0, .string ByteArray.empty] 26, own 63 4 (.slice none (List.length (([] : List Ext))) 0) (List.length (([] : List Ext))) (encE (([] : List Ext))), own 83 3 (.slice none (List.length (([] : List Kr))) 0) (List.length (([] : List Kr))) (encK (([] : List Kr)))] w)) ?_; (refine XL.callF [cells gm [.slice none (List.length (([] : List Ext))) 0] 104, own 63 4 (.slice none (List.length (([] : List Ext))) 0) (List.length (([] : List Ext))) (encE (([] : List Ext)))] rfl rfl rfl rfl (fun w F hF hm hw => Put_spec w F gm none a 0 n [] c.m noneS hF (RdX.call0 hl hw hm) IsMap.empty hb1) ?_; rintro v B' ⟨po, pc, L, e, a2, c2, l2, rfl, hP, rfl⟩; refine XL.both ?_); (obtain ⟨rfl, _, _, hM2, _⟩ := hP.resolve_right (fun g => g.2.1 k2.1.may))))|refine Z.fa rfl rfl rfl ?_|refine Z.l1 rfl rfl rfl ?_|refine Z.lN rfl rfl rfl ?_|refine Z.lP rfl rfl rfl ?_|refine XL.nn ?_)<;>refine X.seq ?_<;>((refine X.st (by kernel_rfl) ?_<;>repeat' first|(refine XL.at 0 ?_;(refine XL.mem (B := vw 3 b c.r.length d (encK c.r) 83 3 b c.r.length d (encK c.r) :: [cells gm [.slice a2 (List.length l2) c2] 104, own 63 4 (.slice a2 (List.length l2) c2) (List.length l2) (encE l2), cells g2 [.int .u64 ((c.k : Nat) : Int), .int .i64 c.ep, .int .i64 c.sq, .int .i64 c.up, .int .i64 c.sz, .slice a c.m.length n, .slice b c.r.length d, .string ⟨List.toArray c.nt⟩] 26, own 63 4 (.slice none (List.length (([] : List Ext))) 0) (List.length (([] : List Ext))) (encE (([] : List Ext))), own 83 3 (.slice none (List.length (([] : List Kr))) 0) (List.length (([] : List Kr))) (encK (([] : List Kr))), cells g4 [.int .u64 0, .int .i64 0, .int .i64 0, .int .i64 0, .int .i64 0, .slice none 0 0, .slice none 0 0, .string ByteArray.empty] 26]) (fun w h => Conf.vwNew h.takes (fun _ h => h)) ?_; refine Z.p rfl ?_))|refine Z.p rfl ?_|refine Z.ln rfl rfl ?_|refine Z.lnL rfl rfl ?_|refine Z.lnS rfl rfl ?_|refine XL.nn ?_)<;>refine X.block ?_<;>((refine X.loop (ι := Nat × Ck × Option Addr × Nat × Option Addr × Nat × List Ext) (fun y => [(2, .pointer (some ⟨g2, 0, none⟩)), (4, .pointer (some ⟨g4, 0, none⟩)), (7, .pointer (some ⟨gm, 0, none⟩)), (25, .slice ao l.length co), (26, .int .i64 l.length), (27, .int .i64 ((y.1 : Nat) : Int))]) (fun y => [cells gm [.slice y.2.2.2.2.1 (List.length y.2.2.2.2.2.2) y.2.2.2.2.2.1] 104, own 63 4 (.slice y.2.2.2.2.1 (List.length y.2.2.2.2.2.2) y.2.2.2.2.2.1) (List.length y.2.2.2.2.2.2) (encE y.2.2.2.2.2.2), vw 3 b c.r.length d (encK c.r) 83 3 y.2.2.1 y.2.1.r.length y.2.2.2.1 (encK y.2.1.r), cells g2 [.int .u64 ((y.2.1.k : Nat) : Int), .int .i64 y.2.1.ep, .int .i64 y.2.1.sq, .int .i64 y.2.1.up, .int .i64 y.2.1.sz, .slice a y.2.1.m.length n, .slice y.2.2.1 y.2.1.r.length y.2.2.2.1, .string ⟨List.toArray y.2.1.nt⟩] 26, own 63 4 (.slice none (List.length (([] : List Ext))) 0) (List.length (([] : List Ext))) (encE (([] : List Ext))), own 83 3 (.slice none (List.length (([] : List Kr))) 0) (List.length (([] : List Kr))) (encK (([] : List Kr))), cells g4 [.int .u64 0, .int .i64 0, .int .i64 0, .int .i64 0, .int .i64 0, .slice none 0 0, .slice none 0 0, .string ByteArray.empty] 26]) (fun y => y.1 ≤ l.length ∧ y.2.1 = foldN c (l.map Ob.o) y.1 ∧ okN c (l.map Ob.o) y.1 ∧ IsMap y.2.2.2.2.2.2 (sigN c (l.map Ob.o) y.1)) (fun y => l.length - y.1) ((0, c, b, d, a2, c2, l2)) ?_ ?_ ?_ ?_; (focus (exact ⟨Nat.zero_le _, rfl, fun _ _ h => by dsimp only at h; omega, hM2⟩)); (focus (repeat (first | exact Sub.nil | refine Sub.cons rfl ?_))); (focus (exact (fun w h => h.takes))); rintro ⟨i, s, ar, cr, am, cm, lm⟩ ⟨hi, hs, hO, hM⟩; (dsimp only at *)) <;> ((refine X.st (by kernel_rfl) ?_<;>repeat' first|(refine XL.at 0 ?_;(refine Z.cs rfl (fun h3 => ?_) (fun h3 => ?_)))|refine XL.nn ?_)<;>refine X.seq ?_<;>((refine X.cond rfl ?_ ?_;rotate_left;(focus (intro hc;first|exact no_ hc rfl|(refine X.exit ?_)));rotate_right;(focus (intro hc;first|exact no_ hc rfl|(refine X.skip ?_)))))<;>(first|refine Ex.then ?_|refine N.next ?_<;>(refine X.seq ?_<;>(refine X.block ?_<;>((refine X.st (by kernel_rfl) ?_<;>repeat' first|(refine XL.at 0 ?_;(have hil : i < l.length := (by omega); (obtain ⟨z, hz⟩ := get_lt hil); have hzo := hob z (List.mem_of_getElem? hz); have hzm : (l.map Ob.o)[i]? = some z.o := (by rw [List.getElem?_map, hz]; rfl); have hns : numsK s := (by rw [hs]; exact hO.nums (by simpa using hi) k1); have hsr : s.r.length = c.r.length + i := (by rw [hs]; exact foldN_rlen (by simpa using hi)); refine Z.ix i rfl rfl rfl rfl hil (ho.sm (by omega)) ?_))|(refine XL.at 1 ?_;(refine Z.lb rfl rfl rfl (fun w hw j u hu => Rd.ob (ho.conf0 hw) hz j u hu) ?_))|(refine XL.at 2 ?_;(refine XL.alloc rfl rfl rfl (by intro g; infer_instance) (fun g9 => ?_)))|refine XL.store1 rfl rfl rfl rfl rfl ?_|refine XL.storeN rfl rfl rfl rfl rfl rfl ?_|refine XL.storeP rfl rfl rfl rfl rfl rfl ?_|refine XL.nn ?_)<;>refine X.seq ?_<;>((refine X.st (by kernel_rfl) ?_<;>repeat' first|refine Z.p rfl ?_|(refine XL.at 2 ?_;((refine XL.call rfl rfl rfl rfl (fun w hw => kMay_spec w s z.o a ar z.a z.b n cr z.c z.d (hzo.conf0 hw).1 (hzo.conf0 hw).2.1 hzo.2.2.1 hzo.2.2.2 hns) ?_; rintro v B' ⟨rfl, rfl⟩; refine XL.both ?_)))|refine Z.l1 rfl rfl rfl ?_|refine Z.lN rfl rfl rfl ?_|refine Z.lP rfl rfl rfl ?_|refine XL.nn ?_)<;>(refine X.st (by kernel_rfl) ?_<;>repeat' first|refine Z.p rfl ?_|(refine XL.at 1 ?_;(refine Z.cs rfl (fun h5 => ?_) (fun h5 => ?_)))|refine XL.nn ?_)<;>(refine X.cond rfl ?_ ?_;rotate_left;(focus (intro hc;first|exact no_ hc rfl|(refine X.skip ?_)));rotate_right;(focus (intro hc;first|exact no_ hc rfl|((refine X.st (by kernel_rfl) ?_<;>repeat' first|refine Z.p rfl ?_|refine Z.bd rfl rfl ?_|refine XL.store1 rfl rfl rfl rfl rfl ?_|refine XL.storeN rfl rfl rfl rfl rfl rfl ?_|refine XL.storeP rfl rfl rfl rfl rfl rfl ?_|refine XL.nn ?_)<;>(apply X.r2 Tryz.results12 (RV.of rfl) (RV.tmp rfl);(focus (first | exact ⟨zK, chkK c, none, none, 0, 0, rfl, .inl ⟨h1, rfl, rfl⟩, (rfl : [own 63 4 (.slice none (List.length (([] : List Ext))) 0) (List.length (([] : List Ext))) (encE (([] : List Ext))), own 83 3 (.slice none (List.length (([] : List Kr))) 0) (List.length (([] : List Kr))) (encK (([] : List Kr)))] = _)⟩ | exact ⟨zK, mayK s z.o, none, none, 0, 0, rfl, .inr ⟨Decidable.not_not.1 h1, .inl ⟨i, z.o, hzm, hO, by rw [← hs]; exact h5, by rw [← hs], rfl⟩⟩, (rfl : [own 63 4 (.slice none (List.length (([] : List Ext))) 0) (List.length (([] : List Ext))) (encE (([] : List Ext))), own 83 3 (.slice none (List.length (([] : List Kr))) 0) (List.length (([] : List Kr))) (encK (([] : List Kr)))] = _)⟩ | exact ⟨zK, 31, none, none, 0, 0, rfl, .inr ⟨Decidable.not_not.1 h1, .inr ⟨hok, _, hend, .inr ⟨by omega, rfl, rfl⟩⟩⟩, (rfl : [own 63 4 (.slice none (List.length (([] : List Ext))) 0) (List.length (([] : List Ext))) (encE (([] : List Ext))), own 83 3 (.slice none (List.length (([] : List Kr))) 0) (List.length (([] : List Kr))) (encK (([] : List Kr)))] = _)⟩ | exact ⟨⟨s.k, s.ep, s.sq, s.up, s.sz, lm, q, s.nt⟩, 0, a8, a9, c8, c9, rfl, .inr ⟨Decidable.not_not.1 h1, .inr ⟨hok, _, hend, .inl ⟨by omega, rfl, rfl⟩⟩⟩, (rfl : [own 63 4 (.slice a8 (List.length lm) c8) (List.length lm) (encE lm), own 83 3 (.slice a9 (List.length q) c9) (List.length q) (encK q)] = _)⟩));exact fun _=>Conf.takes))))))<;>(first|refine Ex.then ?_|refine N.next ?_<;>(refine X.seq ?_<;>((refine X.st (by kernel_rfl) ?_<;>repeat' first|refine Z.p rfl ?_|(refine XL.at 2 ?_;(have h5' : mayK s z.o = 0 := (Decidable.not_not.1 h5); have hck := (mayK_ok h5').1; have hLz := (chkD_ok hck).2.1; (refine XL.callF [cells gm [.slice am (List.length lm) cm] 104, own 63 4 (.slice am (List.length lm) cm) (List.length lm) (encE lm)] rfl rfl rfl rfl (fun w F hF hm hw => Apply_spec w F gm am cm lm (sigN c (l.map Ob.o) i) z.o z.a z.b z.c z.d hF hM (RdX.call0 hzo.1 hw hm) (RdX.call0 hzo.2.1 hw hm) hzo.2.2.1 hzo.2.2.2) ?_; rintro v B' ⟨e1, e2, am2, d1, d2, cm2, q1, q2, lm2, rfl, hA, rfl⟩; refine XL.both ?_); (obtain ⟨_, hM3, _, _⟩ := hA.resolve_left (fun g => g.1 hck)); rw [← sigN_succ hzm] at hM3))|refine Z.l1 rfl rfl rfl ?_|refine Z.lN rfl rfl rfl ?_|refine Z.lP rfl rfl rfl ?_|refine XL.nn ?_)<;>(refine X.st (by kernel_rfl) ?_<;>repeat' first|refine Z.p rfl ?_|refine Z.ct rfl (by omega) ?_|refine Z.cf rfl (by omega) ?_|refine Z.cs rfl (fun _=>?_) (fun _=>?_)|refine XL.nn ?_)<;>(refine X.cond rfl ?_ ?_;rotate_left;(focus (intro hc;first|exact no_ hc rfl|(refine X.skip ?_)));rotate_right;(focus (intro hc;first|exact no_ hc rfl|((refine X.st (by kernel_rfl) ?_<;>repeat' first|refine Z.p rfl ?_|refine Z.bd rfl rfl ?_|refine XL.store1 rfl rfl rfl rfl rfl ?_|refine XL.storeN rfl rfl rfl rfl rfl rfl ?_|refine XL.storeP rfl rfl rfl rfl rfl rfl ?_|refine XL.nn ?_)<;>(apply X.r2 Tryz.results12 (RV.of rfl) (RV.tmp rfl);(focus (first | exact ⟨zK, chkK c, none, none, 0, 0, rfl, .inl ⟨h1, rfl, rfl⟩, (rfl : [own 63 4 (.slice none (List.length (([] : List Ext))) 0) (List.length (([] : List Ext))) (encE (([] : List Ext))), own 83 3 (.slice none (List.length (([] : List Kr))) 0) (List.length (([] : List Kr))) (encK (([] : List Kr)))] = _)⟩ | exact ⟨zK, mayK s z.o, none, none, 0, 0, rfl, .inr ⟨Decidable.not_not.1 h1, .inl ⟨i, z.o, hzm, hO, by rw [← hs]; exact h5, by rw [← hs], rfl⟩⟩, (rfl : [own 63 4 (.slice none (List.length (([] : List Ext))) 0) (List.length (([] : List Ext))) (encE (([] : List Ext))), own 83 3 (.slice none (List.length (([] : List Kr))) 0) (List.length (([] : List Kr))) (encK (([] : List Kr)))] = _)⟩ | exact ⟨zK, 31, none, none, 0, 0, rfl, .inr ⟨Decidable.not_not.1 h1, .inr ⟨hok, _, hend, .inr ⟨by omega, rfl, rfl⟩⟩⟩, (rfl : [own 63 4 (.slice none (List.length (([] : List Ext))) 0) (List.length (([] : List Ext))) (encE (([] : List Ext))), own 83 3 (.slice none (List.length (([] : List Kr))) 0) (List.length (([] : List Kr))) (encK (([] : List Kr)))] = _)⟩ | exact ⟨⟨s.k, s.ep, s.sq, s.up, s.sz, lm, q, s.nt⟩, 0, a8, a9, c8, c9, rfl, .inr ⟨Decidable.not_not.1 h1, .inr ⟨hok, _, hend, .inl ⟨by omega, rfl, rfl⟩⟩⟩, (rfl : [own 63 4 (.slice a8 (List.length lm) c8) (List.length lm) (encE lm), own 83 3 (.slice a9 (List.length q) c9) (List.length q) (encK q)] = _)⟩));exact fun _=>Conf.takes))))))<;>(first|refine Ex.then ?_|refine N.next ?_<;>((refine X.seq ?_ <;> refine X.drawS ([cells g9 [.int .u64 ((z.o.k : Nat) : Int), .int .i64 z.o.ep, .int .i64 z.o.sq, .int .i64 z.o.up, .slice z.a z.o.ps.length z.c, .slice z.b z.o.cs.length z.d, .string ⟨List.toArray z.o.d⟩] 48]) (fun w h => h.takes) (.a 0 (.b 1 (.a 2 (.b 3 (.a 4 (.b 5 (.a 6 (.c 7 (.a 8 (.c 9 (.a 10 (.f 11 .n)))))))))))) mixed (by kernel_rfl) ?_ <;> repeat' first|refine Z.fa rfl rfl rfl ?_|refine Z.l1 rfl rfl rfl ?_|refine Z.lN rfl rfl rfl ?_|refine Z.lP rfl rfl rfl ?_|refine XL.store1 rfl rfl rfl rfl rfl ?_|refine XL.storeN rfl rfl rfl rfl rfl rfl ?_|refine XL.storeP rfl rfl rfl rfl rfl rfl ?_|refine XL.nn ?_)<;>refine X.draw (.a 0 (.b 1 (.a 3 (.b 4 (.b 5 (.c 2 (.c 6 (.a 7 (.c 8 (.c 9 (.a 10 (.f 11 .n)))))))))))) mixed (by kernel_rfl) ?_<;>repeat' first|(refine XL.at 2 ?_;((refine XL.call rfl rfl rfl rfl (fun w hw => CloneR_spec w ar cr s.r (hw.vrd (a := ar) (hrw.conf0 hw)) (by omega)) ?_; rintro v B' ⟨a3, c3, rfl, rfl⟩; refine XL.both ?_)))|(refine XL.at 6 ?_;((refine XL.call rfl rfl rfl rfl (fun w hw => Sectors_spec w z.o z.a z.b z.c z.d (hzo.conf0 hw).1 hLz.2.2.1) ?_; rintro v B' ⟨rfl, rfl⟩; refine XL.both ?_)))|(refine XL.at 9 ?_;((refine XL.append rfl rfl rfl rfl rfl rfl ?_ ?_ (fun a' c' => ?_); (focus (skip; unfold maxLen; omega)); (focus (intro _ _; infer_instance))); rw [encK_snoc s.r (z.o.sq, secs z.o.ps, 0), show s.r.length + 1 = (s.r ++ [((z.o.sq, secs z.o.ps, 0) : Kr)]).length from (by simp)]))|refine Z.fa rfl rfl rfl ?_|refine Z.l1 rfl rfl rfl ?_|refine Z.lN rfl rfl rfl ?_|refine Z.lP rfl rfl rfl ?_|refine Z.bd rfl rfl ?_|refine XL.slice1 rfl rfl rfl rfl rfl rfl (by intro g; infer_instance) (fun g_ => ?_)|refine XL.store1 rfl rfl rfl rfl rfl ?_|refine XL.storeN rfl rfl rfl rfl rfl rfl ?_|refine XL.storeP rfl rfl rfl rfl rfl rfl ?_|refine XL.nil ?_)))))<;>(first|refine N.block ?_|refine Ex.here ?_|refine Ex.out rfl ?_))<;>(first|refine Ex.then ?_|refine N.next ?_<;>(refine X.tx (by kernel_rfl) ?_<;>repeat' first|refine Z.p rfl ?_|(refine XL.at 0 ?_;((obtain ⟨s2, hs2⟩ : ∃ s2 : Ck, s2 = foldC s z.o := ⟨_, rfl⟩); refine XL.mem (B := vw 3 b c.r.length d (encK c.r) 83 3 a' s2.r.length c' (encK s2.r) :: [cells gm [.slice am2 (List.length lm2) cm2] 104, own 63 4 (.slice am2 (List.length lm2) cm2) (List.length lm2) (encE lm2), cells g2 [.int .u64 ((s2.k : Nat) : Int), .int .i64 s2.ep, .int .i64 s2.sq, .int .i64 s2.up, .int .i64 s2.sz, .slice a s2.m.length n, .slice a' s2.r.length c', .string ⟨List.toArray s2.nt⟩] 26, own 63 4 (.slice none (List.length (([] : List Ext))) 0) (List.length (([] : List Ext))) (encE (([] : List Ext))), own 83 3 (.slice none (List.length (([] : List Kr))) 0) (List.length (([] : List Kr))) (encK (([] : List Kr))), cells g4 [.int .u64 0, .int .i64 0, .int .i64 0, .int .i64 0, .int .i64 0, .slice none 0 0, .slice none 0 0, .string ByteArray.empty] 26]) (fun w h => by subst hs2; exact Conf.vwOwn (h.takes : Conf _ (own 83 3 (.slice a' (List.length (s.r ++ [((z.o.sq, secs z.o.ps, 0) : Kr)])) c') (List.length (s.r ++ [((z.o.sq, secs z.o.ps, 0) : Kr)])) (encK (s.r ++ [((z.o.sq, secs z.o.ps, 0) : Kr)])) :: [cells gm [.slice am2 (List.length lm2) cm2] 104, own 63 4 (.slice am2 (List.length lm2) cm2) (List.length lm2) (encE lm2), cells g2 [.int .u64 ((s.k : Nat) : Int), .int .i64 z.o.ep, .int .i64 z.o.sq, .int .i64 z.o.up, .int .i64 s.sz, .slice a s.m.length n, .slice a' (s.r ++ [((z.o.sq, secs z.o.ps, 0) : Kr)]).length c', .string ⟨List.toArray s.nt⟩] 26, own 63 4 (.slice none (List.length (([] : List Ext))) 0) (List.length (([] : List Ext))) (encE (([] : List Ext))), own 83 3 (.slice none (List.length (([] : List Kr))) 0) (List.length (([] : List Kr))) (encK (([] : List Kr))), cells g4 [.int .u64 0, .int .i64 0, .int .i64 0, .int .i64 0, .int .i64 0, .slice none 0 0, .slice none 0 0, .string ByteArray.empty] 26]) w)) ?_; refine Z.g rfl (by omega) ?_))|refine XL.nil ?_))))) <;> (first | refine Ex.then ?_ | ((refine N.again ((i + 1, s2, a', c', am2, cm2, lm2)) ?_ ?_ ?_ ?_; (focus (exact ⟨hil, by dsimp only; rw [hs2, hs, foldN_succ hzm], hO.step hzm (by rw [← hs]; exact h5'), hM3⟩)); (focus (first | omega | (dsimp only; omega))); (focus (repeat (first | exact Sub.nil | refine Sub.cons rfl ?_))); exact (fun w h => h.takes)))))<;>(first|refine N.block ?_|refine Ex.here ?_|refine Ex.out rfl ?_))<;>(first|refine Ex.then ?_|refine N.next ?_<;>((refine X.st (by kernel_rfl) ?_<;>repeat' first|refine Z.p rfl ?_|(refine XL.at 1 ?_;((obtain rfl : i = l.length := (by omega)); have hn5 := rise_len lm 0 hM.rise (by omega); have hml : (l.map Ob.o).length = l.length := (List.length_map _); have hok : okN c (l.map Ob.o) (l.map Ob.o).length := (by rw [hml]; exact hO); have hns : numsK s := (by rw [hs]; exact hO.nums (by omega) k1); have hsr : s.r.length = c.r.length + l.length := (by rw [hs]; exact foldN_rlen (by omega)); (refine XL.call rfl rfl rfl rfl (fun w hw => All_spec w gm am cm lm (hw.cellAt (Loc.at_) rfl) (hw.rd (a := am)) (by omega)) ?_; rintro v B' ⟨a8, c8, rfl, rfl⟩; refine XL.both ?_)))|refine Z.fa rfl rfl rfl ?_|refine XL.store1 rfl rfl rfl rfl rfl ?_|refine XL.storeN rfl rfl rfl rfl rfl rfl ?_|refine XL.storeP rfl rfl rfl rfl rfl rfl ?_|refine XL.nn ?_)<;>(refine X.st (by kernel_rfl) ?_<;>repeat' first|(refine XL.at 1 ?_;((refine XL.call rfl rfl rfl rfl (fun w hw => counted_spec w ⟨s.k, s.ep, s.sq, s.up, s.sz, lm, s.r, s.nt⟩ a8 ar c8 cr (hw.rd (a := a8)) (hw.vrd (a := ar) (hrw.conf0 hw)) hM.rise (by dsimp only; omega)) ?_; rintro v B' ⟨a9, c9, q, rfl, hq, rfl⟩; refine XL.both ?_); (obtain ⟨x, hx⟩ : ∃ x : Ck, x = ⟨s.k, s.ep, s.sq, s.up, s.sz, lm, q, s.nt⟩ := ⟨_, rfl⟩)))|refine Z.l1 rfl rfl rfl ?_|refine Z.lN rfl rfl rfl ?_|refine Z.lP rfl rfl rfl ?_|refine Z.fa rfl rfl rfl ?_|refine XL.store1 rfl rfl rfl rfl rfl ?_|refine XL.storeN rfl rfl rfl rfl rfl rfl ?_|refine XL.storeP rfl rfl rfl rfl rfl rfl ?_|refine XL.nn ?_)<;>refine X.seq ?_<;>((refine X.st (by kernel_rfl) ?_<;>repeat' first|(refine XL.at 1 ?_;(have hend : IsEnd c (l.map Ob.o) ⟨s.k, s.ep, s.sq, s.up, s.sz, lm, q, s.nt⟩ := (⟨by rw [hml]; exact hM, by dsimp only; rw [hml, ← hs, hq]⟩); (refine XL.call rfl rfl rfl rfl (fun w hw => kBytes_spec w ⟨s.k, s.ep, s.sq, s.up, s.sz, lm, q, s.nt⟩ a8 a9 c8 c9 (hw.rd (a := a8)) (hw.rd (a := a9)) hns hM.rise.pos (hend.rows hok (okR_of k3.1 k1 k2.rise)) (by dsimp only; omega) (by dsimp only; rw [hq, cntK_len]; dsimp only; omega) (by dsimp only; rw [hs, (foldN_same c _ _).2.2.2]; exact hb3)) ?_; rintro v B' ⟨rfl, rfl⟩; refine XL.both ?_)))|(refine XL.at 3 ?_;(refine Z.cs rfl (fun h9 => ?_) (fun h9 => ?_)))|refine Z.l1 rfl rfl rfl ?_|refine Z.lN rfl rfl rfl ?_|refine Z.lP rfl rfl rfl ?_|refine Z.ln rfl rfl ?_|refine Z.lnL rfl rfl ?_|refine Z.lnS rfl rfl ?_|refine XL.nn ?_)<;>(refine X.cond rfl ?_ ?_;rotate_left;(focus (intro hc;first|exact no_ hc rfl|(refine X.skip ?_)));rotate_right;(focus (intro hc;first|exact no_ hc rfl|((refine X.st (by kernel_rfl) ?_<;>repeat' first|refine Z.p rfl ?_|refine Z.bd rfl rfl ?_|refine XL.store1 rfl rfl rfl rfl rfl ?_|refine XL.storeN rfl rfl rfl rfl rfl rfl ?_|refine XL.storeP rfl rfl rfl rfl rfl rfl ?_|refine XL.nn ?_)<;>(apply X.r2 Tryz.results12 (RV.of rfl) (RV.tmp rfl);(focus (first | exact ⟨zK, chkK c, none, none, 0, 0, rfl, .inl ⟨h1, rfl, rfl⟩, (rfl : [own 63 4 (.slice none (List.length (([] : List Ext))) 0) (List.length (([] : List Ext))) (encE (([] : List Ext))), own 83 3 (.slice none (List.length (([] : List Kr))) 0) (List.length (([] : List Kr))) (encK (([] : List Kr)))] = _)⟩ | exact ⟨zK, mayK s z.o, none, none, 0, 0, rfl, .inr ⟨Decidable.not_not.1 h1, .inl ⟨i, z.o, hzm, hO, by rw [← hs]; exact h5, by rw [← hs], rfl⟩⟩, (rfl : [own 63 4 (.slice none (List.length (([] : List Ext))) 0) (List.length (([] : List Ext))) (encE (([] : List Ext))), own 83 3 (.slice none (List.length (([] : List Kr))) 0) (List.length (([] : List Kr))) (encK (([] : List Kr)))] = _)⟩ | exact ⟨zK, 31, none, none, 0, 0, rfl, .inr ⟨Decidable.not_not.1 h1, .inr ⟨hok, _, hend, .inr ⟨by omega, rfl, rfl⟩⟩⟩, (rfl : [own 63 4 (.slice none (List.length (([] : List Ext))) 0) (List.length (([] : List Ext))) (encE (([] : List Ext))), own 83 3 (.slice none (List.length (([] : List Kr))) 0) (List.length (([] : List Kr))) (encK (([] : List Kr)))] = _)⟩ | exact ⟨⟨s.k, s.ep, s.sq, s.up, s.sz, lm, q, s.nt⟩, 0, a8, a9, c8, c9, rfl, .inr ⟨Decidable.not_not.1 h1, .inr ⟨hok, _, hend, .inl ⟨by omega, rfl, rfl⟩⟩⟩, (rfl : [own 63 4 (.slice a8 (List.length lm) c8) (List.length lm) (encE lm), own 83 3 (.slice a9 (List.length q) c9) (List.length q) (encK q)] = _)⟩));exact fun _=>Conf.takes))))))<;>(first|refine Ex.then ?_|refine N.next ?_<;>((refine X.st (by kernel_rfl) ?_<;>repeat' first|refine Z.p rfl ?_|refine Z.l1 rfl rfl rfl ?_|refine Z.lN rfl rfl rfl ?_|refine Z.lP rfl rfl rfl ?_|refine XL.store1 rfl rfl rfl rfl rfl ?_|refine XL.storeN rfl rfl rfl rfl rfl rfl ?_|refine XL.storeP rfl rfl rfl rfl rfl rfl ?_|refine XL.nn ?_)<;>(apply X.r2 Tryz.results12 (RV.of rfl) (RV.tmp rfl);(focus (first | exact ⟨zK, chkK c, none, none, 0, 0, rfl, .inl ⟨h1, rfl, rfl⟩, (rfl : [own 63 4 (.slice none (List.length (([] : List Ext))) 0) (List.length (([] : List Ext))) (encE (([] : List Ext))), own 83 3 (.slice none (List.length (([] : List Kr))) 0) (List.length (([] : List Kr))) (encK (([] : List Kr)))] = _)⟩ | exact ⟨zK, mayK s z.o, none, none, 0, 0, rfl, .inr ⟨Decidable.not_not.1 h1, .inl ⟨i, z.o, hzm, hO, by rw [← hs]; exact h5, by rw [← hs], rfl⟩⟩, (rfl : [own 63 4 (.slice none (List.length (([] : List Ext))) 0) (List.length (([] : List Ext))) (encE (([] : List Ext))), own 83 3 (.slice none (List.length (([] : List Kr))) 0) (List.length (([] : List Kr))) (encK (([] : List Kr)))] = _)⟩ | exact ⟨zK, 31, none, none, 0, 0, rfl, .inr ⟨Decidable.not_not.1 h1, .inr ⟨hok, _, hend, .inr ⟨by omega, rfl, rfl⟩⟩⟩, (rfl : [own 63 4 (.slice none (List.length (([] : List Ext))) 0) (List.length (([] : List Ext))) (encE (([] : List Ext))), own 83 3 (.slice none (List.length (([] : List Kr))) 0) (List.length (([] : List Kr))) (encK (([] : List Kr)))] = _)⟩ | exact ⟨⟨s.k, s.ep, s.sq, s.up, s.sz, lm, q, s.nt⟩, 0, a8, a9, c8, c9, rfl, .inr ⟨Decidable.not_not.1 h1, .inr ⟨hok, _, hend, .inl ⟨by omega, rfl, rfl⟩⟩⟩, (rfl : [own 63 4 (.slice a8 (List.length lm) c8) (List.length lm) (encE lm), own 83 3 (.slice a9 (List.length q) c9) (List.length q) (encK q)] = _)⟩));exact fun _=>Conf.takes))))))))
end Go.Lx

/- Package ckpt's statements: the chapter's example. -/
namespace Go.Lx
open Go.Proofs
set_option linter.unusedVariables false
set_option linter.unusedSimpArgs false
set_option maxRecDepth 20000
set_option maxHeartbeats 40000000
theorem Rd.krA {w : World} {a : Option Addr} {n c m : Nat} {xs : List Kr} {x : Kr} (h : Rd w 3 a n c (encK xs)) (hx : xs[m]? = some x) : w.cell? (el a (m * 3)) = some (.int .i64 x.1) ∧ w.cell? (el a (m * 3 + 1)) = some (.int .i64 x.2.1) ∧ w.cell? (el a (m * 3 + 2)) = some (.int .i64 x.2.2) :=
  ⟨by have := h.kr hx 0 _ rfl; rwa [el_add] at this, by have := h.kr hx 1 _ rfl; rwa [el_add] at this, by have := h.kr hx 2 _ rfl; rwa [el_add] at this⟩
theorem made128 : (madeCells #[Value.int IntKind.u8 0] (128 * 1)).toList = encY (List.replicate 128 0) := by kernel_rfl
def oK : Dob := ⟨3, 1, 1, 0, [⟨4, 2, 0, 0⟩], [], List.replicate 128 0⟩
def cN (k : Nat) (sz : Int) : Ck := ⟨k, 1, 0, 0, sz, [], [], []⟩
theorem chk_oK : chkD oK = 0 := by
  have h1 : NumsD oK := by unfold NumsD oK; simp
  have h2 : LaidP oK := by
    refine ⟨by decide, by decide, fun i x hi hx => ?_, SetOK.nil _, fun t _ ⟨y, hy, _⟩ => by cases hy⟩
    have hi2 : i < 1 := hi
    obtain rfl : i = 0 := by omega
    cases hx
    exact ⟨⟨by unfold mayS; decide, .inl ⟨rfl, rfl⟩⟩, fun y h => absurd h (by decide)⟩
  refine chkD_of h1 h2 (by decide) ?_
  have e1 := (dobB_drop oK).1
  have e2 := headD_len oK
  have e3 : oK.d.length = 128 := List.length_replicate
  have e4 : oK.ps.length = 1 := rfl
  have e5 : oK.cs.length = 0 := rfl
  rw [e1, sealS_len]
  omega
theorem chk_new {k : Nat} {sz : Int} (h : 1 ≤ sz ∧ sz ≤ 65536) : chkK (cN k sz) = 0 := by
  refine chkK_of ⟨(by decide : (1 : Int) ≤ 1 ∧ (1 : Int) < 1099511627776), (by decide : (0 : Int) ≤ 0 ∧ (0 : Int) < 1099511627776), (by decide : (0 : Int) ≤ 0 ∧ (0 : Int) < 1099511627776), h⟩ ⟨fun i x hi => absurd hi (Nat.not_lt_zero _), trivial, fun x hx => (List.not_mem_nil hx).elim⟩ ⟨fun i x hi => absurd hi (Nat.not_lt_zero _), fun x hx => (List.not_mem_nil hx).elim⟩ (Nat.zero_le _) ?_
  have h1 := bodK_len (cN k sz)
  have h2 := stK_len (cN k sz)
  have e1 : (cN k sz).m.length = 0 := rfl
  have e2 : (cN k sz).r.length = 0 := rfl
  have e3 : (cN k sz).nt.length = 0 := rfl
  omega
def dK : Ck := ⟨3, 1, 1, 0, 20, [⟨4, 2, 1, 0⟩], [(1, 2, 2)], []⟩
theorem fold_awake {d : Ck} {e : Int} (h : FoldR (cN 3 20) [oK] d e) : e = 0 ∧ d = dK := by
  have hk : FoldR (cN 3 20) [oK] dK 0 := by
    refine .inr ⟨chk_new ⟨by decide, by decide⟩, .inr ⟨fun j p hj hp => ?_, dK, ⟨⟨⟨by decide, by unfold inE; decide, trivial⟩, trivial, fun t p => ?_⟩, rfl⟩, .inl ⟨?_, rfl, rfl⟩⟩⟩
    · have hj1 : j < 1 := hj
      obtain rfl : j = 0 := by omega
      cases hp
      refine mayK_of chk_oK rfl rfl (by decide) (by decide) (fun x hx => ?_) (fun y hy => (List.not_mem_nil hy).elim)
      obtain rfl : x = ⟨4, 2, 0, 0⟩ := by simpa [oK] using hx
      decide
    · have hs : sigN (cN 3 20) [oK] 1 = updE noneS ⟨4, 2, 1, 0⟩ := by
        show applyS noneS oK = _
        show stepS 1 noneS 0 ⟨4, 2, 0, 0⟩ = _
        unfold stepS
        rw [if_pos ⟨rfl, rfl⟩]
      show atE [⟨4, 2, 1, 0⟩] t p ↔ sigN (cN 3 20) [oK] 1 t = some p
      rw [hs, atE_one]
      unfold updE
      dsimp only
      by_cases ht : 4 ≤ t ∧ t < 4 + 2
      · rw [if_pos ht]
        constructor
        · rintro ⟨_, _, rfl⟩; rfl
        · intro hh; cases hh; exact ⟨ht.1, ht.2, rfl⟩
      · rw [if_neg ht]
        constructor
        · rintro ⟨g1, g2, _⟩; exact absurd ⟨g1, g2⟩ ht
        · intro hh; cases hh
    · have h1 := bodK_len dK
      have h2 := stK_len dK
      have e1 : dK.m.length = 1 := rfl
      have e2 : dK.r.length = 1 := rfl
      have e3 : dK.nt.length = 0 := rfl
      omega
  obtain ⟨h1, h2⟩ := h.unique hk
  exact ⟨h2, h1⟩
def valOb (x : Ob) : Value := .agg (encOb1 x).toArray
theorem kAwake_spec (w : World) : Spec Tryz.prog 11 #[] w (fun _ => False) (fun v A => v = .bool true ∧ A = []) := by
  refine Spec.enter (args := []) (A := []) Tryz.func11 rfl Tryz.ntmps11 rfl (fun _ h => h) ?_
  ((refine X.st (by kernel_rfl) ?_<;>repeat' first|refine Z.p rfl ?_|refine XL.nn ?_)<;>refine X.meet (ι := Nat × Nat) (fun y => [(0, .bool false), (1, .pointer (some ⟨y.2, 0, none⟩))]) (fun y => [cells y.2 [.int .u64 3, .int .i64 1, .int .i64 1, .int .i64 0, .slice (some ⟨y.1, 0, none⟩) 1 1, .slice none 0 0, .string ⟨List.toArray (List.replicate 128 0)⟩] 48, own 78 4 (.slice (some ⟨y.1, 0, none⟩) 1 1) 1 ([(⟨4, 2, 0, 0⟩ : Ext)].flatMap encE1)]) (fun _ => True) ?_ ?_;(focus (refine X.draw (.a 0 (.br (.c 1 (.br (.c 2 (.br (.c 3 (.br (.c 4 (.a 5 (.c 6 (.f 7 .n)))) (.c 6 (.c 4 (.a 5 (.f 7 .n)))))) (.c 6 (.c 3 (.c 4 (.a 5 (.f 7 .n))))))) (.br (.c 3 (.br (.c 2 (.br (.c 4 (.a 5 (.c 6 (.f 7 .n)))) (.c 6 (.c 4 (.a 5 (.f 7 .n)))))) (.br (.c 4 (.br (.c 2 (.a 5 (.c 6 (.f 7 .n)))) (.c 6 (.c 2 (.a 5 (.f 7 .n)))))) (.c 6 (.br (.c 2 (.c 4 (.a 5 (.f 7 .n)))) (.c 4 (.c 2 (.a 5 (.f 7 .n))))))))) (.c 6 (.br (.c 2 (.c 3 (.c 4 (.a 5 (.f 7 .n))))) (.c 3 (.br (.c 2 (.c 4 (.a 5 (.f 7 .n)))) (.c 4 (.c 2 (.a 5 (.f 7 .n))))))))))) (.br (.c 3 (.br (.c 1 (.br (.c 2 (.br (.c 4 (.a 5 (.c 6 (.f 7 .n)))) (.c 6 (.c 4 (.a 5 (.f 7 .n)))))) (.br (.c 4 (.br (.c 2 (.a 5 (.c 6 (.f 7 .n)))) (.c 6 (.c 2 (.a 5 (.f 7 .n)))))) (.c 6 (.br (.c 2 (.c 4 (.a 5 (.f 7 .n)))) (.c 4 (.c 2 (.a 5 (.f 7 .n))))))))) (.br (.c 4 (.br (.c 1 (.br (.c 2 (.a 5 (.c 6 (.f 7 .n)))) (.c 6 (.c 2 (.a 5 (.f 7 .n)))))) (.c 6 (.c 1 (.c 2 (.a 5 (.f 7 .n))))))) (.c 6 (.br (.c 1 (.br (.c 2 (.c 4 (.a 5 (.f 7 .n)))) (.c 4 (.c 2 (.a 5 (.f 7 .n)))))) (.c 4 (.c 1 (.c 2 (.a 5 (.f 7 .n)))))))))) (.c 6 (.br (.c 1 (.br (.c 2 (.c 3 (.c 4 (.a 5 (.f 7 .n))))) (.c 3 (.br (.c 2 (.c 4 (.a 5 (.f 7 .n)))) (.c 4 (.c 2 (.a 5 (.f 7 .n)))))))) (.c 3 (.br (.c 1 (.br (.c 2 (.c 4 (.a 5 (.f 7 .n)))) (.c 4 (.c 2 (.a 5 (.f 7 .n)))))) (.c 4 (.c 1 (.c 2 (.a 5 (.f 7 .n)))))))))))) mixed (by kernel_rfl) ?_<;>repeat' first|(refine XL.at 1 ?_;((refine XL.call rfl rfl rfl rfl (fun w hw => lPart_spec 4 2 0 0 w) ?_; rintro v B' ⟨rfl, rfl⟩; refine XL.both ?_)))|(refine XL.at 2 ?_;((refine XL.sliceL vE4 encE1 [⟨4, 2, 0, 0⟩] (fun _ => rfl) (fun _ => rfl) rfl rfl rfl rfl rfl rfl (fun _ => by infer_instance) (fun gA => ?_))))|(refine XL.at 3 ?_;((refine XL.make (n := 128) rfl rfl rfl rfl rfl ⟨by decide, by unfold maxLen; decide⟩ (by intro g; infer_instance) (fun gm => ?_))))|(refine XL.at 4 ?_;((apply XL.detC rfl rfl rfl rfl; exact D.toStr (List.replicate 128 0) rfl rfl (fun w hw => by have := hw.rd (a := some ⟨gm, 0, none⟩); rwa [made128] at this))))|(refine XL.at 6 ?_;(refine XL.alloc rfl rfl rfl (by intro g; infer_instance) (fun g1 => ?_)))|refine Z.bd rfl rfl ?_|refine XL.store1 rfl rfl rfl rfl rfl ?_|refine XL.storeN rfl rfl rfl rfl rfl rfl ?_|refine XL.storeP rfl rfl rfl rfl rfl rfl ?_|refine XL.br ?_ ?_|refine XL.nil ?_<;>(refine N.meet ((gA, g1)) (trivial) ?_ ?_;(focus (repeat (first|exact Sub.nil|refine Sub.cons rfl ?_)));exact fun _=>Conf.takes)));(rintro ⟨gA, g1⟩ _<;>(dsimp only)<;>(refine X.meet (ι := Nat × Option Addr × Nat × Option Addr × Nat) (fun y => [(0, .bool false), (2, .pointer (some ⟨y.1, 0, none⟩)), (3, .int .i64 0)]) (fun y => [cells y.1 [.int .u64 ((dK.k : Nat) : Int), .int .i64 dK.ep, .int .i64 dK.sq, .int .i64 dK.up, .int .i64 dK.sz, .slice y.2.1 dK.m.length y.2.2.1, .slice y.2.2.2.1 dK.r.length y.2.2.2.2, .string ⟨List.toArray dK.nt⟩] 26, own 63 4 (.slice y.2.1 (List.length dK.m) y.2.2.1) (List.length dK.m) (encE dK.m), own 83 3 (.slice y.2.2.2.1 (List.length dK.r) y.2.2.2.2) (List.length dK.r) (encK dK.r)]) (fun _ => True) ?_ ?_;(focus (refine X.draw (.b 1 (.br (.c 0 (.br (.c 2 (.br (.c 3 (.a 4 (.a 5 (.a 6 (.c 7 (.f 8 (.a 9 .n))))))) (.c 7 (.c 3 (.a 4 (.a 5 (.a 6 (.f 8 (.a 9 .n))))))))) (.c 7 (.c 2 (.c 3 (.a 4 (.a 5 (.a 6 (.f 8 (.a 9 .n)))))))))) (.br (.c 2 (.br (.c 0 (.br (.c 3 (.a 4 (.a 5 (.a 6 (.c 7 (.f 8 (.a 9 .n))))))) (.c 7 (.c 3 (.a 4 (.a 5 (.a 6 (.f 8 (.a 9 .n))))))))) (.c 7 (.c 0 (.c 3 (.a 4 (.a 5 (.a 6 (.f 8 (.a 9 .n)))))))))) (.c 7 (.br (.c 0 (.c 2 (.c 3 (.a 4 (.a 5 (.a 6 (.f 8 (.a 9 .n)))))))) (.c 2 (.c 0 (.c 3 (.a 4 (.a 5 (.a 6 (.f 8 (.a 9 .n))))))))))))) mixed (by kernel_rfl) ?_<;>repeat' first|refine Z.p rfl ?_|(refine XL.at 0 ?_;((refine XL.call rfl rfl rfl rfl (fun w hw => kNew_spec w 3 20) ?_; rintro v B' ⟨rfl, rfl⟩; refine XL.both ?_)))|(refine XL.at 2 ?_;((refine XL.sliceL valOb encOb1 [⟨oK, some ⟨gA, 0, none⟩, 1, none, 0⟩] (fun _ => rfl) (fun _ => rfl) rfl rfl rfl rfl rfl rfl (fun _ => by infer_instance) (fun gS => ?_))))|(refine XL.at 3 ?_;((refine XL.call rfl rfl rfl rfl (fun w hw => Fold_spec w (cN 3 20) none none (some ⟨gS, 0, none⟩) 0 0 1 [⟨oK, some ⟨gA, 0, none⟩, 1, none, 0⟩] (Rd.nil w 4) (Rd.nil w 3) (by decide) (show (0 : Nat) + 1 ≤ 900000 from by decide) (by decide) (hw.rd (a := some ⟨gS, 0, none⟩)) (fun x hx => by rw [List.mem_singleton] at hx; subst hx; exact ⟨hw.rd (a := some ⟨gA, 0, none⟩), Rd.nil w 2, (show (3 : Nat) < 18446744073709551616 from by decide), (show (List.replicate 128 (0 : UInt8)).length ≤ 1000000 from by decide)⟩)) ?_; rintro v B' ⟨x, e, a1, b1, n1, d1, rfl, hF, rfl⟩; refine XL.both ?_); (obtain ⟨rfl, rfl⟩ := fold_awake hF)))|(refine XL.at 7 ?_;(refine XL.alloc rfl rfl rfl (by intro g; infer_instance) (fun g2 => ?_)))|refine Z.l1 rfl rfl rfl ?_|refine Z.lN rfl rfl rfl ?_|refine Z.lP rfl rfl rfl ?_|refine XL.store1 rfl rfl rfl rfl rfl ?_|refine XL.storeN rfl rfl rfl rfl rfl rfl ?_|refine XL.storeP rfl rfl rfl rfl rfl rfl ?_|refine XL.br ?_ ?_|refine XL.nil ?_<;>(refine N.meet ((g2, a1, n1, b1, d1)) (trivial) ?_ ?_;(focus (repeat (first|exact Sub.nil|refine Sub.cons rfl ?_)));exact fun _=>Conf.takes)));(rintro ⟨g2, a1, n1, b1, d1⟩ _<;>(dsimp only)<;>((refine X.sd (.a 0 (.a 1 (.a 2 (.a 3 (.b 4 (.c 5 (.c 6 (.c 7 (.a 8 (.a 9 (.a 10 (.b 11 (.a 12 (.a 13 (.a 14 (.a 15 (.a 16 (.b 17 (.a 18 (.a 19 (.b 20 (.a 21 (.a 22 (.a 23 (.a 24 (.b 25 (.a 26 (.a 27 (.b 28 (.a 29 (.a 30 (.a 31 (.a 32 (.b 33 (.a 34 (.a 35 (.b 36 (.a 37 (.a 38 (.a 39 (.a 40 (.b 41 (.a 42 (.a 43 (.a 44 .n))))))))))))))))))))))))))))))))))))))))))))) mixed (by kernel_rfl) ?_<;>repeat' first|refine XL.skipC rfl rfl rfl rfl ?_|refine Z.p rfl ?_|(refine XL.at 5 ?_;((refine XL.call rfl rfl rfl rfl (fun w hw => lExt_spec 4 2 1 0 w) ?_; rintro v B' ⟨rfl, rfl⟩; refine XL.both ?_)))|(refine XL.at 6 ?_;((refine XL.sliceL vE4 encE1 [⟨4, 2, 1, 0⟩] (fun _ => rfl) (fun _ => rfl) rfl rfl rfl rfl rfl rfl (fun _ => by infer_instance) (fun gB => ?_))))|(refine XL.at 7 ?_;((refine XL.call rfl rfl rfl rfl (fun w hw => dSame07_spec w a1 (some ⟨gB, 0, none⟩) n1 1 dK.m [⟨4, 2, 1, 0⟩] (hw.rd (a := a1)) (hw.rd (a := some ⟨gB, 0, none⟩))) ?_; rintro v B' ⟨rfl, rfl⟩; refine XL.both ?_); rw [decide_eq_true (show dK.m = [(⟨4, 2, 1, 0⟩ : Ext)] from rfl)]))|(refine XL.at 13 ?_;(refine Z.ct rfl rfl ?_))|(refine XL.at 18 ?_;(refine XL.fact (fun w h => (h.rd (a := b1)).sm (by decide)) (fun hsome => ?_); refine Z.ix 0 rfl rfl rfl rfl (by decide) hsome ?_))|(refine XL.at 20 ?_;(refine Z.la rfl rfl (fun w hw => (Rd.krA (hw.rd (a := b1)) (m := 0) (x := (1, 2, 2)) rfl).1) ?_))|(refine XL.at 21 ?_;(refine Z.ct rfl rfl ?_))|(refine XL.at 26 ?_;(refine Z.ix 0 rfl rfl rfl rfl (by decide) hsome ?_))|(refine XL.at 28 ?_;(refine Z.la rfl rfl (fun w hw => (Rd.krA (hw.rd (a := b1)) (m := 0) (x := (1, 2, 2)) rfl).2.1) ?_))|(refine XL.at 29 ?_;(refine Z.ct rfl rfl ?_))|(refine XL.at 34 ?_;(refine Z.ix 0 rfl rfl rfl rfl (by decide) hsome ?_))|(refine XL.at 36 ?_;(refine Z.la rfl rfl (fun w hw => (Rd.krA (hw.rd (a := b1)) (m := 0) (x := (1, 2, 2)) rfl).2.2) ?_))|(refine XL.at 37 ?_;(refine Z.ct rfl rfl ?_))|(refine XL.at 42 ?_;(refine Z.ct rfl rfl ?_))|refine Z.ct rfl (by omega) ?_|refine Z.cf rfl (by omega) ?_|refine Z.cs rfl (fun _=>?_) (fun _=>?_)|refine Z.fa rfl rfl rfl ?_|refine Z.l1 rfl rfl rfl ?_|refine Z.lN rfl rfl rfl ?_|refine Z.lP rfl rfl rfl ?_|refine Z.pk rfl rfl rfl rfl ?_|refine Z.ln rfl rfl ?_|refine Z.lnL rfl rfl ?_|refine Z.lnS rfl rfl ?_|refine XL.nn ?_)<;>(apply X.r1 Tryz.results11 (RV.tmp rfl);(focus (exact ⟨rfl, rfl⟩));exact fun _=>Conf.takes))))))
end Go.Lx

/- What is folded of a new state may be, in however many calls: plain laws. -/
namespace Go.Lx
open Go.Proofs
set_option linter.unusedVariables false
set_option linter.unusedSimpArgs false

theorem stepS_some {sq p t : Int} {σ : Sig} {x : Ext} {s : Int × Int} (h : stepS sq σ p x t = some s) : (x.a ≤ t ∧ t < x.a + x.n ∧ s = (sq, p + (t - x.a))) ∨ σ t = some s := by
  unfold stepS at h
  split at h
  · unfold updE at h
    dsimp only at h
    split at h
    · rename_i ht; cases h; exact .inl ⟨ht.1, ht.2, rfl⟩
    · exact .inr h
  · unfold movS at h
    dsimp only at h
    split at h
    · rename_i ht; cases h; exact .inl ⟨ht.1, ht.2.1, rfl⟩
    · exact .inr h
theorem cuts_some : ∀ (l : List Sp) {σ : Sig} {t : Int} {s : Int × Int}, (l.foldl cutE σ) t = some s → σ t = some s
  | [], _, _, _, h => h
  | c :: l, σ, t, s, h => by
    have := cuts_some l h
    unfold cutE at this
    split at this
    · cases this
    · exact this
/-- What an object's parts made of a map. -/
structure OwnS (sq sz T : Int) (σ τ : Sig) : Prop where
  pos : 0 ≤ T
  of : ∀ t s, τ t = some s → (s.1 = sq ∧ 0 ≤ s.2 ∧ s.2 < T ∧ 0 ≤ t ∧ t < sz) ∨ (s.1 ≠ sq ∧ σ t = some s)
  inj : ∀ t u p, τ t = some (sq, p) → τ u = some (sq, p) → t = u
theorem partsN_own {σ : Sig} {sq sz : Int} {l : List Ext} (hnew : ∀ t s, σ t = some s → s.1 ≠ sq) (hl : ∀ (i : Nat) x, l[i]? = some x → 0 ≤ x.a ∧ 1 ≤ x.n ∧ x.a + x.n ≤ sz) : ∀ n, n ≤ l.length → OwnS sq sz (secs (l.take n)) σ (partsN σ sq l n)
  | 0, _ => ⟨Int.le_refl _, fun t s h => .inr ⟨hnew t s h, h⟩, fun t u p h => absurd rfl (hnew t _ h)⟩
  | n + 1, hn => by
    obtain ⟨x, hx⟩ := get_lt (l := l) (k := n) hn
    have ih := partsN_own hnew hl n (by omega)
    have hxl := hl n x hx
    rw [partsN_succ hx, take_snocE hx, secs_snoc]
    have hp := ih.pos
    refine ⟨by omega, fun t s h => ?_, fun t u p h k => ?_⟩
    · rcases stepS_some h with ⟨h1, h2, rfl⟩ | h1
      · exact .inl ⟨rfl, by dsimp only; omega, by dsimp only; omega, by omega, by omega⟩
      · rcases ih.of t s h1 with ⟨g1, g2, g3, g4⟩ | g
        · exact .inl ⟨g1, g2, by omega, g4⟩
        · exact .inr g
    · have old : ∀ {v}, partsN σ sq l n v = some (sq, p) → p < secs (l.take n) := fun hv => by
        rcases ih.of _ _ hv with ⟨_, _, g, _⟩ | ⟨g, _⟩
        · exact g
        · exact absurd rfl g
      rcases stepS_some h with ⟨h1, h2, h3⟩ | h1 <;> rcases stepS_some k with ⟨k1, k2, k3⟩ | k1
      · have a := congrArg Prod.snd h3
        have b := congrArg Prod.snd k3
        dsimp only at a b
        omega
      · have a := congrArg Prod.snd h3
        have b := old k1
        dsimp only at a
        omega
      · have a := congrArg Prod.snd k3
        have b := old h1
        dsimp only at a
        omega
      · exact ih.inj t u p h1 k1
/-- Where the sectors of a folded state stand. -/
structure InvS (sz : Int) (L : List Dob) (n : Nat) (σ : Sig) : Prop where
  of : ∀ t s, σ t = some s → 0 ≤ t ∧ t < sz ∧ ∃ (i : Nat) (o : Dob), i < n ∧ L[i]? = some o ∧ s.1 = o.sq ∧ 0 ≤ s.2 ∧ s.2 < secs o.ps
  inj : ∀ t u s, σ t = some s → σ u = some s → t = u
theorem InvS.step {sz : Int} {L : List Dob} {n : Nat} {σ : Sig} {o : Dob} (h : InvS sz L n σ) (ho : L[n]? = some o) (hsq : ∀ (i : Nat) p, i < n + 1 → L[i]? = some p → p.sq = (i : Int) + 1) (hl : ∀ (i : Nat) x, o.ps[i]? = some x → 0 ≤ x.a ∧ 1 ≤ x.n ∧ x.a + x.n ≤ sz) : InvS sz L (n + 1) (applyS σ o) := by
  have hos := hsq n o (by omega) ho
  have hnew : ∀ t s, (o.cs.foldl cutE σ) t = some s → s.1 ≠ o.sq := fun t s hs e => by
    obtain ⟨_, _, i, p, hi, hp, h1, _⟩ := h.of t s (cuts_some _ hs)
    have := hsq i p (by omega) hp
    omega
  have hO := partsN_own hnew hl o.ps.length (Nat.le_refl _)
  rw [List.take_length] at hO
  refine ⟨fun t s hs => ?_, fun t u s ht hu => ?_⟩
  · rcases hO.of t s hs with ⟨g1, g2, g3, g4, g5⟩ | ⟨_, g⟩
    · exact ⟨g4, g5, n, o, by omega, ho, g1, g2, g3⟩
    · obtain ⟨a, b, i, p, hi, q⟩ := h.of t s (cuts_some _ g)
      exact ⟨a, b, i, p, by omega, q⟩
  · rcases hO.of t s ht with ⟨g1, _⟩ | ⟨g1, g⟩
    · obtain ⟨a, b⟩ := s
      dsimp only at g1
      subst g1
      exact hO.inj t u b ht hu
    · rcases hO.of u s hu with ⟨k1, _⟩ | ⟨_, k⟩
      · exact absurd k1 g1
      · exact h.inj t u s (cuts_some _ g) (cuts_some _ k)
theorem okN.seq {c : Ck} {L : List Dob} (h0 : c.sq = 0) : ∀ {n : Nat}, okN c L n → n ≤ L.length → (foldN c L n).sq = n ∧ ∀ (i : Nat) p, i < n → L[i]? = some p → p.sq = (i : Int) + 1
  | 0, _, _ => ⟨by show c.sq = _; rw [h0]; rfl, fun i p hi => by omega⟩
  | n + 1, h, hn => by
    obtain ⟨o, ho⟩ := get_lt (l := L) (k := n) hn
    obtain ⟨h1, h2⟩ := okN.seq h0 (n := n) (fun j p hj hp => h j p (by omega) hp) (by omega)
    have h3 := (mayK_ok (h n o (by omega) ho)).2.2.1
    rw [h1] at h3
    rw [foldN_succ ho]
    refine ⟨by show o.sq = _; omega, fun i p hi hp => ?_⟩
    rcases Nat.lt_or_ge i n with g | g
    · exact h2 i p g hp
    · obtain rfl : i = n := by omega
      rw [ho] at hp; cases hp; exact h3
theorem okN.inv {k : Nat} {sz : Int} {L : List Dob} : ∀ {n : Nat}, okN (cN k sz) L n → n ≤ L.length → InvS sz L n (sigN (cN k sz) L n)
  | 0, _, _ => ⟨fun t s h => (by cases h), fun t u s h => (by cases h)⟩
  | n + 1, h, hn => by
    obtain ⟨o, ho⟩ := get_lt (l := L) (k := n) hn
    have ih := okN.inv (n := n) (fun j p hj hp => h j p (by omega) hp) (by omega)
    have hs := (okN.seq (c := cN k sz) rfl h hn).2
    rw [sigN_succ ho]
    obtain ⟨m1, _, _, _, _, m6, _⟩ := mayK_ok (h n o (by omega) ho)
    have hL := (chkD_ok m1).2.1
    refine ih.step ho hs (fun i x hx => ?_)
    have h1 := (hL.2.2.1 i x (lt_of_get hx) hx).1.1
    have h2 := m6 x (List.mem_of_getElem? hx)
    have h3 := (foldN_same (cN k sz) L n).2.1
    rw [h3] at h2
    unfold mayS at h1
    dsimp only at h1
    exact ⟨h1.1, h1.2.2.1, h2⟩
/-! ### counting -/
theorem rise_len2 : ∀ (l : List Ext) (lo : Int), Rise lo l → lo + (l.length : Int) ≤ endE lo l
  | [], lo, _ => by simp [endE]
  | x :: l, lo, h => by
    obtain ⟨h1, h2, h3⟩ := h
    have ih := rise_len2 l _ h3
    unfold inE at h2
    simp only [List.length_cons, endE]
    omega
theorem map_end {l : List Ext} {σ : Sig} {sz : Int} (h : IsMap l σ) (hs : ∀ t s, σ t = some s → t < sz) : ∀ x ∈ l, x.a + x.n ≤ sz := fun x hx => by
  have hi := (h.rise.mem hx).1
  unfold inE at hi
  have := hs _ _ ((h.at_ (x.a + x.n - 1) _).1 ⟨x, hx, by omega, by omega, rfl⟩)
  omega
theorem map_len {l : List Ext} {σ : Sig} {sz : Int} (h : IsMap l σ) (hsz : 0 ≤ sz) (hs : ∀ t s, σ t = some s → t < sz) : (l.length : Int) ≤ sz := by
  have h1 := rise_len2 l 0 h.rise
  have h2 := endE_le l 0 hsz (map_end h hs)
  omega
end Go.Lx
