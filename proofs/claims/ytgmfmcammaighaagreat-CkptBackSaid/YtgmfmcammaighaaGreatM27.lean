/- Texts Kc Kd Kk, merged: a claim has at most 60 files. -/
import Derived.Test.YtgmfmcammaighaaGreatM4
import Derived.Test.YtgmfmcammaighaaGreatM26
import Derived.Test.YtgmfmcammaighaaGreatM24
/- Package ckpt's walks: the rows, the bytes, Check, Encode, New. -/
namespace Go.Lx
open Go.Proofs
set_option linter.unusedVariables false
set_option linter.unusedSimpArgs false
set_option maxRecDepth 20000
set_option maxHeartbeats 4000000
/-- What stands in the map of the sectors, once the first rows are struck. -/
structure LivI (c : Ck) (i : Nat) (L : List (Int × Int)) : Prop where
  nodup : (keyM L).Nodup
  get : ∀ q, ¬ inK (c.r.take i) q → getI L q = liveN c.m q
  keys : ∀ q, q ∈ keyM L ↔ (∃ x ∈ c.m, x.q = q) ∧ ¬ inK (c.r.take i) q
theorem inK_take {l : List Kr} {i : Nat} {x : Kr} (hx : l[i]? = some x) (q : Int) : inK (l.take (i + 1)) q ↔ inK (l.take i) q ∨ x.1 = q := by
  unfold inK
  rw [take_snocE hx]
  constructor
  · rintro ⟨y, hy, h⟩
    rcases List.mem_append.1 hy with g | g
    · exact .inl ⟨y, g, h⟩
    · obtain rfl : y = x := by simpa using g
      exact .inr h
  · rintro (⟨y, hy, h⟩ | h)
    · exact ⟨y, List.mem_append_left _ hy, h⟩
    · exact ⟨x, by simp, h⟩
theorem LivI.step {c : Ck} {i : Nat} {L : List (Int × Int)} {x : Kr} (h : LivI c i L) (hx : c.r[i]? = some x) : LivI c (i + 1) (delM L x.1) := by
  obtain ⟨h1, h2⟩ := key_del x.1 L h.nodup
  refine ⟨h2, fun q hq => ?_, fun q => ?_⟩
  · rw [inK_take hx, not_or] at hq
    unfold getI
    rw [getM_del x.1 L h.nodup, if_neg (Ne.symm hq.2)]
    exact h.get q hq.1
  · rw [h1, h.keys, inK_take hx, not_or]
    constructor
    · rintro ⟨a, b, d⟩; exact ⟨b, d, Ne.symm a⟩
    · rintro ⟨b, d, a⟩; exact ⟨Ne.symm a, b, d⟩
theorem LivI.done {c : Ck} {L : List (Int × Int)} (h : LivI c c.r.length L) : L.length = 0 ↔ hasK c := by
  have hk : ∀ q, q ∈ keyM L ↔ (∃ x ∈ c.m, x.q = q) ∧ ¬ inK c.r q := fun q => by rw [h.keys, List.take_length]
  have hl : L.length = 0 ↔ keyM L = [] := by
    unfold keyM
    cases L <;> simp
  rw [hl]
  constructor
  · intro he x hx
    refine Classical.byContradiction fun hn => ?_
    have := (hk x.q).2 ⟨⟨x, hx, rfl⟩, hn⟩
    rw [he] at this
    cases this
  · intro ha
    refine List.eq_nil_iff_forall_not_mem.2 fun q hq => ?_
    obtain ⟨⟨x, hx, rfl⟩, hn⟩ := (hk q).1 hq
    exact hn (ha x hx)
theorem row_dec {c : Ck} {i : Nat} {L : List (Int × Int)} (h : LivI c i L) (hr : rowsN c i) (hi : i ≤ c.r.length) (q : Int) : (prevK c.r i < q ∧ getI L q = liveN c.m q) ∨ q ≤ prevK c.r i := by
  by_cases hq : prevK c.r i < q
  · exact .inl ⟨hq, h.get q (hr.fresh hi hq)⟩
  · exact .inr (by omega)
theorem rowed_spec (w : World) (c : Ck) (a b : Option Addr) (n d : Nat) (hl : Rd w 4 a c.m.length n (encE c.m)) (hrw : Rd w 3 b c.r.length d (encK c.r)) (hr : Rise 0 c.m) : Spec Tryz.prog 62 #[.agg #[.int .u64 ((c.k : Nat) : Int), .int .i64 c.ep, .int .i64 c.sq, .int .i64 c.up, .int .i64 c.sz, .slice a c.m.length n, .slice b c.r.length d, .string ⟨List.toArray c.nt⟩]] w (fun _ => False) (fun v A => ∃ f : Bool, v = .bool f ∧ (f = true ↔ rowedP c) ∧ A = []) := by
  have hbd := hrw.bd'
  refine Spec.enter (args := [.agg #[.int .u64 ((c.k : Nat) : Int), .int .i64 c.ep, .int .i64 c.sq, .int .i64 c.up, .int .i64 c.sz, .slice a c.m.length n, .slice b c.r.length d, .string ⟨List.toArray c.nt⟩]]) (A := []) Tryz.func62 rfl Tryz.ntmps62 rfl (fun _ h => h) ?_
  ((refine X.st (by kernel_rfl) ?_<;>repeat' first|refine Z.p rfl ?_|(refine XL.at 0 ?_;(refine XL.boxN rfl rfl rfl rfl (by intro g; infer_instance) (fun g1 => ?_)))|refine XL.nn ?_)<;>(refine X.st (by kernel_rfl) ?_<;>repeat' first|refine Z.p rfl ?_|(refine XL.at 1 ?_;((refine XL.call rfl rfl rfl rfl (fun w hw => lives_spec w c a b n d (hl.conf0 hw) hr) ?_; rintro v B' ⟨gm, L0, rfl, hN0, hG0, hK0, rfl⟩; refine XL.both ?_)))|refine Z.l1 rfl rfl rfl ?_|refine Z.lN rfl rfl rfl ?_|refine Z.lP rfl rfl rfl ?_|refine XL.nn ?_)<;>(refine X.st (by kernel_rfl) ?_<;>repeat' first|refine Z.p rfl ?_|refine XL.nn ?_)<;>refine X.seq ?_<;>((refine X.st (by kernel_rfl) ?_<;>repeat' first|refine Z.p rfl ?_|refine Z.fa rfl rfl rfl ?_|refine Z.l1 rfl rfl rfl ?_|refine Z.lN rfl rfl rfl ?_|refine Z.lP rfl rfl rfl ?_|refine Z.ln rfl rfl ?_|refine Z.lnL rfl rfl ?_|refine Z.lnS rfl rfl ?_|refine XL.nn ?_)<;>refine X.block ?_<;>((refine X.loop (ι := Nat × List (Int × Int)) (fun y => [(1, .pointer (some ⟨g1, 0, none⟩)), (3, .map (some gm)), (4, .int .i64 (prevK c.r y.1)), (10, .slice b c.r.length d), (11, .int .i64 c.r.length), (12, .int .i64 ((y.1 : Nat) : Int))]) (fun y => [mapA (Value.int .i64) gm y.2, cells g1 [.int .u64 ((c.k : Nat) : Int), .int .i64 c.ep, .int .i64 c.sq, .int .i64 c.up, .int .i64 c.sz, .slice a c.m.length n, .slice b c.r.length d, .string ⟨List.toArray c.nt⟩] 26]) (fun y => y.1 ≤ c.r.length ∧ rowsN c y.1 ∧ LivI c y.1 y.2) (fun y => c.r.length - y.1) ((0, L0)) ?_ ?_ ?_ ?_; (focus (exact ⟨Nat.zero_le _, fun _ _ h => by dsimp only at h; omega, hN0, fun q _ => hG0 q, fun q => by rw [hK0]; simp [inK]⟩)); (focus (repeat (first | exact Sub.nil | refine Sub.cons rfl ?_))); (focus (exact (fun w h => h.takes))); rintro ⟨i, L⟩ ⟨hi, hR, hL⟩; (dsimp only at *)) <;> ((refine X.st (by kernel_rfl) ?_<;>repeat' first|(refine XL.at 0 ?_;(refine Z.cs rfl (fun h3 => ?_) (fun h3 => ?_)))|refine XL.nn ?_)<;>refine X.seq ?_<;>((refine X.cond rfl ?_ ?_;rotate_left;(focus (intro hc;first|exact no_ hc rfl|(refine X.exit ?_)));rotate_right;(focus (intro hc;first|exact no_ hc rfl|(refine X.skip ?_)))))<;>(first|refine Ex.then ?_|refine N.next ?_<;>(refine X.seq ?_<;>(refine X.block ?_<;>((refine X.st (by kernel_rfl) ?_<;>repeat' first|(refine XL.at 0 ?_;(have hil : i < c.r.length := (by omega); (obtain ⟨x, hx⟩ := get_lt hil); refine Z.ix i rfl rfl rfl rfl hil (hrw.sm (by omega)) ?_))|(refine XL.at 1 ?_;(refine Z.lb rfl rfl rfl (fun w hw j u hu => Rd.kr (hrw.conf0 hw) hx j u hu) ?_))|(refine XL.at 2 ?_;(refine XL.alloc rfl rfl rfl (by intro g; infer_instance) (fun g6 => ?_)))|refine XL.store1 rfl rfl rfl rfl rfl ?_|refine XL.storeN rfl rfl rfl rfl rfl rfl ?_|refine XL.storeP rfl rfl rfl rfl rfl rfl ?_|refine XL.nn ?_)<;>refine X.seq ?_<;>((refine X.st (by kernel_rfl) ?_<;>repeat' first|refine Z.p rfl ?_|(refine XL.at 0 ?_;((rcases row_dec hL hR hi x.1 with ⟨hp, hgt⟩ | hp) <;> refine Z.fa rfl rfl rfl ?_))|refine Z.l1 rfl rfl rfl ?_|refine Z.lN rfl rfl rfl ?_|refine Z.lP rfl rfl rfl ?_|refine Z.ct rfl (by omega) ?_|refine Z.cf rfl (by omega) ?_|refine Z.cs rfl (fun _=>?_) (fun _=>?_)|refine Z.fa rfl rfl rfl ?_|refine Z.pk rfl rfl rfl rfl ?_|refine Z.lkI rfl rfl rfl ?_|refine Z.lk rfl rfl rfl ?_|refine Z.lkOk rfl rfl rfl ?_|refine XL.nn ?_)<;>(refine X.cond rfl ?_ ?_;rotate_left;(focus (intro hc;first|exact no_ hc rfl|(refine X.skip ?_)));rotate_right;(focus (intro hc;first|exact no_ hc rfl|((refine X.st (by kernel_rfl) ?_<;>repeat' first|refine Z.p rfl ?_|refine XL.nn ?_)<;>(apply X.r1 Tryz.results62 (RV.tmp rfl);(focus (first | exact ⟨true, rfl, iff_of_true rfl ⟨hR, hdn.1 (by omega)⟩, rfl⟩ | exact ⟨false, rfl, iff_of_false Bool.false_ne_true (fun h => h5 (by have := hdn.2 h.2; omega)), rfl⟩ | exact ⟨false, rfl, iff_of_false Bool.false_ne_true (fun h => by have := h.1 i x hil hx; unfold RowP at this; omega), rfl⟩));exact fun _=>Conf.takes))))))<;>(first|refine Ex.then ?_|refine N.next ?_<;>((refine X.st (by kernel_rfl) ?_<;>repeat' first|refine Z.p rfl ?_|refine Z.fa rfl rfl rfl ?_|refine Z.l1 rfl rfl rfl ?_|refine Z.lN rfl rfl rfl ?_|refine Z.lP rfl rfl rfl ?_|refine XL.nn ?_)<;>refine X.tx (by kernel_rfl) ?_<;>repeat' first|refine Z.p rfl ?_|(refine XL.at 3 ?_;(refine XL.mapDel rfl rfl rfl rfl ?_; rw [show (Value.int IntKind.i64 x.1) = .int .i64 (prevK c.r (i + 1)) from (by rw [prevK_succ hx])]))|refine Z.fa rfl rfl rfl ?_|refine Z.l1 rfl rfl rfl ?_|refine Z.lN rfl rfl rfl ?_|refine Z.lP rfl rfl rfl ?_|refine XL.nil ?_)))<;>(first|refine N.block ?_|refine Ex.here ?_|refine Ex.out rfl ?_))<;>(first|refine Ex.then ?_|refine N.next ?_<;>(refine X.tx (by kernel_rfl) ?_<;>repeat' first|refine Z.p rfl ?_|refine Z.g rfl (by omega) ?_|refine Z.w rfl ?_|refine XL.nil ?_))))) <;> (first | refine Ex.then ?_ | ((refine N.again ((i + 1, delM L x.1)) ?_ ?_ ?_ ?_; (focus (exact ⟨hil, hR.step hx (by unfold RowP; omega), hL.step hx⟩)); (focus (first | omega | (dsimp only; omega))); (focus (repeat (first | exact Sub.nil | refine Sub.cons rfl ?_))); exact (fun w h => h.takes)))))<;>(first|refine N.block ?_|refine Ex.here ?_|refine Ex.out rfl ?_))<;>(first|refine Ex.then ?_|refine N.next ?_<;>((refine X.st (by kernel_rfl) ?_<;>repeat' first|refine Z.p rfl ?_|(refine XL.at 1 ?_;((obtain rfl : i = c.r.length := (by omega)); have hdn := hL.done; refine Z.lnM rfl rfl ?_))|(refine XL.at 2 ?_;(refine Z.cs rfl (fun h5 => ?_) (fun h5 => ?_)))|refine XL.nn ?_)<;>(apply X.r1 Tryz.results62 (RV.tmp rfl);(focus (first | exact ⟨true, rfl, iff_of_true rfl ⟨hR, hdn.1 (by omega)⟩, rfl⟩ | exact ⟨false, rfl, iff_of_false Bool.false_ne_true (fun h => h5 (by have := hdn.2 h.2; omega)), rfl⟩ | exact ⟨false, rfl, iff_of_false Bool.false_ne_true (fun h => by have := h.1 i x hil hx; unfold RowP at this; omega), rfl⟩));exact fun _=>Conf.takes))))
theorem CloneR_spec (w : World) (a : Option Addr) (c : Nat) (l : List Kr) (hl : Rd w 3 a l.length c (encK l)) (hbd : l.length ≤ 1000000) : Spec Tryz.prog 36 #[.slice a l.length c] w (fun _ => False) (fun v A => ∃ a' c', v = .slice a' l.length c' ∧ A = [own 83 3 (.slice a' (List.length l) c') (List.length l) (encK l)]) := by
  have hn : a.isNone = true → l = [] := fun h => by
    rcases Nat.eq_zero_or_pos l.length with h0 | h0
    · exact List.length_eq_zero_iff.1 h0
    · have := hl.sm h0; cases a <;> simp at h this
  refine Spec.enter (args := [.slice a l.length c]) (A := []) Tryz.func36 rfl Tryz.ntmps36 rfl (fun _ h => h) ?_
  refine X.mem (B := [own 83 3 (.slice none 0 0) 0 []]) (fun w h => h.nilOwn 83 3) ?_
  ((refine X.st (by kernel_rfl) ?_<;>repeat' first|refine Z.p rfl ?_|refine XL.nn ?_)<;>refine X.seq ?_<;>((refine X.st (by kernel_rfl) ?_<;>repeat' first|refine Z.p rfl ?_|refine Z.eqN rfl rfl rfl ?_|refine XL.nn ?_)<;>(refine X.cond rfl ?_ ?_;rotate_left;(focus (intro hc;first|exact no_ hc rfl|(refine X.skip ?_)));rotate_right;(focus (intro hc;first|exact no_ hc rfl|((refine X.st (by kernel_rfl) ?_<;>repeat' first|refine Z.p rfl ?_|refine XL.nn ?_)<;>(apply X.r1 Tryz.results36 (RV.tmp rfl);(focus (first | (have h := hn (by assumption); subst h; exact ⟨none, 0, rfl, (rfl : [own 83 3 (.slice none 0 0) 0 []] = _)⟩) | exact ⟨_, _, rfl, rfl⟩));exact fun _=>Conf.takes))))))<;>(first|refine Ex.then ?_|refine N.next ?_<;>((refine X.st (by kernel_rfl) ?_<;>repeat' first|refine Z.p rfl ?_|(refine XL.at 2 ?_;((refine XL.appendR (news := encK l) rfl rfl rfl rfl rfl (fun w hw => hl.conf0 hw) (encK_one l) (by unfold maxLen; omega) (fun _ _ => by infer_instance) (fun a' c' => ?_)); rw [Nat.zero_add, List.nil_append]))|refine XL.slice0 rfl rfl rfl (by intro g; infer_instance) (fun g => ?_)|refine XL.nn ?_)<;>(apply X.r1 Tryz.results36 (RV.tmp rfl);(focus (first | (have h := hn (by assumption); subst h; exact ⟨none, 0, rfl, (rfl : [own 83 3 (.slice none 0 0) 0 []] = _)⟩) | exact ⟨_, _, rfl, rfl⟩));exact fun _=>Conf.takes))))
def cntK (m : List Ext) (l : List Kr) : List Kr := l.map fun r => (r.1, r.2.1, liveN m r.1)
theorem cntK_len (m : List Ext) (l : List Kr) : (cntK m l).length = l.length := by unfold cntK; rw [List.length_map]
theorem encK_put {q : List Kr} {i : Nat} {x : Kr} (hx : q[i]? = some x) (n : Int) : putAt (encK q) (i * 3 + 2) [.int .i64 n] = encK (q.set i (x.1, x.2.1, n)) := by
  rw [putAt_one _ _ _ (by rw [encK_len]; have := lt_of_get hx; omega)]
  exact set_flat encK1 3 (fun _ => rfl) 2 (by omega) _ (x.1, x.2.1, n) x rfl q i hx
theorem cnt_step {m : List Ext} {r : List Kr} {i : Nat} {x : Kr} (hx : r[i]? = some x) : (cntK m (r.take i) ++ r.drop i).set i (x.1, x.2.1, liveN m x.1) = cntK m (r.take (i + 1)) ++ r.drop (i + 1) := by
  have hil := lt_of_get hx
  have e : r.drop i = x :: r.drop (i + 1) := by
    rw [List.drop_eq_getElem_cons hil]
    rw [List.getElem?_eq_getElem hil] at hx
    cases hx
    rfl
  rw [List.set_append_right _ _ (by rw [cntK_len, List.length_take]; omega), cntK_len, List.length_take, show i - min i r.length = 0 from by omega, e, List.set_cons_zero, take_snocE hx]
  simp [cntK]
theorem counted_spec (w : World) (c : Ck) (a b : Option Addr) (n d : Nat) (hl : Rd w 4 a c.m.length n (encE c.m)) (hrw : Rd w 3 b c.r.length d (encK c.r)) (hr : Rise 0 c.m) (hbd : c.r.length ≤ 1000000) : Spec Tryz.prog 38 #[.agg #[.int .u64 ((c.k : Nat) : Int), .int .i64 c.ep, .int .i64 c.sq, .int .i64 c.up, .int .i64 c.sz, .slice a c.m.length n, .slice b c.r.length d, .string ⟨List.toArray c.nt⟩]] w (fun _ => False) (fun v A => ∃ a' c' q, v = .slice a' (List.length q) c' ∧ q = cntK c.m c.r ∧ A = [own 83 3 (.slice a' (List.length q) c') (List.length q) (encK q)]) := by
  refine Spec.enter (args := [.agg #[.int .u64 ((c.k : Nat) : Int), .int .i64 c.ep, .int .i64 c.sq, .int .i64 c.up, .int .i64 c.sz, .slice a c.m.length n, .slice b c.r.length d, .string ⟨List.toArray c.nt⟩]]) (A := []) Tryz.func38 rfl Tryz.ntmps38 rfl (fun _ h => h) ?_
  refine X.mem (B := [own 83 3 (.slice none 0 0) 0 []]) (fun w h => h.nilOwn 83 3) ?_
  ((refine X.st (by kernel_rfl) ?_<;>repeat' first|refine Z.p rfl ?_|(refine XL.at 0 ?_;(refine XL.boxN rfl rfl rfl rfl (by intro g; infer_instance) (fun g1 => ?_)))|refine XL.nn ?_)<;>(refine X.st (by kernel_rfl) ?_<;>repeat' first|refine Z.p rfl ?_|(refine XL.at 1 ?_;((refine XL.call rfl rfl rfl rfl (fun w hw => lives_spec w c a b n d (hl.conf0 hw) hr) ?_; rintro v B' ⟨gm, L, rfl, hN, hG, hK, rfl⟩; refine XL.both ?_)))|refine Z.l1 rfl rfl rfl ?_|refine Z.lN rfl rfl rfl ?_|refine Z.lP rfl rfl rfl ?_|refine XL.nn ?_)<;>(refine X.st (by kernel_rfl) ?_<;>repeat' first|refine Z.p rfl ?_|(refine XL.at 2 ?_;((refine XL.call rfl rfl rfl rfl (fun w hw => CloneR_spec w b d c.r (hrw.conf0 hw) hbd) ?_; rintro v B' ⟨a3, c3, rfl, rfl⟩; refine XL.both ?_); obtain ⟨q0, hq0⟩ : ∃ q0 : List Kr, q0 = c.r := ⟨_, rfl⟩; rw [show (own 83 3 (.slice a3 c.r.length c3) c.r.length (encK c.r)) = own 83 3 (.slice a3 c.r.length c3) c.r.length (encK q0) from (by rw [hq0])]))|refine Z.fa rfl rfl rfl ?_|refine Z.l1 rfl rfl rfl ?_|refine Z.lN rfl rfl rfl ?_|refine Z.lP rfl rfl rfl ?_|refine XL.nn ?_)<;>refine X.seq ?_<;>((refine X.st (by kernel_rfl) ?_<;>repeat' first|refine Z.p rfl ?_|refine Z.ln rfl rfl ?_|refine Z.lnL rfl rfl ?_|refine Z.lnS rfl rfl ?_|refine XL.nn ?_)<;>refine X.block ?_<;>((refine X.loop (ι := Nat × List Kr) (fun y => [(3, .map (some gm)), (4, .slice a3 c.r.length c3), (12, .int .i64 c.r.length), (13, .int .i64 ((y.1 : Nat) : Int))]) (fun y => [own 83 3 (.slice a3 c.r.length c3) c.r.length (encK y.2), mapA (Value.int .i64) gm L]) (fun y => y.1 ≤ c.r.length ∧ y.2 = cntK c.m (c.r.take y.1) ++ c.r.drop y.1) (fun y => c.r.length - y.1) ((0, q0)) ?_ ?_ ?_ ?_; (focus (exact ⟨Nat.zero_le _, by rw [hq0]; rfl⟩)); (focus (repeat (first | exact Sub.nil | refine Sub.cons rfl ?_))); (focus (exact (fun w h => h.takes))); rintro ⟨i, q⟩ ⟨hi, hq⟩; (dsimp only at *)) <;> ((refine X.st (by kernel_rfl) ?_<;>repeat' first|(refine XL.at 0 ?_;(refine Z.cs rfl (fun h3 => ?_) (fun h3 => ?_)))|refine XL.nn ?_)<;>refine X.seq ?_<;>((refine X.cond rfl ?_ ?_;rotate_left;(focus (intro hc;first|exact no_ hc rfl|(refine X.exit ?_)));rotate_right;(focus (intro hc;first|exact no_ hc rfl|(refine X.skip ?_)))))<;>(first|refine Ex.then ?_|refine N.next ?_<;>(refine X.seq ?_<;>(refine X.block ?_<;>((refine X.st (by kernel_rfl) ?_<;>repeat' first|(refine XL.at 0 ?_;(have hil : i < c.r.length := (by omega); (obtain ⟨x, hx⟩ := get_lt hil); have hxq : q[i]? = some x := (by rw [hq, List.getElem?_append_right (by rw [cntK_len, List.length_take]; omega), List.getElem?_drop, cntK_len, List.length_take, show i + (i - min i c.r.length) = i from by omega]; exact hx); have hGx := hG x.1; refine Z.p rfl ?_))|refine Z.p rfl ?_|refine XL.nn ?_)<;>refine X.tx (by kernel_rfl) ?_<;>repeat' first|refine Z.p rfl ?_|(refine XL.at 5 ?_;(refine XL.fact (fun w h => (h.rd (a := a3)).sm (by omega)) (fun hsome => ?_); refine Z.ix i rfl rfl rfl rfl hil hsome ?_))|(refine XL.at 7 ?_;(refine Z.la rfl rfl (fun w hw => (Rd.kr (hw.rd (a := a3)) hxq 0 _ rfl)) ?_))|(refine XL.at 9 ?_;(refine Z.ix i rfl rfl rfl rfl hil hsome ?_))|(refine XL.at 11 ?_;(refine XL.storeE (encK (q.set i (x.1, x.2.1, getI L x.1))) rfl rfl rfl rfl rfl (by omega) (encK_put hxq _) ?_))|refine Z.fa rfl rfl rfl ?_|refine Z.lkI rfl rfl rfl ?_|refine Z.lk rfl rfl rfl ?_|refine Z.lkOk rfl rfl rfl ?_|refine XL.nil ?_)<;>(first|refine N.block ?_|refine Ex.here ?_|refine Ex.out rfl ?_))<;>(first|refine Ex.then ?_|refine N.next ?_<;>(refine X.tx (by kernel_rfl) ?_<;>repeat' first|refine Z.p rfl ?_|refine Z.g rfl (by omega) ?_|refine Z.w rfl ?_|refine XL.nil ?_))))) <;> (first | refine Ex.then ?_ | ((refine N.again ((i + 1, q.set i (x.1, x.2.1, getI L x.1))) ?_ ?_ ?_ ?_; (focus (exact ⟨hil, by dsimp only; rw [hGx, hq]; exact cnt_step hx⟩)); (focus (first | omega | (dsimp only; omega))); (focus (repeat (first | exact Sub.nil | refine Sub.cons rfl ?_))); exact (fun w h => h.takes)))))<;>(first|refine N.block ?_|refine Ex.here ?_|refine Ex.out rfl ?_))<;>(first|refine Ex.then ?_|refine N.next ?_<;>((refine X.st (by kernel_rfl) ?_<;>repeat' first|refine Z.p rfl ?_|refine XL.nn ?_)<;>(apply X.r1 Tryz.results38 (RV.tmp rfl);(focus (have hqe : q = cntK c.m c.r := (by rw [hq, show i = c.r.length from (by omega), List.take_length, List.drop_length, List.append_nil]); have hql : q.length = c.r.length := (by rw [hqe, cntK_len]); exact ⟨a3, c3, q, by rw [hql], hqe, by rw [hql]⟩));exact fun _=>Conf.takes))))
theorem kNumbers_spec (w : World) (H : Nat → Prop) (g : Nat) (a al : Option Addr) (c cl : Nat) (l : Bs) (xs : List Int) (hown : Sep [cells g [.slice a (List.length l) c] 151, own 5 1 (.slice a (List.length l) c) (List.length l) (encY l)] w H) (hl : RdX w H 1 al xs.length cl (encN xs)) (hx : ∀ x ∈ xs, 0 ≤ x ∧ x < 9223372036854775808) (hbd : l.length + 9 * xs.length ≤ 1000000000) : Spec Tryz.prog 93 #[.pointer (some ⟨g, 0, none⟩), .slice al xs.length cl] w H (fun v A => ∃ a' c' o, v = .tuple #[] ∧ o = l ++ xs.flatMap (fun x => varB x.toNat) ∧ A = [cells g [.slice a' (List.length o) c'] 151, own 5 1 (.slice a' (List.length o) c') (List.length o) (encY o)]) := by
  refine Spec.enter (args := [.pointer (some ⟨g, 0, none⟩), .slice al xs.length cl]) (A := [cells g [.slice a (List.length l) c] 151, own 5 1 (.slice a (List.length l) c) (List.length l) (encY l)]) Tryz.func93 rfl Tryz.ntmps93 rfl hown ?_
  ((refine X.st (by kernel_rfl) ?_<;>repeat' first|refine Z.p rfl ?_|refine Z.ln rfl rfl ?_|refine Z.lnL rfl rfl ?_|refine Z.lnS rfl rfl ?_|refine XL.nn ?_)<;>refine X.block ?_<;>((refine X.loop (ι := Nat × Option Addr × Nat × Bs) (fun y => [(0, .pointer (some ⟨g, 0, none⟩)), (6, .slice al xs.length cl), (7, .int .i64 xs.length), (8, .int .i64 y.1)]) (fun y => [cells g [.slice y.2.1 (List.length y.2.2.2) y.2.2.1] 151, own 5 1 (.slice y.2.1 (List.length y.2.2.2) y.2.2.1) (List.length y.2.2.2) (encY y.2.2.2)]) (fun y => y.1 ≤ xs.length ∧ y.2.2.2 = l ++ (xs.take y.1).flatMap (fun x => varB x.toNat) ∧ y.2.2.2.length ≤ l.length + 9 * y.1) (fun y => xs.length - y.1) ((0, a, c, l)) ?_ ?_ ?_ ?_; (focus (exact ⟨Nat.zero_le _, by simp, by simp⟩)); (focus (repeat (first | exact Sub.nil | refine Sub.cons rfl ?_))); (focus (exact (fun w h => h.takes))); rintro ⟨i, a1, c1, o⟩ ⟨hi, ho, hol⟩; (dsimp only at *)) <;> ((refine X.st (by kernel_rfl) ?_<;>repeat' first|(refine XL.at 0 ?_;(refine Z.cs rfl (fun h1 => ?_) (fun h1 => ?_)))|refine XL.nn ?_)<;>refine X.seq ?_<;>((refine X.cond rfl ?_ ?_;rotate_left;(focus (intro hc;first|exact no_ hc rfl|(refine X.exit ?_)));rotate_right;(focus (intro hc;first|exact no_ hc rfl|(refine X.skip ?_)))))<;>(first|refine Ex.then ?_|refine N.next ?_<;>(refine X.seq ?_<;>(refine X.block ?_<;>((refine X.st (by kernel_rfl) ?_<;>repeat' first|refine Z.p rfl ?_|(refine XL.at 0 ?_;(have hil : i < xs.length := (by omega); (obtain ⟨x, hxi⟩ := get_lt hil); have hxl := hx x (List.mem_of_getElem? hxi); have hvl := varB_le x.toNat; refine Z.ix i rfl rfl rfl rfl hil (hl.rd.sm (by omega)) ?_))|(refine XL.at 1 ?_;(refine Z.la rfl rfl (fun w hw => Rd.intAt (hl.now hw) hxi) ?_))|refine XL.nn ?_)<;>refine X.tx (by kernel_rfl) ?_<;>repeat' first|refine Z.p rfl ?_|(refine XL.at 2 ?_;((apply XL.det0F rfl rfl rfl rfl; exact D.convI rfl hxl)))|(refine XL.at 3 ?_;((refine XL.sliceL (fun n : Nat => .int .u64 (n : Int)) encW1 [x.toNat] (fun _ => rfl) (fun _ => rfl) rfl rfl rfl rfl rfl rfl (fun _ => by infer_instance) (fun gy => ?_))))|(refine XL.at 4 ?_;((refine XL.callF [cells g [.slice a1 (List.length o) c1] 151, own 5 1 (.slice a1 (List.length o) c1) (List.length o) (encY o)] rfl rfl rfl rfl (fun w F hF hm hw => OVar_spec w F g a1 (some ⟨gy, 0, none⟩) c1 1 o [x.toNat] hF (hm.own (a := some ⟨gy, 0, none⟩)) (fun z hz => by rw [List.mem_singleton] at hz; omega) (by simp only [List.length_cons, List.length_nil]; omega)) ?_; rintro v B' ⟨a2, c2, o2, rfl, ho2, rfl⟩; refine XL.both ?_); have ho2' : o2 = o ++ varB x.toNat := (by rw [ho2]; simp)))|refine XL.nil ?_)<;>(first|refine N.block ?_|refine Ex.here ?_|refine Ex.out rfl ?_))<;>(first|refine Ex.then ?_|refine N.next ?_<;>(refine X.tx (by kernel_rfl) ?_<;>repeat' first|refine Z.p rfl ?_|refine Z.g rfl (by omega) ?_|refine Z.w rfl ?_|refine XL.nil ?_))))) <;> (first | refine Ex.then ?_ | ((refine N.again ((i + 1, a2, c2, o2)) ?_ ?_ ?_ ?_; (focus (exact ⟨by dsimp only; omega, by dsimp only; rw [ho2', ho, take_snocE hxi]; simp, by dsimp only; rw [ho2', List.length_append]; omega⟩)); (focus (first | omega | (dsimp only; omega))); (focus (repeat (first | exact Sub.nil | refine Sub.cons rfl ?_))); exact (fun w h => h.takes)))))<;>(first|refine N.block ?_|refine Ex.here ?_|refine Ex.out rfl ?_)) <;> ((repeat (first | refine Rt.then ?_ | refine Rt.block ?_ | refine Rt.scope ?_)); (first | apply N.done (Res.r0 Tryz.results93 ) | apply N.doneM (Res.r0 Tryz.results93 )); (focus (exact ⟨a1, c1, o, rfl, by rw [ho, List.take_of_length_le (by omega)], rfl⟩)); exact fun w h => h.takes)
theorem kBytes_spec (w : World) (c : Ck) (a b : Option Addr) (n d : Nat) (hl : Rd w 4 a c.m.length n (encE c.m)) (hrw : Rd w 3 b c.r.length d (encK c.r)) (hn : numsK c) (hzp : ∀ x ∈ c.m, PosE x) (hzr : ∀ x ∈ c.r, OkR x) (hb1 : c.m.length ≤ 1000000) (hb2 : c.r.length ≤ 1000000) (hb3 : c.nt.length ≤ 1000000) : Spec Tryz.prog 39 #[.agg #[.int .u64 ((c.k : Nat) : Int), .int .i64 c.ep, .int .i64 c.sq, .int .i64 c.up, .int .i64 c.sz, .slice a c.m.length n, .slice b c.r.length d, .string ⟨List.toArray c.nt⟩]] w (fun _ => False) (fun v A => v = .string ⟨List.toArray (stK c)⟩ ∧ A = []) := by
  obtain ⟨⟨n1, n2⟩, ⟨n3, n4⟩, ⟨n5, n6⟩, n7, n8⟩ := hn
  have hbl := bodK_len c
  refine Spec.enter (args := [.agg #[.int .u64 ((c.k : Nat) : Int), .int .i64 c.ep, .int .i64 c.sq, .int .i64 c.up, .int .i64 c.sz, .slice a c.m.length n, .slice b c.r.length d, .string ⟨List.toArray c.nt⟩]]) (A := []) Tryz.func39 rfl Tryz.ntmps39 rfl (fun _ h => h) ?_
  refine X.mem (B := [own 5 1 (.slice none 0 0) 0 []]) (fun w h => h.nilOwn 5 1) ?_
  ((refine X.st (by kernel_rfl) ?_<;>repeat' first|refine Z.p rfl ?_|(refine XL.at 0 ?_;(refine XL.boxN rfl rfl rfl rfl (by intro g; infer_instance) (fun g1 => ?_)))|refine XL.nn ?_)<;>(refine X.st (by kernel_rfl) ?_<;>repeat' first|(refine XL.at 0 ?_;(refine XL.alloc rfl rfl rfl (by intro g; infer_instance) (fun g3 => ?_)))|refine XL.nn ?_)<;>(refine X.st (by kernel_rfl) ?_<;>repeat' first|(refine XL.at 0 ?_;(obtain ⟨l0, hl0⟩ : ∃ l0 : Bs, l0 = [] := (⟨_, rfl⟩); refine XL.mem (B := [cells g3 [.slice none (List.length l0) 0] 151, own 5 1 (.slice none (List.length l0) 0) (List.length l0) (encY l0), cells g1 [.int .u64 ((c.k : Nat) : Int), .int .i64 c.ep, .int .i64 c.sq, .int .i64 c.up, .int .i64 c.sz, .slice a c.m.length n, .slice b c.r.length d, .string ⟨List.toArray c.nt⟩] 26]) (fun w h => by subst hl0; exact (h.takes : Conf _ [cells g3 [.slice none 0 0] 151, own 5 1 (.slice none 0 0) 0 [], cells g1 [.int .u64 ((c.k : Nat) : Int), .int .i64 c.ep, .int .i64 c.sq, .int .i64 c.up, .int .i64 c.sz, .slice a c.m.length n, .slice b c.r.length d, .string ⟨List.toArray c.nt⟩] 26] w)) ?_; (refine XL.sliceL (fun s : Bs => .string ⟨s.toArray⟩) encT1 [kdK] (fun _ => rfl) (fun _ => rfl) rfl rfl rfl rfl rfl rfl (fun _ => by infer_instance) (fun ga => ?_))))|(refine XL.at 1 ?_;((refine XL.callF [cells g3 [.slice none (List.length l0) 0] 151, own 5 1 (.slice none (List.length l0) 0) (List.length l0) (encY l0)] rfl rfl rfl rfl (fun w F hF hm hw => ORaw_spec w F g3 none (some ⟨ga, 0, none⟩) 0 1 l0 [kdK] hF (hm.own (a := some ⟨ga, 0, none⟩)) ⟨by rw [hl0]; decide, by decide⟩) ?_; rintro v B' ⟨a1, c1, o1, rfl, ho1, rfl⟩; refine XL.both ?_); have hk1 : o1 = kdK := (by rw [ho1, hl0]; rfl); have hb1 : o1.length = 4 := (by rw [hk1]; rfl)))|refine XL.nn ?_)<;>(refine X.st (by kernel_rfl) ?_<;>repeat' first|(refine XL.at 2 ?_;((refine XL.callF [cells g3 [.slice a1 (List.length o1) c1] 151, own 5 1 (.slice a1 (List.length o1) c1) (List.length o1) (encY o1)] rfl rfl rfl rfl (fun w F hF hm hw => OFixed_spec w F g3 a1 c1 o1 c.k 8 hF (by decide) (by omega)) ?_; rintro v B' ⟨a2, c2, o2, rfl, ho2, rfl⟩; refine XL.both ?_); have hb2 : o2.length = o1.length + 8 := (by rw [ho2, List.length_append, fixB_len])))|refine Z.fa rfl rfl rfl ?_|refine Z.l1 rfl rfl rfl ?_|refine Z.lN rfl rfl rfl ?_|refine Z.lP rfl rfl rfl ?_|refine XL.nn ?_)<;>(refine X.st (by kernel_rfl) ?_<;>repeat' first|(refine XL.at 11 ?_;((refine XL.sliceL (fun n : Int => .int .i64 n) encN1 [c.ep, c.sq, c.up, c.sz, ((c.m.length : Nat) : Int)] (fun _ => rfl) (fun _ => rfl) rfl rfl rfl rfl rfl rfl (fun _ => by infer_instance) (fun gb => ?_))))|(refine XL.at 12 ?_;((refine XL.callF [cells g3 [.slice a2 (List.length o2) c2] 151, own 5 1 (.slice a2 (List.length o2) c2) (List.length o2) (encY o2)] rfl rfl rfl rfl (fun w F hF hm hw => kNumbers_spec w F g3 a2 (some ⟨gb, 0, none⟩) c2 5 o2 [c.ep, c.sq, c.up, c.sz, ((c.m.length : Nat) : Int)] hF (hm.own (a := some ⟨gb, 0, none⟩)) (fun z hz => by simp only [List.mem_cons, List.not_mem_nil, or_false] at hz; omega) (by simp only [List.length_cons, List.length_nil]; omega)) ?_; rintro v B' ⟨a3, c3, o3, rfl, ho3, rfl⟩; refine XL.both ?_); have hk3 : o3 = kdK ++ ((((((fixB c.k 8 ++ varB c.ep.toNat) ++ varB c.sq.toNat) ++ varB c.up.toNat) ++ varB c.sz.toNat) ++ varB c.m.length)) := (by rw [ho3, ho2, hk1]; simp); have hb3 : o3.length ≤ 60 := (by have q1 := varB_le c.ep.toNat; have q2 := varB_le c.sq.toNat; have q3 := varB_le c.up.toNat; have q4 := varB_le c.m.length; have q7 := varB_le c.sz.toNat; have q5 := fixB_len c.k 8; have q6 : kdK.length = 4 := rfl; rw [hk3]; simp only [List.length_append]; omega)))|refine Z.fa rfl rfl rfl ?_|refine Z.l1 rfl rfl rfl ?_|refine Z.lN rfl rfl rfl ?_|refine Z.lP rfl rfl rfl ?_|refine Z.ln rfl rfl ?_|refine Z.lnL rfl rfl ?_|refine Z.lnS rfl rfl ?_|refine XL.nn ?_)<;>refine X.seq ?_<;>((refine X.st (by kernel_rfl) ?_<;>repeat' first|refine Z.p rfl ?_|refine Z.fa rfl rfl rfl ?_|refine Z.l1 rfl rfl rfl ?_|refine Z.lN rfl rfl rfl ?_|refine Z.lP rfl rfl rfl ?_|refine Z.ln rfl rfl ?_|refine Z.lnL rfl rfl ?_|refine Z.lnS rfl rfl ?_|refine XL.nn ?_)<;>refine X.block ?_<;>((refine X.loop (ι := Nat × Option Addr × Nat × Bs) (fun y => [(1, .pointer (some ⟨g1, 0, none⟩)), (3, .pointer (some ⟨g3, 0, none⟩)), (27, .slice a c.m.length n), (28, .int .i64 c.m.length), (29, .int .i64 y.1)]) (fun y => [cells g3 [.slice y.2.1 (List.length y.2.2.2) y.2.2.1] 151, own 5 1 (.slice y.2.1 (List.length y.2.2.2) y.2.2.1) (List.length y.2.2.2) (encY y.2.2.2), cells g1 [.int .u64 ((c.k : Nat) : Int), .int .i64 c.ep, .int .i64 c.sq, .int .i64 c.up, .int .i64 c.sz, .slice a c.m.length n, .slice b c.r.length d, .string ⟨List.toArray c.nt⟩] 26]) (fun y => y.1 ≤ c.m.length ∧ y.2.2.2 = o3 ++ (c.m.take y.1).flatMap ptB ∧ y.2.2.2.length ≤ 60 + 36 * y.1) (fun y => c.m.length - y.1) ((0, a3, c3, o3)) ?_ ?_ ?_ ?_; (focus (exact ⟨Nat.zero_le _, by simp, by dsimp only; omega⟩)); (focus (repeat (first | exact Sub.nil | refine Sub.cons rfl ?_))); (focus (exact (fun w h => h.takes))); rintro ⟨i, a4, c4, o4⟩ ⟨hi, ho4, hb4⟩; (dsimp only at *)) <;> ((refine X.st (by kernel_rfl) ?_<;>repeat' first|(refine XL.at 0 ?_;(refine Z.cs rfl (fun h3 => ?_) (fun h3 => ?_)))|refine XL.nn ?_)<;>refine X.seq ?_<;>((refine X.cond rfl ?_ ?_;rotate_left;(focus (intro hc;first|exact no_ hc rfl|(refine X.exit ?_)));rotate_right;(focus (intro hc;first|exact no_ hc rfl|(refine X.skip ?_)))))<;>(first|refine Ex.then ?_|refine N.next ?_<;>(refine X.seq ?_<;>(refine X.block ?_<;>((refine X.st (by kernel_rfl) ?_<;>repeat' first|(refine XL.at 0 ?_;(have hil : i < c.m.length := (by omega); (obtain ⟨x, hx⟩ := get_lt hil); (obtain ⟨z1, z2, z3, z4⟩ := hzp x (List.mem_of_getElem? hx)); refine Z.ix i rfl rfl rfl rfl hil (hl.sm (by omega)) ?_))|(refine XL.at 1 ?_;(refine Z.lb rfl rfl rfl (fun w hw j u hu => Rd.ext (hl.conf0 hw) hx j u hu) ?_))|refine XL.alloc rfl rfl rfl (by intro g; infer_instance) (fun g => ?_)|refine XL.store1 rfl rfl rfl rfl rfl ?_|refine XL.storeN rfl rfl rfl rfl rfl rfl ?_|refine XL.storeP rfl rfl rfl rfl rfl rfl ?_|refine XL.nn ?_)<;>refine X.tx (by kernel_rfl) ?_<;>repeat' first|(refine XL.at 12 ?_;((refine XL.sliceL (fun n : Int => .int .i64 n) encN1 [x.a, x.n, x.q, x.p] (fun _ => rfl) (fun _ => rfl) rfl rfl rfl rfl rfl rfl (fun _ => by infer_instance) (fun gb => ?_))))|(refine XL.at 13 ?_;((refine XL.callF [cells g3 [.slice a4 (List.length o4) c4] 151, own 5 1 (.slice a4 (List.length o4) c4) (List.length o4) (encY o4)] rfl rfl rfl rfl (fun w F hF hm hw => kNumbers_spec w F g3 a4 (some ⟨gb, 0, none⟩) c4 4 o4 [x.a, x.n, x.q, x.p] hF (hm.own (a := some ⟨gb, 0, none⟩)) (fun z hz => by simp only [List.mem_cons, List.not_mem_nil, or_false] at hz; omega) (by simp only [List.length_cons, List.length_nil]; omega)) ?_; rintro v B' ⟨a5, c5, o5, rfl, ho5, rfl⟩; refine XL.both ?_); have hk5 : o5 = o4 ++ ptB x := (by rw [ho5]; simp [ptB]); have hb5 := ptB_len x))|refine Z.fa rfl rfl rfl ?_|refine Z.l1 rfl rfl rfl ?_|refine Z.lN rfl rfl rfl ?_|refine Z.lP rfl rfl rfl ?_|refine XL.nil ?_)<;>(first|refine N.block ?_|refine Ex.here ?_|refine Ex.out rfl ?_))<;>(first|refine Ex.then ?_|refine N.next ?_<;>(refine X.tx (by kernel_rfl) ?_<;>repeat' first|refine Z.p rfl ?_|refine Z.g rfl (by omega) ?_|refine Z.w rfl ?_|refine XL.nil ?_))))) <;> (first | refine Ex.then ?_ | ((refine N.again ((i + 1, a5, c5, o5)) ?_ ?_ ?_ ?_; (focus (exact ⟨by dsimp only; omega, by dsimp only; rw [hk5, ho4, take_snocE hx]; simp, by dsimp only; rw [hk5, List.length_append]; omega⟩)); (focus (first | omega | (dsimp only; omega))); (focus (repeat (first | exact Sub.nil | refine Sub.cons rfl ?_))); exact (fun w h => h.takes)))))<;>(first|refine N.block ?_|refine Ex.here ?_|refine Ex.out rfl ?_))<;>(first|refine Ex.then ?_|refine N.next ?_<;>((refine X.st (by kernel_rfl) ?_<;>repeat' first|(refine XL.at 3 ?_;((obtain rfl : i = c.m.length := (by omega)); rw [List.take_length] at ho4; (refine XL.sliceL (fun n : Int => .int .i64 n) encN1 [((c.r.length : Nat) : Int)] (fun _ => rfl) (fun _ => rfl) rfl rfl rfl rfl rfl rfl (fun _ => by infer_instance) (fun gb => ?_))))|(refine XL.at 4 ?_;((refine XL.callF [cells g3 [.slice a4 (List.length o4) c4] 151, own 5 1 (.slice a4 (List.length o4) c4) (List.length o4) (encY o4)] rfl rfl rfl rfl (fun w F hF hm hw => kNumbers_spec w F g3 a4 (some ⟨gb, 0, none⟩) c4 1 o4 [((c.r.length : Nat) : Int)] hF (hm.own (a := some ⟨gb, 0, none⟩)) (fun z hz => by rw [List.mem_singleton] at hz; omega) (by simp only [List.length_cons, List.length_nil]; omega)) ?_; rintro v B' ⟨a6, c6, o6, rfl, ho6, rfl⟩; refine XL.both ?_); have hk6 : o6 = o4 ++ varB c.r.length := (by rw [ho6]; simp); have hb6 := varB_le c.r.length; have hb6' : o6.length ≤ 70 + 36 * c.m.length := (by rw [hk6, List.length_append]; omega)))|refine Z.fa rfl rfl rfl ?_|refine Z.l1 rfl rfl rfl ?_|refine Z.lN rfl rfl rfl ?_|refine Z.lP rfl rfl rfl ?_|refine Z.ln rfl rfl ?_|refine Z.lnL rfl rfl ?_|refine Z.lnS rfl rfl ?_|refine XL.nn ?_)<;>refine X.seq ?_<;>((refine X.st (by kernel_rfl) ?_<;>repeat' first|refine Z.p rfl ?_|refine Z.fa rfl rfl rfl ?_|refine Z.l1 rfl rfl rfl ?_|refine Z.lN rfl rfl rfl ?_|refine Z.lP rfl rfl rfl ?_|refine Z.ln rfl rfl ?_|refine Z.lnL rfl rfl ?_|refine Z.lnS rfl rfl ?_|refine XL.nn ?_)<;>refine X.block ?_<;>((refine X.loop (ι := Nat × Option Addr × Nat × Bs) (fun y => [(1, .pointer (some ⟨g1, 0, none⟩)), (3, .pointer (some ⟨g3, 0, none⟩)), (54, .slice b c.r.length d), (55, .int .i64 c.r.length), (56, .int .i64 y.1)]) (fun y => [cells g3 [.slice y.2.1 (List.length y.2.2.2) y.2.2.1] 151, own 5 1 (.slice y.2.1 (List.length y.2.2.2) y.2.2.1) (List.length y.2.2.2) (encY y.2.2.2), cells g1 [.int .u64 ((c.k : Nat) : Int), .int .i64 c.ep, .int .i64 c.sq, .int .i64 c.up, .int .i64 c.sz, .slice a c.m.length n, .slice b c.r.length d, .string ⟨List.toArray c.nt⟩] 26]) (fun y => y.1 ≤ c.r.length ∧ y.2.2.2 = o6 ++ (c.r.take y.1).flatMap krB ∧ y.2.2.2.length ≤ 70 + 36 * c.m.length + 27 * y.1) (fun y => c.r.length - y.1) ((0, a6, c6, o6)) ?_ ?_ ?_ ?_; (focus (exact ⟨Nat.zero_le _, by simp, by dsimp only; omega⟩)); (focus (repeat (first | exact Sub.nil | refine Sub.cons rfl ?_))); (focus (exact (fun w h => h.takes))); rintro ⟨k, a7, c7, o7⟩ ⟨hi7, ho7, hb7⟩; (dsimp only at *)) <;> ((refine X.st (by kernel_rfl) ?_<;>repeat' first|(refine XL.at 0 ?_;(refine Z.cs rfl (fun h3 => ?_) (fun h3 => ?_)))|refine XL.nn ?_)<;>refine X.seq ?_<;>((refine X.cond rfl ?_ ?_;rotate_left;(focus (intro hc;first|exact no_ hc rfl|(refine X.exit ?_)));rotate_right;(focus (intro hc;first|exact no_ hc rfl|(refine X.skip ?_)))))<;>(first|refine Ex.then ?_|refine N.next ?_<;>(refine X.seq ?_<;>(refine X.block ?_<;>((refine X.st (by kernel_rfl) ?_<;>repeat' first|(refine XL.at 0 ?_;(have hil : k < c.r.length := (by omega); (obtain ⟨x, hx⟩ := get_lt hil); (obtain ⟨⟨z1, z2⟩, z3⟩ := hzr x (List.mem_of_getElem? hx)); refine Z.ix k rfl rfl rfl rfl hil (hrw.sm (by omega)) ?_))|(refine XL.at 1 ?_;(refine Z.lb rfl rfl rfl (fun w hw j u hu => Rd.kr (hrw.conf0 hw) hx j u hu) ?_))|refine XL.alloc rfl rfl rfl (by intro g; infer_instance) (fun g => ?_)|refine XL.store1 rfl rfl rfl rfl rfl ?_|refine XL.storeN rfl rfl rfl rfl rfl rfl ?_|refine XL.storeP rfl rfl rfl rfl rfl rfl ?_|refine XL.nn ?_)<;>refine X.tx (by kernel_rfl) ?_<;>repeat' first|(refine XL.at 6 ?_;((refine XL.sliceL (fun n : Int => .int .i64 n) encN1 [x.1, x.2.1, x.2.2] (fun _ => rfl) (fun _ => rfl) rfl rfl rfl rfl rfl rfl (fun _ => by infer_instance) (fun gb => ?_))))|(refine XL.at 7 ?_;((refine XL.callF [cells g3 [.slice a7 (List.length o7) c7] 151, own 5 1 (.slice a7 (List.length o7) c7) (List.length o7) (encY o7)] rfl rfl rfl rfl (fun w F hF hm hw => kNumbers_spec w F g3 a7 (some ⟨gb, 0, none⟩) c7 3 o7 [x.1, x.2.1, x.2.2] hF (hm.own (a := some ⟨gb, 0, none⟩)) (fun z hz => by simp only [List.mem_cons, List.not_mem_nil, or_false] at hz; omega) (by simp only [List.length_cons, List.length_nil]; omega)) ?_; rintro v B' ⟨a8, c8, o8, rfl, ho8, rfl⟩; refine XL.both ?_); have hk8 : o8 = o7 ++ krB x := (by rw [ho8]; simp [krB]); have hb8 := krB_len x))|refine Z.fa rfl rfl rfl ?_|refine Z.l1 rfl rfl rfl ?_|refine Z.lN rfl rfl rfl ?_|refine Z.lP rfl rfl rfl ?_|refine XL.nil ?_)<;>(first|refine N.block ?_|refine Ex.here ?_|refine Ex.out rfl ?_))<;>(first|refine Ex.then ?_|refine N.next ?_<;>(refine X.tx (by kernel_rfl) ?_<;>repeat' first|refine Z.p rfl ?_|refine Z.g rfl (by omega) ?_|refine Z.w rfl ?_|refine XL.nil ?_))))) <;> (first | refine Ex.then ?_ | ((refine N.again ((k + 1, a8, c8, o8)) ?_ ?_ ?_ ?_; (focus (exact ⟨by dsimp only; omega, by dsimp only; rw [hk8, ho7, take_snocE hx]; simp, by dsimp only; rw [hk8, List.length_append]; omega⟩)); (focus (first | omega | (dsimp only; omega))); (focus (repeat (first | exact Sub.nil | refine Sub.cons rfl ?_))); exact (fun w h => h.takes)))))<;>(first|refine N.block ?_|refine Ex.here ?_|refine Ex.out rfl ?_))<;>(first|refine Ex.then ?_|refine N.next ?_<;>((refine X.st (by kernel_rfl) ?_<;>repeat' first|(refine XL.at 2 ?_;((obtain rfl : k = c.r.length := (by omega)); rw [List.take_length] at ho7; (refine XL.sliceL (fun s : Bs => .string ⟨s.toArray⟩) encT1 [c.nt] (fun _ => rfl) (fun _ => rfl) rfl rfl rfl rfl rfl rfl (fun _ => by infer_instance) (fun gd => ?_))))|(refine XL.at 3 ?_;((refine XL.callF [cells g3 [.slice a7 (List.length o7) c7] 151, own 5 1 (.slice a7 (List.length o7) c7) (List.length o7) (encY o7)] rfl rfl rfl rfl (fun w F hF hm hw => OText_spec w F g3 a7 (some ⟨gd, 0, none⟩) c7 1 o7 c.nt hF (hm.own (a := some ⟨gd, 0, none⟩)) (by omega)) ?_; rintro v B' ⟨a9, c9, o9, rfl, ho9, rfl⟩; refine XL.both ?_); have hk9 : o9 = bodK c := (by rw [ho9, ho7, hk6, ho4, hk3]; simp [bodK, hkE, zCk, cntB])))|refine Z.fa rfl rfl rfl ?_|refine Z.l1 rfl rfl rfl ?_|refine Z.lN rfl rfl rfl ?_|refine Z.lP rfl rfl rfl ?_|refine XL.nn ?_)<;>(refine X.st (by kernel_rfl) ?_<;>repeat' first|refine Z.p rfl ?_|(refine XL.at 0 ?_;((refine XL.call rfl rfl rfl rfl (fun w hw => OString_spec w g3 a9 c9 o9 (hw.cellAt (Loc.at_) rfl) (hw.rd (a := a9))) ?_; rintro v B' ⟨rfl, rfl⟩; refine XL.both ?_); rw [hk9]))|(refine XL.at 1 ?_;((refine XL.call rfl rfl rfl rfl (fun w hw => Seal_spec w (bodK c) (by omega)) ?_; rintro v B' ⟨rfl, rfl⟩; refine XL.both ?_); rw [show sealS (bodK c) = stK c from rfl]))|refine XL.nn ?_)<;>(apply X.r1 Tryz.results39 (RV.tmp rfl);(focus (exact ⟨rfl, rfl⟩));exact fun _=>Conf.takes))))))
theorem kChk_spec (w : World) (c : Ck) (a b : Option Addr) (n d : Nat) (hl : Rd w 4 a c.m.length n (encE c.m)) (hrw : Rd w 3 b c.r.length d (encK c.r)) (hb1 : c.m.length ≤ 1000000) (hb2 : c.r.length ≤ 1000000) (hb3 : c.nt.length ≤ 1000000) : Spec Tryz.prog 26 #[.agg #[.int .u64 ((c.k : Nat) : Int), .int .i64 c.ep, .int .i64 c.sq, .int .i64 c.up, .int .i64 c.sz, .slice a c.m.length n, .slice b c.r.length d, .string ⟨List.toArray c.nt⟩]] w (fun _ => False) (fun v A => v = .int .i64 (chkK c) ∧ A = []) := by
  refine Spec.enter (args := [.agg #[.int .u64 ((c.k : Nat) : Int), .int .i64 c.ep, .int .i64 c.sq, .int .i64 c.up, .int .i64 c.sz, .slice a c.m.length n, .slice b c.r.length d, .string ⟨List.toArray c.nt⟩]]) (A := []) Tryz.func26 rfl Tryz.ntmps26 rfl (fun _ h => h) ?_
  ((refine X.st (by kernel_rfl) ?_<;>repeat' first|refine Z.p rfl ?_|(refine XL.at 0 ?_;(refine XL.boxN rfl rfl rfl rfl (by intro g; infer_instance) (fun g1 => ?_)))|refine XL.nn ?_)<;>refine X.seq ?_<;>(refine X.block ?_<;>((refine X.st (by kernel_rfl) ?_<;>repeat' first|refine Z.p rfl ?_|(refine XL.at 2 ?_;((refine XL.call rfl rfl rfl rfl (fun w hw => kNumber_spec c.ep 1 w) ?_; rintro v B' ⟨rfl, rfl⟩; refine XL.both ?_); (by_cases n1 : 1 ≤ c.ep ∧ c.ep < 1099511627776 <;> first | rw [decide_eq_true n1] | rw [decide_eq_false n1])))|(refine XL.at 7 ?_;((refine XL.call rfl rfl rfl rfl (fun w hw => kNumber_spec c.sq 0 w) ?_; rintro v B' ⟨rfl, rfl⟩; refine XL.both ?_); (by_cases n2 : 0 ≤ c.sq ∧ c.sq < 1099511627776 <;> first | rw [decide_eq_true n2] | rw [decide_eq_false n2])))|(refine XL.at 13 ?_;((refine XL.call rfl rfl rfl rfl (fun w hw => kNumber_spec c.up 0 w) ?_; rintro v B' ⟨rfl, rfl⟩; refine XL.both ?_); (by_cases n3 : 0 ≤ c.up ∧ c.up < 1099511627776 <;> first | rw [decide_eq_true n3] | rw [decide_eq_false n3])))|(refine XL.at 19 ?_;(refine Z.cs rfl (fun n4 => ?_) (fun n4 => ?_)))|(refine XL.at 24 ?_;(refine Z.cs rfl (fun n5 => ?_) (fun n5 => ?_)))|refine Z.fa rfl rfl rfl ?_|refine Z.l1 rfl rfl rfl ?_|refine Z.lN rfl rfl rfl ?_|refine Z.lP rfl rfl rfl ?_|refine Z.pk rfl rfl rfl rfl ?_|refine XL.nn ?_)<;>(refine X.cond rfl ?_ ?_;rotate_left;(focus (intro hc;first|exact no_ hc rfl|((refine X.st (by kernel_rfl) ?_<;>repeat' first|refine Z.p rfl ?_|(refine XL.at 1 ?_;(have hn : numsK c := (⟨n1, n2, n3, by omega, by omega⟩); (refine XL.call rfl rfl rfl rfl (fun w hw => mapped_spec w c a b n d (hl.conf0 hw) hb1) ?_; rintro v B' ⟨f, rfl, hf, rfl⟩; refine XL.both ?_); cases f))|(refine XL.at 5 ?_;(have hM := hf.1 rfl; (refine XL.call rfl rfl rfl rfl (fun w hw => rowed_spec w c a b n d (hl.conf0 hw) (hrw.conf0 hw) hM.rise) ?_; rintro v B' ⟨f2, rfl, hf2, rfl⟩; refine XL.both ?_); cases f2))|(refine XL.at 12 ?_;(refine Z.cs rfl (fun h1 => ?_) (fun h1 => ?_)))|refine Z.l1 rfl rfl rfl ?_|refine Z.lN rfl rfl rfl ?_|refine Z.lP rfl rfl rfl ?_|refine Z.pk rfl rfl rfl rfl ?_|refine Z.fa rfl rfl rfl ?_|refine Z.ln rfl rfl ?_|refine Z.lnL rfl rfl ?_|refine Z.lnS rfl rfl ?_|refine XL.nn ?_)<;>(refine X.cond rfl ?_ ?_;rotate_left;(focus (intro hc;first|exact no_ hc rfl|((refine X.st (by kernel_rfl) ?_<;>repeat' first|refine Z.p rfl ?_|(refine XL.at 1 ?_;(have hR := hf2.1 rfl; (refine XL.call rfl rfl rfl rfl (fun w hw => kBytes_spec w c a b n d (hl.conf0 hw) (hrw.conf0 hw) hn hM.rise.pos (okR_of hR.1 hn hM.rise) hb1 hb2 hb3) ?_; rintro v B' ⟨rfl, rfl⟩; refine XL.both ?_)))|(refine XL.at 3 ?_;(refine Z.cs rfl (fun h2 => ?_) (fun h2 => ?_)))|refine Z.l1 rfl rfl rfl ?_|refine Z.lN rfl rfl rfl ?_|refine Z.lP rfl rfl rfl ?_|refine Z.ln rfl rfl ?_|refine Z.lnL rfl rfl ?_|refine Z.lnS rfl rfl ?_|refine XL.nn ?_)<;>(refine X.cond rfl ?_ ?_;rotate_left;(focus (intro hc;first|exact no_ hc rfl|(refine X.skip ?_)));rotate_right;(focus (intro hc;first|exact no_ hc rfl|((refine X.st (by kernel_rfl) ?_<;>repeat' first|refine Z.p rfl ?_|refine XL.nn ?_)<;>(apply X.r1 Tryz.results26 (RV.tmp rfl);(focus (refine ⟨?_, rfl⟩; unfold chkK; first | (rw [if_pos hn, if_pos ⟨hM, hR, by omega⟩, if_neg (by omega)]; done) | (rw [if_pos hn, if_pos ⟨hM, hR, by omega⟩, if_pos (by omega)]; done) | (rw [if_pos hn, if_neg (fun h => Bool.false_ne_true (hf.2 h.1))]; done) | (rw [if_pos hn, if_neg (fun h => Bool.false_ne_true (hf2.2 h.2.1))]; done) | (rw [if_pos hn, if_neg (fun h => by have := h.2.2; omega)]; done) | (rw [if_neg (fun h => n1 h.1)]; done) | (rw [if_neg (fun h => n2 h.2.1)]; done) | (rw [if_neg (fun h => n3 h.2.2.1)]; done) | (rw [if_neg (fun h => by have := h.2.2.2; omega)]; done)));exact fun _=>Conf.takes))))))));rotate_right;(focus (intro hc;first|exact no_ hc rfl|((refine X.st (by kernel_rfl) ?_<;>repeat' first|refine Z.p rfl ?_|refine XL.nn ?_)<;>(apply X.r1 Tryz.results26 (RV.tmp rfl);(focus (refine ⟨?_, rfl⟩; unfold chkK; first | (rw [if_pos hn, if_pos ⟨hM, hR, by omega⟩, if_neg (by omega)]; done) | (rw [if_pos hn, if_pos ⟨hM, hR, by omega⟩, if_pos (by omega)]; done) | (rw [if_pos hn, if_neg (fun h => Bool.false_ne_true (hf.2 h.1))]; done) | (rw [if_pos hn, if_neg (fun h => Bool.false_ne_true (hf2.2 h.2.1))]; done) | (rw [if_pos hn, if_neg (fun h => by have := h.2.2; omega)]; done) | (rw [if_neg (fun h => n1 h.1)]; done) | (rw [if_neg (fun h => n2 h.2.1)]; done) | (rw [if_neg (fun h => n3 h.2.2.1)]; done) | (rw [if_neg (fun h => by have := h.2.2.2; omega)]; done)));exact fun _=>Conf.takes))))))));rotate_right;(focus (intro hc;first|exact no_ hc rfl|((refine X.st (by kernel_rfl) ?_<;>repeat' first|refine Z.p rfl ?_|refine XL.nn ?_)<;>(apply X.r1 Tryz.results26 (RV.tmp rfl);(focus (refine ⟨?_, rfl⟩; unfold chkK; first | (rw [if_pos hn, if_pos ⟨hM, hR, by omega⟩, if_neg (by omega)]; done) | (rw [if_pos hn, if_pos ⟨hM, hR, by omega⟩, if_pos (by omega)]; done) | (rw [if_pos hn, if_neg (fun h => Bool.false_ne_true (hf.2 h.1))]; done) | (rw [if_pos hn, if_neg (fun h => Bool.false_ne_true (hf2.2 h.2.1))]; done) | (rw [if_pos hn, if_neg (fun h => by have := h.2.2; omega)]; done) | (rw [if_neg (fun h => n1 h.1)]; done) | (rw [if_neg (fun h => n2 h.2.1)]; done) | (rw [if_neg (fun h => n3 h.2.2.1)]; done) | (rw [if_neg (fun h => by have := h.2.2.2; omega)]; done)));exact fun _=>Conf.takes))))))<;>(first|refine N.block ?_|refine Ex.here ?_|refine Ex.out rfl ?_))<;>(first|refine Ex.then ?_|refine N.next ?_<;>((refine X.st (by kernel_rfl) ?_<;>repeat' first|refine Z.p rfl ?_|refine XL.nn ?_)<;>(apply X.r1 Tryz.results26 (RV.tmp rfl);(focus (refine ⟨?_, rfl⟩; unfold chkK; first | (rw [if_pos hn, if_pos ⟨hM, hR, by omega⟩, if_neg (by omega)]; done) | (rw [if_pos hn, if_pos ⟨hM, hR, by omega⟩, if_pos (by omega)]; done) | (rw [if_pos hn, if_neg (fun h => Bool.false_ne_true (hf.2 h.1))]; done) | (rw [if_pos hn, if_neg (fun h => Bool.false_ne_true (hf2.2 h.2.1))]; done) | (rw [if_pos hn, if_neg (fun h => by have := h.2.2; omega)]; done) | (rw [if_neg (fun h => n1 h.1)]; done) | (rw [if_neg (fun h => n2 h.2.1)]; done) | (rw [if_neg (fun h => n3 h.2.2.1)]; done) | (rw [if_neg (fun h => by have := h.2.2.2; omega)]; done)));exact fun _=>Conf.takes))))
theorem kEncode_spec (w : World) (c : Ck) (a b : Option Addr) (n d : Nat) (hl : Rd w 4 a c.m.length n (encE c.m)) (hrw : Rd w 3 b c.r.length d (encK c.r)) (hb1 : c.m.length ≤ 1000000) (hb2 : c.r.length ≤ 1000000) (hb3 : c.nt.length ≤ 1000000) : Spec Tryz.prog 25 #[.agg #[.int .u64 ((c.k : Nat) : Int), .int .i64 c.ep, .int .i64 c.sq, .int .i64 c.up, .int .i64 c.sz, .slice a c.m.length n, .slice b c.r.length d, .string ⟨List.toArray c.nt⟩]] w (fun _ => False) (fun v A => ∃ r : Bs, v = .tuple #[.string ⟨List.toArray r⟩, .int .i64 (chkK c)] ∧ (chkK c ≠ 0 → r = []) ∧ (chkK c = 0 → r = stK c) ∧ A = []) := by
  refine Spec.enter (args := [.agg #[.int .u64 ((c.k : Nat) : Int), .int .i64 c.ep, .int .i64 c.sq, .int .i64 c.up, .int .i64 c.sz, .slice a c.m.length n, .slice b c.r.length d, .string ⟨List.toArray c.nt⟩]]) (A := []) Tryz.func25 rfl Tryz.ntmps25 rfl (fun _ h => h) ?_
  ((refine X.st (by kernel_rfl) ?_<;>repeat' first|refine Z.p rfl ?_|(refine XL.at 0 ?_;(refine XL.boxN rfl rfl rfl rfl (by intro g; infer_instance) (fun g1 => ?_)))|refine XL.nn ?_)<;>refine X.seq ?_<;>((refine X.st (by kernel_rfl) ?_<;>repeat' first|refine Z.p rfl ?_|(refine XL.at 1 ?_;((refine XL.call rfl rfl rfl rfl (fun w hw => kChk_spec w c a b n d (hl.conf0 hw) (hrw.conf0 hw) hb1 hb2 hb3) ?_; rintro v B' ⟨rfl, rfl⟩; refine XL.both ?_)))|refine Z.l1 rfl rfl rfl ?_|refine Z.lN rfl rfl rfl ?_|refine Z.lP rfl rfl rfl ?_|refine XL.nn ?_)<;>(refine X.st (by kernel_rfl) ?_<;>repeat' first|refine Z.p rfl ?_|(refine XL.at 1 ?_;(refine Z.cs rfl (fun h1 => ?_) (fun h1 => ?_)))|refine XL.nn ?_)<;>(refine X.cond rfl ?_ ?_;rotate_left;(focus (intro hc;first|exact no_ hc rfl|(refine X.skip ?_)));rotate_right;(focus (intro hc;first|exact no_ hc rfl|((refine X.st (by kernel_rfl) ?_<;>repeat' first|refine Z.p rfl ?_|refine XL.nn ?_)<;>(apply X.r2 Tryz.results25 (RV.tmp rfl) (RV.tmp rfl);(focus (first | exact ⟨[], rfl, fun _ => rfl, fun h => absurd h h1, rfl⟩ | exact ⟨stK c, by rw [Decidable.not_not.1 h1], fun h => absurd h h1, fun _ => rfl, rfl⟩));exact fun _=>Conf.takes))))))<;>(first|refine Ex.then ?_|refine N.next ?_<;>((refine X.st (by kernel_rfl) ?_<;>repeat' first|refine Z.p rfl ?_|(refine XL.at 1 ?_;((obtain ⟨k1, k2, k3, k4, k5⟩ := chkK_ok (Decidable.not_not.1 h1)); (refine XL.call rfl rfl rfl rfl (fun w hw => kBytes_spec w c a b n d (hl.conf0 hw) (hrw.conf0 hw) k1 k2.rise.pos (okR_of k3.1 k1 k2.rise) hb1 hb2 hb3) ?_; rintro v B' ⟨rfl, rfl⟩; refine XL.both ?_)))|refine Z.l1 rfl rfl rfl ?_|refine Z.lN rfl rfl rfl ?_|refine Z.lP rfl rfl rfl ?_|refine XL.nn ?_)<;>(apply X.r2 Tryz.results25 (RV.tmp rfl) (RV.tmp rfl);(focus (first | exact ⟨[], rfl, fun _ => rfl, fun h => absurd h h1, rfl⟩ | exact ⟨stK c, by rw [Decidable.not_not.1 h1], fun h => absurd h h1, fun _ => rfl, rfl⟩));exact fun _=>Conf.takes))))
theorem kNew_spec (w : World) (k : Nat) (sz : Int) : Spec Tryz.prog 17 #[.int .u64 ((k : Nat) : Int), .int .i64 sz] w (fun _ => False) (fun v A => v = .agg #[.int .u64 ((k : Nat) : Int), .int .i64 1, .int .i64 0, .int .i64 0, .int .i64 sz, .slice none 0 0, .slice none 0 0, .string ByteArray.empty] ∧ A = []) := by
  refine Spec.enter (args := [.int .u64 ((k : Nat) : Int), .int .i64 sz]) (A := []) Tryz.func17 rfl Tryz.ntmps17 rfl (fun _ h => h) ?_
  ((refine X.st (by kernel_rfl) ?_<;>repeat' first|refine XL.alloc rfl rfl rfl (by intro g; infer_instance) (fun g => ?_)|refine XL.nn ?_)<;>(refine X.st (by kernel_rfl) ?_<;>repeat' first|refine Z.p rfl ?_|refine Z.bd rfl rfl ?_|refine XL.store1 rfl rfl rfl rfl rfl ?_|refine XL.storeN rfl rfl rfl rfl rfl rfl ?_|refine XL.storeP rfl rfl rfl rfl rfl rfl ?_|refine XL.nn ?_)<;>(apply X.r1 Tryz.results17 (RV.of rfl);(focus (exact ⟨rfl, rfl⟩));exact fun _=>Conf.takes))
end Go.Lx

/- What a state is once objects are taken up: plain laws. -/
namespace Go.Lx
open Go.Proofs
set_option linter.unusedVariables false
set_option linter.unusedSimpArgs false

open Classical in
/-- What is wrong with an object that is to be taken up. -/
noncomputable def mayK (c : Ck) (o : Dob) : Int := if chkD o ≠ 0 then chkD o else if o.k ≠ c.k then 14 else if o.sq ≠ c.sq + 1 then 15 else if o.ep < c.ep then 35 else if o.up < c.up ∨ (∃ x ∈ o.ps, c.sz < x.a + x.n) ∨ (∃ y ∈ o.cs, c.sz < y.1 + y.2) then 1 else 0
theorem mayK_ok {c : Ck} {o : Dob} (h : mayK c o = 0) : chkD o = 0 ∧ o.k = c.k ∧ o.sq = c.sq + 1 ∧ c.ep ≤ o.ep ∧ c.up ≤ o.up ∧ (∀ x ∈ o.ps, x.a + x.n ≤ c.sz) ∧ ∀ y ∈ o.cs, y.1 + y.2 ≤ c.sz := by
  unfold mayK at h
  split at h
  · rename_i h1; exact absurd h h1
  rename_i h1
  split at h
  · cases h
  rename_i h2
  split at h
  · cases h
  rename_i h3
  split at h
  · cases h
  rename_i h4
  split at h
  · cases h
  rename_i h5
  rw [not_or, not_or] at h5
  refine ⟨Decidable.not_not.1 h1, Decidable.not_not.1 h2, Decidable.not_not.1 h3, by omega, by omega, fun x hx => ?_, fun y hy => ?_⟩
  · exact Int.not_lt.1 fun g => h5.2.1 ⟨x, hx, g⟩
  · exact Int.not_lt.1 fun g => h5.2.2 ⟨y, hy, g⟩
theorem mayK_of {c : Ck} {o : Dob} (h1 : chkD o = 0) (h2 : o.k = c.k) (h3 : o.sq = c.sq + 1) (h4 : c.ep ≤ o.ep) (h5 : c.up ≤ o.up) (h6 : ∀ x ∈ o.ps, x.a + x.n ≤ c.sz) (h7 : ∀ y ∈ o.cs, y.1 + y.2 ≤ c.sz) : mayK c o = 0 := by
  unfold mayK
  rw [if_neg (fun g => g h1), if_neg (fun g => g h2), if_neg (fun g => g h3), if_neg (by omega), if_neg]
  rintro (g | ⟨x, hx, g⟩ | ⟨y, hy, g⟩)
  · omega
  · have := h6 x hx; omega
  · have := h7 y hy; omega
/-- One object more. -/
def foldC (c : Ck) (o : Dob) : Ck := { c with ep := o.ep, sq := o.sq, up := o.up, r := c.r ++ [(o.sq, secs o.ps, 0)] }
def foldN (c : Ck) (l : List Dob) (i : Nat) : Ck := (l.take i).foldl foldC c
def sigC (c : Ck) : Sig := c.m.foldl updE noneS
def sigN (c : Ck) (l : List Dob) (i : Nat) : Sig := (l.take i).foldl applyS (sigC c)
theorem foldN_succ {c : Ck} {l : List Dob} {i : Nat} {o : Dob} (h : l[i]? = some o) : foldN c l (i + 1) = foldC (foldN c l i) o := by
  unfold foldN
  rw [take_snocE h, List.foldl_append]
  rfl
theorem sigN_succ {c : Ck} {l : List Dob} {i : Nat} {o : Dob} (h : l[i]? = some o) : sigN c l (i + 1) = applyS (sigN c l i) o := by
  unfold sigN
  rw [take_snocE h, List.foldl_append]
  rfl
theorem foldN_same (c : Ck) (l : List Dob) : ∀ i, (foldN c l i).k = c.k ∧ (foldN c l i).sz = c.sz ∧ (foldN c l i).m = c.m ∧ (foldN c l i).nt = c.nt
  | 0 => ⟨rfl, rfl, rfl, rfl⟩
  | i + 1 => by
    cases h : l[i]? with
    | none =>
      have : foldN c l (i + 1) = foldN c l i := by
        have hl : l.length ≤ i := List.getElem?_eq_none_iff.1 h
        unfold foldN
        rw [List.take_of_length_le (by omega), List.take_of_length_le hl]
      rw [this]; exact foldN_same c l i
    | some o => rw [foldN_succ h]; exact foldN_same c l i
theorem foldN_rlen {c : Ck} {l : List Dob} : ∀ {i : Nat}, i ≤ l.length → (foldN c l i).r.length = c.r.length + i
  | 0, _ => rfl
  | i + 1, h => by
    obtain ⟨o, ho⟩ := get_lt (l := l) (k := i) h
    rw [foldN_succ ho]
    show ((foldN c l i).r ++ _).length = _
    rw [List.length_append, foldN_rlen (by omega)]
    rfl
/-- Up to an object none of them is wrong. -/
def okN (c : Ck) (l : List Dob) (n : Nat) : Prop := ∀ j p, j < n → l[j]? = some p → mayK (foldN c l j) p = 0
theorem okN.step {c : Ck} {l : List Dob} {n : Nat} {o : Dob} (h : okN c l n) (ho : l[n]? = some o) (hm : mayK (foldN c l n) o = 0) : okN c l (n + 1) := fun j p hj hp => by
  rcases Nat.lt_or_ge j n with g | g
  · exact h j p g hp
  · obtain rfl : j = n := by omega
    rw [ho] at hp; cases hp; exact hm
theorem okN.nums {c : Ck} {l : List Dob} : ∀ {n : Nat}, okN c l n → n ≤ l.length → numsK c → numsK (foldN c l n)
  | 0, _, _, h => h
  | n + 1, h, hn, hc => by
    obtain ⟨o, ho⟩ := get_lt (l := l) (k := n) hn
    have ih := okN.nums (n := n) (fun j p hj hp => h j p (by omega) hp) (by omega) hc
    obtain ⟨h1, _⟩ := mayK_ok (h n o (by omega) ho)
    obtain ⟨⟨n1, n2, n3⟩, _⟩ := chkD_ok h1
    rw [foldN_succ ho]
    exact ⟨n1, ⟨by show 0 ≤ o.sq; omega, n2.2⟩, n3, ih.2.2.2⟩
theorem okN.rows {c : Ck} {l : List Dob} : ∀ {n : Nat}, okN c l n → n ≤ l.length → (∀ x ∈ c.r, OkR x) → ∀ x ∈ (foldN c l n).r, OkR x
  | 0, _, _, h => h
  | n + 1, h, hn, hc => by
    obtain ⟨o, ho⟩ := get_lt (l := l) (k := n) hn
    have ih := okN.rows (n := n) (fun j p hj hp => h j p (by omega) hp) (by omega) hc
    obtain ⟨h1, _⟩ := mayK_ok (h n o (by omega) ho)
    obtain ⟨⟨n1, n2, n3⟩, hL, _⟩ := chkD_ok h1
    have hs := hL.2.2.1.secs o.ps.length (Nat.le_refl _)
    rw [List.take_length] at hs
    rw [foldN_succ ho]
    intro x hx
    rcases List.mem_append.1 hx with g | g
    · exact ih x g
    · obtain rfl : x = (o.sq, secs o.ps, 0) := by simpa using g
      unfold OkR
      dsimp only
      omega
/-- What is left when all objects are taken up. -/
structure IsEnd (c : Ck) (l : List Dob) (d : Ck) : Prop where
  map : IsMap d.m (sigN c l l.length)
  eq : d = { foldN c l l.length with m := d.m, r := cntK d.m (foldN c l l.length).r }
theorem IsEnd.unique {c : Ck} {l : List Dob} {d e : Ck} (h : IsEnd c l d) (k : IsEnd c l e) : d = e := by
  rw [h.eq, k.eq, h.map.unique k.map]
theorem IsEnd.nums {c d : Ck} {l : List Dob} (h : IsEnd c l d) (ho : okN c l l.length) (hn : numsK c) : numsK d := by
  rw [h.eq]
  exact ho.nums (Nat.le_refl _) hn
theorem IsEnd.rows {c d : Ck} {l : List Dob} (h : IsEnd c l d) (ho : okN c l l.length) (hc : ∀ x ∈ c.r, OkR x) : ∀ x ∈ d.r, OkR x := by
  rw [h.eq]
  intro x hx
  obtain ⟨y, hy, rfl⟩ := List.mem_map.1 hx
  have h1 := ho.rows (Nat.le_refl _) hc y hy
  have h2 := liveN_top h.map.rise y.1
  unfold OkR at h1 ⊢
  dsimp only
  omega
/-- What Fold answers. -/
def FoldR (c : Ck) (l : List Dob) (d : Ck) (e : Int) : Prop :=
  (chkK c ≠ 0 ∧ e = chkK c ∧ d = zK) ∨
  (chkK c = 0 ∧ ((∃ i o, l[i]? = some o ∧ okN c l i ∧ mayK (foldN c l i) o ≠ 0 ∧ e = mayK (foldN c l i) o ∧ d = zK) ∨
    (okN c l l.length ∧ ∃ d', IsEnd c l d' ∧ ((stK d').length ≤ 65536 ∧ e = 0 ∧ d = d' ∨ 65536 < (stK d').length ∧ e = 31 ∧ d = zK))))
theorem FoldR.unique {c : Ck} {l : List Dob} {d d' : Ck} {e e' : Int} (h : FoldR c l d e) (k : FoldR c l d' e') : d = d' ∧ e = e' := by
  rcases h with ⟨h1, rfl, rfl⟩ | ⟨h1, h⟩
  · rcases k with ⟨k1, rfl, rfl⟩ | ⟨k1, _⟩
    · exact ⟨rfl, rfl⟩
    · exact absurd k1 h1
  · rcases k with ⟨k1, _⟩ | ⟨k1, k⟩
    · exact absurd h1 k1
    · rcases h with ⟨i, o, i1, i2, i3, rfl, rfl⟩ | ⟨h2, x, hx, h⟩
      · rcases k with ⟨j, p, j1, j2, j3, rfl, rfl⟩ | ⟨k2, _⟩
        · rcases Nat.lt_trichotomy i j with g | g | g
          · exact absurd (j2 i o g i1) i3
          · subst g; rw [i1] at j1; cases j1; exact ⟨rfl, rfl⟩
          · exact absurd (i2 j p g j1) j3
        · exact absurd (k2 i o (lt_of_get i1) i1) i3
      · rcases k with ⟨j, p, j1, j2, j3, rfl, rfl⟩ | ⟨k2, y, hy, k⟩
        · exact absurd (h2 j p (lt_of_get j1) j1) j3
        · have e := hx.unique hy
          subst e
          rcases h with ⟨a1, rfl, rfl⟩ | ⟨a1, rfl, rfl⟩ <;> rcases k with ⟨b1, rfl, rfl⟩ | ⟨b1, rfl, rfl⟩ <;> first | exact ⟨rfl, rfl⟩ | omega
end Go.Lx

/- Which bytes are a state's: plain laws. -/
namespace Go.Lx
open Go.Proofs
set_option linter.unusedVariables false
set_option linter.unusedSimpArgs false

def krOf (z : (Nat × Nat) × Nat) : Kr := ((z.1.1 : Int), (z.1.2 : Int), (z.2 : Int))
def ofKr (x : Kr) : (Nat × Nat) × Nat := ((x.1.toNat, x.2.1.toNat), x.2.2.toNat)
theorem of_krOf (b : Kr) (h : OkR b) : (((ofKr b).1.1 ≤ 1099511627776 ∧ (ofKr b).1.2 ≤ 1099511627776) ∧ (ofKr b).2 ≤ 1099511627776) ∧ ((varB (ofKr b).1.1 ++ varB (ofKr b).1.2) ++ varB (ofKr b).2) = krB b ∧ krOf (ofKr b) = b := by
  obtain ⟨⟨h1, h2⟩, h3⟩ := h
  refine ⟨?_, rfl, ?_⟩
  · unfold ofKr; simp only; omega
  · unfold ofKr krOf; exact Prod.ext (by simp only; omega) (Prod.ext (by simp only; omega) (by simp only; omega))
theorem stpKr {s s1 s2 s3 : Bs} {o o1 o2 o3 : Prop} {a n q : Nat} (h1 : Stp varB (fun x => x ≤ 1099511627776) s o a s1 o1) (h2 : Stp varB (fun x => x ≤ 1099511627776) s1 o1 n s2 o2) (h3 : Stp varB (fun x => x ≤ 1099511627776) s2 o2 q s3 o3) : Stp krB OkR s o ((a : Int), (n : Int), (q : Int)) s3 o3 :=
  ((h1.seq h2).seq h3).map (eB := krB) (kB := OkR) krOf ofKr (fun z h => by
    obtain ⟨⟨a1, a2⟩, a3⟩ := h
    refine ⟨?_, ?_⟩
    · unfold OkR krOf; simp only; omega
    · simp only [krB, krOf, Int.toNat_natCast]) of_krOf
theorem injKr : Inj krB OkR := ((injM.seq injM).seq injM).map krOf ofKr of_krOf
theorem injTx : Inj textB (fun s => s.length ≤ 16384) := ⟨fun a b c => (codText 16384 (by decide)).inj a b c⟩
theorem dB : Cod (intF 65536) varB (fun x => x ≤ 65536) := codInt 65536 (by decide)
def okK (z : Zk) : Prop := ((((((z.1.1.1.1.1.1.1 < 256 ^ 8 ∧ z.1.1.1.1.1.1.2 ≤ 1099511627776) ∧ z.1.1.1.1.1.2 ≤ 1099511627776) ∧ z.1.1.1.1.2 ≤ 1099511627776) ∧ z.1.1.1.2 ≤ 1099511627776) ∧ (z.1.1.2.length ≤ 65536 ∧ ∀ x ∈ z.1.1.2, OkP x)) ∧ (z.1.2.length ≤ 65536 ∧ ∀ x ∈ z.1.2, OkR x)) ∧ z.2.length ≤ 16384
theorem injK : Inj hkE okK :=
  have h8 : Inj (fun x => fixB x 8) (fun x => x < 256 ^ 8) := ⟨fun a b c => (codFix 8).inj a b c⟩
  ⟨fun {x y r q} hx hy hq => (((((((h8.seq injM).seq injM).seq injM).seq injM).seq (injPt.cnt (m := 65536) (by decide))).seq (injKr.cnt (m := 65536) (by decide))).seq injTx).inj hx hy hq⟩
theorem ckZ_z {c : Ck} (h : numsK c) : ckZ (zCk c) = c := by
  obtain ⟨⟨a1, a2⟩, ⟨a3, a4⟩, ⟨a5, a6⟩, a7, a8⟩ := h
  cases c
  simp only [ckZ, zCk] at *
  rw [Int.toNat_of_nonneg (by omega), Int.toNat_of_nonneg (by omega), Int.toNat_of_nonneg (by omega), Int.toNat_of_nonneg (by omega)]
theorem zCk_z (z : Zk) : zCk (ckZ z) = z := by
  obtain ⟨⟨⟨⟨⟨⟨⟨k, ep⟩, sq⟩, up⟩, sz⟩, m⟩, r⟩, t⟩ := z
  simp only [ckZ, zCk, Int.toNat_natCast]
theorem okK_of {c : Ck} (h : chkK c = 0) (hk : c.k < 18446744073709551616) (hr : c.r.length ≤ 65536) : okK (zCk c) := by
  obtain ⟨hn, hM, hR, hnt, _⟩ := chkK_ok h
  have hml := rise_len c.m 0 hM.rise (by omega)
  have hok := okR_of hR.1 hn hM.rise
  obtain ⟨⟨a1, a2⟩, ⟨a3, a4⟩, ⟨a5, a6⟩, a7, a8⟩ := hn
  refine ⟨⟨⟨⟨⟨⟨⟨hk, ?_⟩, ?_⟩, ?_⟩, ?_⟩, ?_, fun x hx => okP_of (hM.1.may x hx)⟩, hr, hok⟩, hnt⟩ <;> simp only [zCk] <;> omega
/-- What Decode answers. -/
def DecK (s : Bs) (c : Ck) (e : Int) : Prop :=
  ((openS s).2 ≠ 0 ∧ e = (openS s).2 ∧ c = zK) ∨ ((openS s).2 = 0 ∧ (∀ r, (openS s).1 ≠ kdK ++ r) ∧ e = 14 ∧ c = zK) ∨
  (∃ r, (openS s).2 = 0 ∧ (openS s).1 = kdK ++ r ∧ (((∀ z, okK z → chkK (ckZ z) = 0 → r ≠ hkE z) ∧ e = 12 ∧ c = zK) ∨ ∃ z, okK z ∧ chkK (ckZ z) = 0 ∧ r = hkE z ∧ e = 0 ∧ c = ckZ z))
theorem DecK.unique {s : Bs} {c d : Ck} {e f : Int} (a : DecK s c e) (b : DecK s d f) : c = d ∧ e = f := by
  rcases a with ⟨a1, a2, a3⟩ | ⟨a1, a2, a3, a4⟩ | ⟨r, a1, a2, a3⟩ <;> rcases b with ⟨b1, b2, b3⟩ | ⟨b1, b2, b3, b4⟩ | ⟨q, b1, b2, b3⟩
  · exact ⟨a3.trans b3.symm, a2.trans b2.symm⟩
  · exact absurd b1 a1
  · exact absurd b1 a1
  · exact absurd a1 b1
  · exact ⟨a4.trans b4.symm, a3.trans b3.symm⟩
  · exact absurd b2 (a2 q)
  · exact absurd a1 b1
  · exact absurd a2 (b2 r)
  · obtain rfl : r = q := List.append_cancel_left (a2.symm.trans b2)
    rcases a3 with ⟨c1, c2, c3⟩ | ⟨z, c1, c2, c3, c4, c5⟩ <;> rcases b3 with ⟨d1, d2, d3⟩ | ⟨y, d1, d2, d3, d4, d5⟩
    · exact ⟨c3.trans d3.symm, c2.trans d2.symm⟩
    · exact absurd d3 (c1 y d1 d2)
    · exact absurd c3 (d1 z c1 c2)
    · obtain ⟨rfl, _⟩ := injK.inj (r := []) (q := []) c1 d1 (by rw [← c3, ← d3])
      exact ⟨c5.trans d5.symm, c4.trans d4.symm⟩
theorem DecK.few {s : Bs} {c : Ck} {e : Int} (h : DecK s c e) (he : e ≠ 0) : c = zK := by
  rcases h with ⟨_, _, h⟩ | ⟨_, _, _, h⟩ | ⟨r, _, _, ⟨_, _, h⟩ | ⟨z, _, _, _, h, _⟩⟩
  · exact h
  · exact h
  · exact h
  · exact absurd h he
/-- What is a state's bytes is that state's. -/
theorem DecK.good {s : Bs} {c : Ck} (h : DecK s c 0) : chkK c = 0 ∧ s = stK c ∧ c.k < 18446744073709551616 := by
  rcases h with ⟨h1, h2, _⟩ | ⟨_, _, h, _⟩ | ⟨r, h1, h2, ⟨_, h, _⟩ | ⟨z, z1, z2, z3, _, rfl⟩⟩
  · exact absurd h2.symm h1
  · cases h
  · cases h
  · refine ⟨z2, ?_, z1.1.1.1.1.1.1.1⟩
    have : openS s = (bodK (ckZ z), 0) := by
      refine Prod.ext ?_ h1
      rw [h2, z3]
      unfold bodK
      rw [zCk_z]
    exact openS_ok this
theorem DecK.of_good {c : Ck} (h : chkK c = 0) (hk : c.k < 18446744073709551616) (hr : c.r.length ≤ 65536) : DecK (stK c) c 0 := by
  have ho : openS (stK c) = (bodK c, 0) := openS_seal _
  refine .inr (.inr ⟨hkE (zCk c), by rw [ho], by rw [ho]; rfl, .inr ⟨zCk c, okK_of h hk hr, by rw [ckZ_z (chkK_ok h).1]; exact h, rfl, rfl, (ckZ_z (chkK_ok h).1).symm⟩⟩)
theorem rws4 {s s' : Bs} {o o' : Prop} {a b c d : Nat} (h : Rws varB (fun x => x ≤ 1099511627776) s o [a, b, c, d] s' o') :
    Stp (fun z : ((Nat × Nat) × Nat) × Nat => ((varB z.1.1.1 ++ varB z.1.1.2) ++ varB z.1.2) ++ varB z.2) (fun z => ((z.1.1.1 ≤ 1099511627776 ∧ z.1.1.2 ≤ 1099511627776) ∧ z.1.2 ≤ 1099511627776) ∧ z.2 ≤ 1099511627776) s o (((a, b), c), d) s' o' := by
  refine ⟨fun he => ?_, fun y q ho hy hq => ?_⟩
  · obtain ⟨h1, h2, h3⟩ := h.back he
    refine ⟨h1, ⟨⟨⟨h2 a (by simp), h2 b (by simp)⟩, h2 c (by simp)⟩, h2 d (by simp)⟩, ?_⟩
    rw [h3]
    simp
  · obtain ⟨⟨⟨y1, y2⟩, y3⟩, y4⟩ := y
    obtain ⟨⟨⟨k1, k2⟩, k3⟩, k4⟩ := hy
    obtain ⟨h1, h2, h3⟩ := h.fwd [y1, y2, y3, y4] q ho (fun x hx => by
      simp only [List.mem_cons, List.not_mem_nil, or_false] at hx
      rcases hx with rfl | rfl | rfl | rfl <;> assumption) (by rw [hq]; simp) (Nat.le_refl _)
    have e4 : [a, b, c, d].length = 4 := rfl
    rw [e4] at h2 h3
    simp only [List.take_succ_cons, List.take_zero, List.cons.injEq, and_true] at h2
    obtain ⟨rfl, rfl, rfl, rfl⟩ := h2
    exact ⟨rfl, h1, by simpa using h3⟩
theorem stpPt4 {s s' : Bs} {o o' : Prop} {a b c d : Nat} (h : Rws varB (fun x => x ≤ 1099511627776) s o [a, b, c, d] s' o') : Stp ptB OkP s o ⟨a, b, c, d⟩ s' o' :=
  (rws4 h).map (eB := ptB) (kB := OkP) ptOf ofPt (fun z h => by
    obtain ⟨⟨⟨a1, a2⟩, a3⟩, a4⟩ := h
    refine ⟨?_, ?_⟩
    · unfold OkP ptOf; simp only; omega
    · simp only [ptB, ptOf, Int.toNat_natCast]) of_ptOf
/-- Regrouping: a key, then four numbers at once. -/
theorem stp5 {s s1 s2 : Bs} {o o1 o2 : Prop} {k a b c d : Nat} (h1 : Stp (fun x => fixB x 8) (fun x => x < 256 ^ 8) s o k s1 o1) (h2 : Rws varB (fun x => x ≤ 1099511627776) s1 o1 [a, b, c, d] s2 o2) :
    Stp (fun z : (((Nat × Nat) × Nat) × Nat) × Nat => (((fixB z.1.1.1.1 8 ++ varB z.1.1.1.2) ++ varB z.1.1.2) ++ varB z.1.2) ++ varB z.2) (fun z => (((z.1.1.1.1 < 256 ^ 8 ∧ z.1.1.1.2 ≤ 1099511627776) ∧ z.1.1.2 ≤ 1099511627776) ∧ z.1.2 ≤ 1099511627776) ∧ z.2 ≤ 1099511627776) s o ((((k, a), b), c), d) s2 o2 :=
  (h1.seq (rws4 h2)).map (fun z => ((((z.1, z.2.1.1.1), z.2.1.1.2), z.2.1.2), z.2.2)) (fun y => (y.1.1.1.1, (((y.1.1.1.2, y.1.1.2), y.1.2), y.2))) (fun z h => ⟨⟨⟨⟨⟨h.1, h.2.1.1.1⟩, h.2.1.1.2⟩, h.2.1.2⟩, h.2.2⟩, by simp only [List.append_assoc]⟩) (fun y h => ⟨⟨h.1.1.1.1, ⟨⟨h.1.1.1.2, h.1.1.2⟩, h.1.2⟩, h.2⟩, by simp only [List.append_assoc], rfl⟩)
theorem noK_kind {t : Bs} (h : (t.length : Int) < 4 ∨ t.take 4 ≠ kdK) : ∀ r, t ≠ kdK ++ r := fun r hr => by
  have hl := congrArg List.length hr
  rw [List.length_append] at hl
  have h4 : kdK.length = 4 := rfl
  rcases h with h | h
  · omega
  · refine h ?_
    rw [hr]
    rfl
end Go.Lx
