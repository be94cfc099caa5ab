/- Texts Sf Xr Xy, merged: a claim has at most 60 files. -/
import Derived.Test.YthgnlbibdiileaaGreatM4
import Derived.Test.YthgnlbibdiileaaGreatM7
import Derived.Test.YthgnlbibdiileaaGreatM8
import Derived.Test.YthgnlbibdiileaaGreatM2
import Derived.Lib.ConvBytes
/- Package lighterref01's walks, and the statements' helpers. -/
namespace Go.Lx
open Go.Proofs
set_option linter.unusedVariables false
set_option linter.unusedSimpArgs false
set_option maxRecDepth 20000

theorem refMay_spec (a n : Int) (w : World) : Spec Tryz.prog 28 #[.agg #[.int .i64 a, .int .i64 n]] w (fun _ => False) (fun v A => v = .bool (decide (mayS (a, n))) ∧ A = []) := by
  refine Spec.enter (args := [.agg #[.int .i64 a, .int .i64 n]]) (A := []) Tryz.func28 rfl Tryz.ntmps28 rfl (fun _ h => h) ?_
  ((refine X.st (by kernel_rfl) ?_<;>repeat' first|refine Z.p rfl ?_|refine XL.boxN rfl rfl rfl rfl (by intro g; infer_instance) (fun g => ?_)|refine XL.box1 rfl rfl rfl rfl rfl (by intro g; infer_instance) (fun g => ?_)|refine XL.nn ?_)<;>(refine X.st (by kernel_rfl) ?_<;>repeat' first|refine Z.p rfl ?_|refine Z.fa rfl rfl rfl ?_|refine Z.l1 rfl rfl rfl ?_|refine Z.lN rfl rfl rfl ?_|refine Z.lP rfl rfl rfl ?_|refine Z.ct rfl (by omega) ?_|refine Z.cf rfl (by omega) ?_|refine Z.cs rfl (fun _=>?_) (fun _=>?_)|refine Z.pk rfl rfl rfl rfl ?_|refine Z.g rfl (by omega) ?_|refine Z.w rfl ?_|refine XL.nn ?_)<;>(apply X.r1 Tryz.results28 (RV.tmp rfl);(focus (refine ⟨congrArg Value.bool ?_, rfl⟩; first | rw [decide_eq_true (by dsimp only [mayS]; omega)] | rw [decide_eq_false (by dsimp only [mayS]; omega)]));exact fun _=>Conf.takes))

theorem refAll_spec (w : World) (a : Option Addr) (c : Nat) (l : List Sp) (hl : Rd w 2 a l.length c (encS l)) (hbd : l.length ≤ 9223372036854775806) : Spec Tryz.prog 43 #[.slice a l.length c] w (fun _ => False) (fun v A => ∃ b : Bool, v = .bool b ∧ (b = true ↔ ∀ x ∈ l, mayS x) ∧ A = []) := by
  refine Spec.enter (args := [.slice a l.length c]) (A := []) Tryz.func43 rfl Tryz.ntmps43 rfl (fun _ h => h) ?_
  ((refine X.st (by kernel_rfl) ?_<;>repeat' first|refine Z.p rfl ?_|refine XL.nn ?_)<;>refine X.seq ?_<;>((refine X.st (by kernel_rfl) ?_<;>repeat' first|refine Z.p rfl ?_|refine XL.nn ?_)<;>refine X.block ?_<;>((refine X.loop (ι := Nat) (fun i => [(0, .slice a l.length c), (3, .int .i64 i)]) (fun _ => []) (fun i => i ≤ l.length ∧ ∀ j x, j < i → l[j]? = some x → mayS x) (fun i => l.length - i) (0) ?_ ?_ ?_ ?_; (focus (exact ⟨Nat.zero_le _, fun k x hk => absurd hk (Nat.not_lt_zero k)⟩)); (focus (repeat (first | exact Sub.nil | refine Sub.cons rfl ?_))); (focus (exact (fun w h => h.takes))); rintro i ⟨hi, hok⟩) <;> (refine X.seq ?_<;>((refine X.st (by kernel_rfl) ?_<;>repeat' first|refine Z.p rfl ?_|(refine XL.at 3 ?_;(first | refine XL.splitF rfl rfl rfl rfl (D.int rfl rfl rfl) (fun h0 => ?_) (fun h0 => ?_)))|refine Z.ln rfl rfl ?_|refine Z.lnL rfl rfl ?_|refine Z.lnS rfl rfl ?_|refine XL.nn ?_)<;>(refine X.cond rfl ?_ ?_;rotate_left;(focus (intro hc;first|exact no_ hc rfl|(refine X.exit ?_)));rotate_right;(focus (intro hc;first|exact no_ hc rfl|(refine X.skip ?_)))))<;>(first|refine Ex.then ?_|refine N.next ?_<;>(refine X.seq ?_<;>(refine X.block ?_<;>((refine X.st (by kernel_rfl) ?_<;>repeat' first|refine Z.p rfl ?_|(refine XL.at 2 ?_;(have hin : i < l.length := (by omega); obtain ⟨x, hx⟩ := get_lt hin; (apply XL.det0F rfl rfl rfl rfl; exact D.indexAddr i rfl rfl rfl hin (hl.sm (by omega)))))|(refine XL.at 3 ?_;((apply XL.detF rfl rfl rfl rfl; exact D.loadN rfl rfl (fun w hw j u hu => Rd.sp (Rd.conf0 hl hw) hx j u hu))))|(refine XL.at 4 ?_;((refine XL.call rfl rfl rfl rfl (fun w hw => refMay_spec _ _ w) ?_; rintro v B' ⟨rfl, rfl⟩; refine XL.both ?_); (by_cases hm : mayS x <;> first | rw [decide_eq_true hm] | rw [decide_eq_false hm])))|refine XL.nn ?_)<;>(refine X.cond rfl ?_ ?_;rotate_left;(focus (intro hc;first|exact no_ hc rfl|(refine X.skip ?_)));rotate_right;(focus (intro hc;first|exact no_ hc rfl|((refine X.st (by kernel_rfl) ?_<;>repeat' first|refine Z.p rfl ?_|refine XL.nn ?_)<;>(apply X.r1 Tryz.results43 (RV.tmp rfl);(focus (first | (refine ⟨true, rfl, ⟨fun _ y hy => ?_, fun _ => rfl⟩, rfl⟩; obtain ⟨j, hj⟩ := List.mem_iff_getElem?.1 hy; exact hok j y (by have := lt_of_get hj; omega) hj) | (refine ⟨false, rfl, ⟨fun h => (by cases h), fun hs => ?_⟩, rfl⟩; exact absurd (hs x (List.mem_of_getElem? hx)) hm)));exact fun _=>Conf.takes))))))<;>(first|refine N.block ?_|refine Ex.here ?_|refine Ex.out rfl ?_))<;>(first|refine Ex.then ?_|refine N.next ?_<;>(refine X.tx (by kernel_rfl) ?_<;>repeat' first|refine Z.p rfl ?_|refine Z.g rfl (by omega) ?_|refine Z.w rfl ?_|refine XL.nil ?_))))) <;> (first | refine Ex.then ?_ | ((refine N.again (i + 1) ?_ ?_ ?_ ?_; (focus (exact ⟨by omega, fun j y hj hy => by rcases Nat.lt_or_ge j i with h | h; exact hok j y h hy; (obtain rfl : j = i := by omega); rw [hx] at hy; cases hy; exact hm⟩)); (focus (first | omega | (dsimp only; omega))); (focus (repeat (first | exact Sub.nil | refine Sub.cons rfl ?_))); exact (fun w h => h.takes)))))<;>(first|refine N.block ?_|refine Ex.here ?_|refine Ex.out rfl ?_))<;>(first|refine Ex.then ?_|refine N.next ?_<;>((refine X.st (by kernel_rfl) ?_<;>repeat' first|refine Z.p rfl ?_|refine XL.nn ?_)<;>(apply X.r1 Tryz.results43 (RV.tmp rfl);(focus (first | (refine ⟨true, rfl, ⟨fun _ y hy => ?_, fun _ => rfl⟩, rfl⟩; obtain ⟨j, hj⟩ := List.mem_iff_getElem?.1 hy; exact hok j y (by have := lt_of_get hj; omega) hj) | (refine ⟨false, rfl, ⟨fun h => (by cases h), fun hs => ?_⟩, rfl⟩; exact absurd (hs x (List.mem_of_getElem? hx)) hm)));exact fun _=>Conf.takes))))

theorem Set_spec (w : World) (a : Option Addr) (c : Nat) (bs : List Bool) (hl : Rd w 1 a bs.length c (encB bs)) (hbd : bs.length ≤ 60000) : Spec Tryz.prog 56 #[.slice a bs.length c] w (fun _ => False) (fun v A => ∃ a' c' o, v = .slice a' (List.length o) c' ∧ SetOK o o.length ∧ (∀ t, inS o t ↔ ∃ k : Nat, t = k ∧ bs[k]? = some true) ∧ o.length ≤ bs.length ∧ A = [own 63 2 (.slice a' o.length c') o.length (encS o)]) := by
  refine Spec.enter (args := [.slice a bs.length c]) (A := []) Tryz.func56 rfl Tryz.ntmps56 rfl (fun _ h => h) ?_
  refine X.mem (B := [own 63 2 (.slice none ([] : List Sp).length 0) ([] : List Sp).length (encS [])]) (fun w h => h.nilOwn 63 2) ?_
  ((refine X.st (by kernel_rfl) ?_<;>repeat' first|refine Z.p rfl ?_|refine XL.nn ?_)<;>(refine X.st (by kernel_rfl) ?_<;>repeat' first|refine Z.p rfl ?_|refine XL.nn ?_)<;>refine X.seq ?_<;>((refine X.st (by kernel_rfl) ?_<;>repeat' first|refine Z.p rfl ?_|refine XL.nn ?_)<;>refine X.block ?_<;>((refine X.loop (ι := Nat × List Sp × Option Addr × Nat) (fun x => [(0, .slice a bs.length c), (3, .slice x.2.2.1 x.2.1.length x.2.2.2), (4, .int .i64 x.1)]) (fun x => [own 63 2 (.slice x.2.2.1 x.2.1.length x.2.2.2) x.2.1.length (encS x.2.1)]) (fun x => StI bs x.1 x.2.1) (fun x => bs.length - x.1) ((0, [], none, 0)) ?_ ?_ ?_ ?_; (focus (exact StI.start)); (focus (repeat (first | exact Sub.nil | refine Sub.cons rfl ?_))); (focus (exact (fun w h => h.takes))); rintro ⟨i, o, a', c'⟩ hS; (dsimp only at *; have hi := hS.hi; have hol := hS.len)) <;> (refine X.seq ?_<;>((refine X.st (by kernel_rfl) ?_<;>repeat' first|refine Z.p rfl ?_|(refine XL.at 3 ?_;(first | refine XL.splitF rfl rfl rfl rfl (D.int rfl rfl rfl) (fun h0 => ?_) (fun h0 => ?_)))|refine Z.ln rfl rfl ?_|refine Z.lnL rfl rfl ?_|refine Z.lnS rfl rfl ?_|refine XL.nn ?_)<;>(refine X.cond rfl ?_ ?_;rotate_left;(focus (intro hc;first|exact no_ hc rfl|(refine X.exit ?_)));rotate_right;(focus (intro hc;first|exact no_ hc rfl|(refine X.skip ?_)))))<;>(first|refine Ex.then ?_|refine N.next ?_<;>(refine X.seq ?_<;>(refine X.block ?_<;>(refine X.seq ?_<;>((refine X.st (by kernel_rfl) ?_<;>repeat' first|refine Z.p rfl ?_|(refine XL.at 2 ?_;(have hin : i < bs.length := (by omega); obtain ⟨b, hb⟩ := get_lt hin; (apply XL.det0F rfl rfl rfl rfl; exact D.indexAddr i rfl rfl rfl hin (hl.sm (by omega)))))|(refine XL.at 3 ?_;((apply XL.detF rfl rfl rfl rfl; exact D.load1 rfl (fun w hw => Rd.bAt (Rd.conf0 hl hw) hb)); cases b))|refine XL.nn ?_)<;>(refine X.cond rfl ?_ ?_;rotate_left;(focus (intro hc;first|exact no_ hc rfl|(refine X.skip ?_)));rotate_right;(focus (intro hc;first|exact no_ hc rfl|(refine X.exit ?_)))))<;>(first|refine Ex.then ?_|refine N.next ?_<;>((refine X.st (by kernel_rfl) ?_<;>repeat' first|refine Z.p rfl ?_|(refine XL.at 1 ?_;(first | refine XL.splitF rfl rfl rfl rfl (D.int rfl rfl rfl) (fun h1 => ?_) (fun h1 => ?_)))|(refine XL.at 6 ?_;(obtain ⟨p, hp⟩ := get_lt (l := bs) (k := i - 1) (by omega); (apply XL.det0F rfl rfl rfl rfl; exact D.indexAddr (i - 1) rfl rfl (by omega) (by omega) (hl.sm (by omega)))))|(refine XL.at 7 ?_;((apply XL.detF rfl rfl rfl rfl; exact D.load1 rfl (fun w hw => Rd.bAt (Rd.conf0 hl hw) hp)); cases p))|refine Z.g rfl (by omega) ?_|refine Z.w rfl ?_|refine Z.pk rfl rfl rfl rfl ?_|refine XL.nn ?_)<;>(refine X.cond rfl ?_ ?_;rotate_left;(focus (intro hc;first|exact no_ hc rfl|(refine X.tx (by kernel_rfl) ?_<;>repeat' first|refine Z.p rfl ?_|(refine XL.at 4 ?_;((refine XL.append rfl rfl rfl rfl rfl rfl ?_ ?_ (fun a' c' => ?_); (focus (skip; unfold maxLen; omega)); (focus (intro _ _; infer_instance))); rw [encS_snoc o ((i : Int), 1), len_snoc o ((i : Int), 1)]))|refine Z.bd rfl rfl ?_|refine XL.slice1 rfl rfl rfl rfl rfl rfl (by intro g; infer_instance) (fun g_ => ?_)|refine XL.nil ?_)));rotate_right;(focus (intro hc;first|exact no_ hc rfl|(refine X.tx (by kernel_rfl) ?_<;>repeat' first|refine Z.p rfl ?_|(refine XL.at 3 ?_;(obtain ⟨y, hy, _⟩ := hS.last (by omega) hp; have hol2 := lt_of_get hy; obtain ⟨hS2, hye⟩ := hS.grow hb (by omega) hp hy hbd; refine XL.fact (fun w h => (h.ownRd (i := 0) rfl).sm (by omega)) (fun hsome => ?_); (apply XL.det0F rfl rfl rfl rfl; exact D.sub64 rfl rfl (by omega))))|(refine XL.at 8 ?_;((apply XL.det0F rfl rfl rfl rfl; exact D.indexAddr (o.length - 1) rfl rfl (by omega) hol2 hsome)))|(refine XL.at 10 ?_;((apply XL.detF rfl rfl rfl rfl; exact D.load1 rfl (fun w hw => by have := Rd.sp (hw.ownRd (i := 0) rfl) hy 1 _ rfl; simpa [el_add] using this))))|(refine XL.at 11 ?_;(have hym := hS.set.may (by omega) hy; (apply XL.det0F rfl rfl rfl rfl; exact D.add64 rfl rfl (by unfold mayS at hym; omega))))|(refine XL.at 12 ?_;((apply XL.det0F rfl rfl rfl rfl; exact D.indexAddr (o.length - 1) rfl rfl (by omega) hol2 hsome)))|(refine XL.at 14 ?_;(obtain ⟨o2, ho2, hl2⟩ : ∃ o2, o.set (o.length - 1) (y.1, y.2 + 1) = o2 ∧ o.length = o2.length := (⟨_, rfl, by simp⟩); rw [ho2] at hS2; (refine XL.storeE (encS o2) rfl rfl rfl rfl rfl (by omega) (by rw [putAt_one _ _ _ (by rw [encS, flat_len encS1 2 (fun _ => rfl)]; omega), ← ho2]; exact set_flat encS1 2 (fun _ => rfl) 1 (by omega) (.int .i64 (y.2 + 1)) (y.1, y.2 + 1) y rfl o (o.length - 1) hy) ?_); rw [hl2]))|refine Z.ln rfl rfl ?_|refine Z.lnL rfl rfl ?_|refine Z.lnS rfl rfl ?_|refine Z.g rfl (by omega) ?_|refine Z.w rfl ?_|refine Z.fa rfl rfl rfl ?_|refine XL.nil ?_)))))))<;>(first|refine N.block ?_|refine Ex.here ?_|refine Ex.out rfl ?_))<;>(first|refine Ex.then ?_|refine N.next ?_<;>(refine X.tx (by kernel_rfl) ?_<;>repeat' first|refine Z.p rfl ?_|refine Z.g rfl (by omega) ?_|refine Z.w rfl ?_|refine XL.nil ?_))))) <;> (first | refine Ex.then ?_ | (first | (refine N.again ((i + 1, o, a', c')) ?_ ?_ ?_ ?_; (focus (exact hS.skip hb)); (focus (first | omega | (dsimp only; omega))); (focus (repeat (first | exact Sub.nil | refine Sub.cons rfl ?_))); exact (fun w h => h.takes)) | (refine N.again ((i + 1, o2, a', c')) ?_ ?_ ?_ ?_; (focus (exact hS2)); (focus (first | omega | (dsimp only; omega))); (focus (repeat (first | exact Sub.nil | refine Sub.cons rfl ?_))); exact (fun w h => h.takes)) | (refine N.again ((i + 1, o ++ [((i : Int), 1)], a', c')) ?_ ?_ ?_ ?_; (focus (exact hS.push hb (fun h => by first | omega | (rw [hp]; simp)) hbd)); (focus (first | omega | (dsimp only; omega))); (focus (repeat (first | exact Sub.nil | refine Sub.cons rfl ?_))); exact (fun w h => h.takes)))))<;>(first|refine N.block ?_|refine Ex.here ?_|refine Ex.out rfl ?_))<;>(first|refine Ex.then ?_|refine N.next ?_<;>((refine X.st (by kernel_rfl) ?_<;>repeat' first|refine Z.p rfl ?_|refine XL.nn ?_)<;>(apply X.r1 Tryz.results56 (RV.tmp rfl);(focus ((obtain rfl : i = bs.length := by omega); exact ⟨a', c', o, rfl, hS.set, fun t => by rw [hS.mem t]; exact ⟨fun ⟨k, _, h1, h2⟩ => ⟨k, h1, h2⟩, fun ⟨k, h1, h2⟩ => ⟨k, lt_of_get h2, h1, h2⟩⟩, hol, rfl⟩));exact fun _=>Conf.takes))))
theorem SetN_spec (w : World) (a : Option Addr) (n c : Nat) (bs : List Bool) (hn : bs.length = n) (hl : Rd w 1 a n c (encB bs)) (hbd : n ≤ 60000) : Spec Tryz.prog 56 #[.slice a n c] w (fun _ => False) (fun v A => ∃ a' c' o, v = .slice a' (List.length o) c' ∧ SetOK o o.length ∧ (∀ t, inS o t ↔ ∃ k : Nat, t = k ∧ bs[k]? = some true) ∧ o.length ≤ n ∧ A = [own 63 2 (.slice a' o.length c') o.length (encS o)]) := by
  subst hn
  exact Set_spec w a c bs hl hbd
end Go.Lx

/- Own layer, part r: a range over a function: the statement, its rounds, and the iterator that calls yield. Plain theorems. -/
namespace Go.Lx
set_option linter.unusedVariables false
set_option linter.unusedSimpArgs false

/-! ### assertions -/
/-- A block that holds an object. -/
def objA (b : Nat) (o : Obj) : Assn where
  holds w F := w.heap[b]? = some o ∧ ∀ x, F x ↔ x = b
  loc := fun ⟨h, hF⟩ hk => ⟨(hk b ((hF b).2 rfl)).trans h, hF⟩
  dom := fun ⟨h, hF⟩ hb => by
    rw [(hF _).1 hb]
    exact (Array.getElem?_eq_some_iff.1 h).1
class ObjAt (A : List Assn) (b : Nat) (o : outParam Obj) (i : outParam Nat) : Prop where at_ : A[i]? = some (objA b o)
instance {A : List Assn} {b : Nat} {o : Obj} : ObjAt (objA b o :: A) b o 0 := ⟨rfl⟩
instance (priority := low) {A : List Assn} {q : Assn} {b i : Nat} {o : Obj} [h : ObjAt A b o i] : ObjAt (q :: A) b o (i + 1) := ⟨by simpa using h.at_⟩
variable {C : Cx} {A A' B B' : List Assn} {w : World} {Q : Exit → Act → World → Prop} {S : World → Prop} {env : Env} {ops : Array Oper} {r : Sd} {i d : Nat} {o : Oper} {v : Value} {cl : Cl} {c : Code}

theorem Sep.one {p : Assn} {F : Nat → Prop} (h : p.holds w F) : Sep [p] w F := ⟨F, fun _ => False, h, fun _ h => h, fun _ _ h => h, fun b => by simp⟩
theorem Conf.head {p : Assn} {k : Kd} (h : Conf C ([p] ++ A) w) : Conf ⟨C.P, k, C.w0, C.H⟩ [p] w := (h.sub (List.sublist_append_left [p] A)).any
theorem Conf.setObj {b : Nat} {o o' : Obj} [hb : ObjAt A b o i] [hu : Upd A i (objA b o') A'] (h : Conf C A w) : Conf C A' (w.putObj b o') := by
  rw [← hu.eq]
  refine h.update hb.at_ rfl rfl rfl (by simp [World.putObj]) (Nat.le_refl _) fun F ⟨h1, h2⟩ => ⟨F, ⟨World.putObj_heap_same (Array.getElem?_eq_some_iff.1 h1).1, h2⟩, fun b hb => .inl hb, fun k hk hn => ?_⟩
  exact World.putObj_heap_other fun e => hn ((h2 k).2 e)
theorem Conf.objAt {b : Nat} {o : Obj} [hb : ObjAt A b o i] (h : Conf C A w) : w.heap[b]? = some o := by
  obtain ⟨F, ⟨h1, _⟩, _⟩ := h.get hb.at_
  exact h1
/-- A later world, seen from where some blocks were handed over. -/
theorem Conf.behindF {B B' : List Assn} {n : Kd} {w' : World} {F F2 : Nat → Prop} (h : Conf C (B ++ A) w) (hF : ∀ b, F b → C.H b ∨ C.w0.heap.size ≤ b) (hF2 : ∀ b, F2 b → C.H b ∨ C.w0.heap.size ≤ b) (s2 : Sep A w F2) (hd : ∀ b, F b → ¬ F2 b) (k : Conf ⟨C.P, n, w, F⟩ B' w') : Conf C (B' ++ A) w' := by
  obtain ⟨G, g, gF⟩ := k.sep
  have hd2 : ∀ b, F2 b → b < w.heap.size := fun b hb => Sep.dom s2 hb
  refine ⟨k.os.trans h.os, k.tape.trans h.tape, k.output.trans h.output, Nat.le_trans h.size k.size, trivial, fun b hb hH => ?_, fun b => G b ∨ F2 b, Sep.append g (s2.loc fun b hb => k.keep b (hd2 b hb) (fun h1 => hd b h1 hb)) ?_, ?_⟩
  · rw [k.keep b (Nat.lt_of_lt_of_le hb h.size) (fun h1 => ?_), h.keep b hb hH]
    rcases hF b h1 with h2 | h2
    · exact hH h2
    · omega
  · intro b hb hb2
    rcases gF b hb with h1 | h1
    · exact hd b h1 hb2
    · have := hd2 b hb2
      simp only at h1
      omega
  · rintro b (hb | hb)
    · rcases gF b hb with h1 | h1
      · exact hF b h1
      · exact .inr (Nat.le_trans h.size h1)
    · exact hF2 b hb

/-- A loop's record, in a state. -/
def lp (r : Loop) (st : LoopState) (pe : Option Code) : Obj := .loop { r with state := st, pending := pe }

/-! ### a round, as a call of yield sees it -/
def YieldsTo (P : Program) (l : Nat) (args : List Value) (w : World) (F : Nat → Prop) (R : Value → List Assn → Prop) : Prop :=
  ∃ fn tmps assign body, (Instr.yield l args.toArray).run P w = .ok (.round l fn tmps assign body) w ∧ RoundIn Fence.wide 8 P l fn tmps assign body w (Ends P w F R)

/-- What a round owes. -/
def RQ (P : Program) (l : Nat) (w : World) (F : Nat → Prop) (R : Value → List Assn → Prop) : Exit → Act → World → Prop := roundPost P l (Ends P w F R)
instance {P : Program} {l : Nat} {w : World} {F : Nat → Prop} {R : Value → List Assn → Prop} : NoPanic (RQ P l w F R) := ⟨fun c a a' w h => h.elim, fun a w h => h.elim⟩
/-- What the assignment to a loop's variables owes. -/
def AQ (P : Program) (l : Nat) (body : Code) (w : World) (F : Nat → Prop) (R : Value → List Assn → Prop) : Exit → Act → World → Prop :=
  Exit.then (fun a₁ w₁ => ∃ w₂, (Instr.beginRound l).run P w₁ = .ok () w₂ ∧ body.wpIn (Fence.wide.inRound l) 8 P (RQ P l w F R) a₁ w₂) (fun _ _ _ => False)
instance {P : Program} {l : Nat} {b : Code} {w : World} {F : Nat → Prop} {R : Value → List Assn → Prop} : NoPanic (AQ P l b w F R) := ⟨fun c a a' w h => h.elim, fun a w h => h.elim⟩

theorem Rt.leave {P : Program} {n l : Nat} {w : World} {F : Nat → Prop} {R : Value → List Assn → Prop} {r : Loop} [hb : ObjAt A l (lp r .busy none) i] [hu : Upd A i (objA l (lp r .done (some .ret))) A']
    (hR : R (.bool false) B) (hA : ∀ w', Conf ⟨P, ⟨n, none, some l⟩, w, F⟩ A' w' → Conf ⟨P, ⟨n, none, some l⟩, w, F⟩ B w') : Rt ⟨P, ⟨n, none, some l⟩, w, F⟩ (RQ P l w F R) env A :=
  ⟨fun a w1 he hc => ⟨_, _, run_endRound (r := { r with state := .busy, pending := none }) (some .ret) (hc.objAt (b := l)), _, B, rfl, hR, (hA _ (Conf.setObj (b := l) (o' := lp r .done (some .ret)) hc)).any⟩⟩
theorem Ex.leave {P : Program} {n l id : Nat} {w : World} {F : Nat → Prop} {R : Value → List Assn → Prop} {r : Loop} [hb : ObjAt A l (lp r .busy none) i] [hu : Upd A i (objA l (lp r .done (some (.exit id)))) A']
    (hR : R (.bool false) B) (hA : ∀ w', Conf ⟨P, ⟨n, none, some l⟩, w, F⟩ A' w' → Conf ⟨P, ⟨n, none, some l⟩, w, F⟩ B w') : Ex ⟨P, ⟨n, none, some l⟩, w, F⟩ id (RQ P l w F R) env A :=
  ⟨fun a w1 he hc => ⟨_, _, run_endRound (r := { r with state := .busy, pending := none }) (some (.exit id)) (hc.objAt (b := l)), _, B, rfl, hR, (hA _ (Conf.setObj (b := l) (o' := lp r .done (some (.exit id))) hc)).any⟩⟩

/-! ### the iterator: a region in which yield is called -/
structure Y (C : Cx) (ops : Array Oper) (Q : Exit → Act → World → Prop) (is : List Nat) (env : Env) (A : List Assn) : Prop where
  go : ∀ a w, EnvOK C.n env a → Conf C A w → wpOpsIn (fen C.n) 9 C.P ops Q is a w
theorem Y.nil (h : N C Q env A) : Y C ops Q [] env A := ⟨fun a w he hc => h.go a w he hc⟩
theorem Y.part [NoPanic Q] {is : List Nat} (k i : Nat) (rest : List Nat) (hnd : noDefer ops = true) (e : is = List.range' i k ++ rest) {L : Sd} (hL : Sd.text k i = L)
    (h : XL C ops (Exit.then (wpOpsIn (fen C.n) 9 C.P ops Q rest) Q) (fun _ => True) L env A) : Y C ops Q is env A :=
  ⟨fun a w he hc => by
    rw [e]
    exact wpOpsIn_then hnd rest _ _ _ (wpOps_of_wpT k i a w (by rw [hL]; exact h.go a w he hc))⟩
theorem N.rest {is : List Nat} (h : Y C ops Q is env A) : N C (Exit.then (wpOpsIn (fen C.n) 9 C.P ops Q is) Q) env A := ⟨fun a w he hc => h.go a w he hc⟩
theorem RoundIn.anyDepth {P : Program} {l n m : Nat} {f : FuncId} {tmps : Array Value} {assign body : Code} {w : World} {R : Ending → World → Prop} (h : RoundIn Fence.wide n P l f tmps assign body w R) : RoundIn Fence.wide m P l f tmps assign body w R :=
  ⟨h.1, fun c cs _ => h.2 c cs (room_wide _)⟩
theorem Y.yield {l : Nat} {is : List Nat} {fx : Operand} {args : Array Operand} {ats : Array TypeId} {ty : TypeId} {pos : String} {af : Array Edge} {gd : Option (Nat × Bool)} {vs : List Value} {R : Value → List Assn → Prop} (B : List Assn) [NoPanic Q] (hro : C.n.ro = none)
    (ho : ops[i]? = some ⟨some d, .call ⟨.value fx, args, ats⟩, ty, pos, af, gd⟩) (hg : gok ops env ⟨some d, .call ⟨.value fx, args, ats⟩, ty, pos, af, gd⟩ = some true) (hdn : Nat.blt d C.n.n = true)
    (hf : ev env fx = some (.func (.yield l) #[] #[])) (hargs : evs env args.toList = some vs) [ht : Takes A B A']
    (hspec : ∀ w F, Sep B w F → Frm C A' w F → Conf C (B ++ A') w → YieldsTo C.P l vs w F R)
    (k : ∀ v B', R v B' → Y C ops Q is ((d, v) :: env) (B' ++ A')) : Y C ops Q (i :: is) env A := by
  refine ⟨fun a w he hc0 => ?_⟩
  have hc : Conf C (B ++ A') w := hc0.takes2
  have hargs' : args.map a.eval = vs.toArray := by
    apply Array.ext'
    rw [Array.toList_map]
    exact he.evs _ _ hargs
  obtain ⟨F, s, hF⟩ := hc.sep
  obtain ⟨F1, F2, s1, s2, hd, hFF⟩ := s.split
  have hF1 : ∀ b, F1 b → C.H b ∨ C.w0.heap.size ≤ b := fun b hb => hF b ((hFF b).2 (.inl hb))
  obtain ⟨fn, tmps, assign, body, hy, hr⟩ := hspec w F1 s1 ⟨hF1, F2, s2, hd⟩ hc
  have hfen : fen C.n = Fence.wide := by unfold fen; rw [hro]; rfl
  unfold wpOpsIn
  simp only [ho, gok_wanted hg he, if_true]
  rw [hfen]
  refine ⟨fun _ _ => trivial, ?_⟩
  have hrun : (Oper.semAt (none : Option Nat) a.eval ⟨some d, .call ⟨.value fx, args, ats⟩, ty, pos, af, gd⟩).run C.P w = .ok (.round l fn tmps assign body) w := by
    rw [Oper.semAt_none]
    simp [execOp, resolve, he.ev hf, hargs', Deferred.ofValue, invoke, hy]
  have hrun' : (Oper.semAt Fence.wide.round a.eval ⟨some d, .call ⟨.value fx, args, ats⟩, ty, pos, af, gd⟩).run C.P w = .ok (.round l fn tmps assign body) w := hrun
  rw [hrun']
  refine ⟨fun h => (by cases h), (RoundIn.anyDepth hr).mono ?_⟩
  rintro e w' ⟨v, B', rfl, hR, hcf⟩
  have h2 := (k v B' hR).go _ w' (he.put hdn v) (Conf.behindF (B := B) hc hF1 (fun b hb => hF b ((hFF b).2 (.inr hb))) s2 hd hcf)
  rw [hfen] at h2
  exact h2

/-! ### the end of a body that holds a range over a function -/
theorem Rt.doneM {P : Program} {n D j : Nat} {w0 : World} {H : Nat → Prop} {fn : Func} {R : Value → List Assn → Prop} {v : Value} [ho : ObjAt A D (.deferred (some [])) j] [hu : Upd A j (objA D (.deferred none)) A']
    (hv : Res ⟨P, ⟨n, some D, none⟩, w0, H⟩ fn env A' v) (hR : R v B) (hA : ∀ w, Conf ⟨P, ⟨n, some D, none⟩, w0, H⟩ A' w → Conf ⟨P, ⟨n, some D, none⟩, w0, H⟩ B w) : Rt ⟨P, ⟨n, some D, none⟩, w0, H⟩ (Post P fn w0 H R) env A :=
  ⟨fun a w he hc => by
    show LeavesInM _ _ _ _ _ _ a.defers _ _
    rw [he.defers]
    have hc2 := Conf.setObj (b := D) (o' := .deferred none) hc
    exact ⟨by simp, .inl ⟨D, _, rfl, run_takeDeferred (hc.objAt (b := D)), v, hv a _ he hc2, v, B, rfl, hR, (hA _ hc2).any⟩⟩⟩
theorem N.doneM {P : Program} {n D j : Nat} {w0 : World} {H : Nat → Prop} {fn : Func} {R : Value → List Assn → Prop} {v : Value} [ho : ObjAt A D (.deferred (some [])) j] [hu : Upd A j (objA D (.deferred none)) A']
    (hv : Res ⟨P, ⟨n, some D, none⟩, w0, H⟩ fn env A' v) (hR : R v B) (hA : ∀ w, Conf ⟨P, ⟨n, some D, none⟩, w0, H⟩ A' w → Conf ⟨P, ⟨n, some D, none⟩, w0, H⟩ B w) : N ⟨P, ⟨n, some D, none⟩, w0, H⟩ (Post P fn w0 H R) env A :=
  ⟨fun a w he hc => (Rt.doneM hv hR hA).go a w he hc⟩
end Go.Lx

/- Own layer, part y: the bytes of a text as an own row ('[]byte(s)'), bearing the model's mark of a conversion. Plain theorems. -/
namespace Go.Lx
set_option linter.unusedVariables false
set_option linter.unusedSimpArgs false
variable {C : Cx} {A A' B B' : List Assn} {w : World} {Q : Exit → Act → World → Prop} {S : World → Prop} {env : Env} {ops : Array Oper} {r : Sd} {i d : Nat} {o : Oper} {v : Value} {cl : Cl} {x y : Operand} {ty T : TypeId} {pos : String} {af : Array Edge} {gd : Option (Nat × Bool)}

def bytesO (s : Bs) (m : Nat) (e : TypeId) : Obj := .cells (encY s ++ List.replicate m (Value.int .u8 0)).toArray e (s.length + m, s.length + m + 1)
def bytesA (g : Nat) (s : Bs) (m : Nat) (e : TypeId) : Assn := objA g (bytesO s m e)
class BytesAt (A : List Assn) (g : Nat) (s : outParam Bs) (m : outParam Nat) (e : outParam TypeId) (i : outParam Nat) : Prop where at_ : A[i]? = some (bytesA g s m e)
instance {A : List Assn} {g m e : Nat} {s : Bs} : BytesAt (bytesA g s m e :: A) g s m e 0 := ⟨rfl⟩
instance (priority := low) {A : List Assn} {q : Assn} {g m e i : Nat} {s : Bs} [h : BytesAt A g s m e i] : BytesAt (q :: A) g s m e (i + 1) := ⟨by simpa using h.at_⟩

/-- An operation that reads memory and stands among those that change it. -/
theorem XL.detC (ho : ops[i]? = some o) (hg : gok ops env o = some true) (hd : o.dst = some d) (hdn : Nat.blt d C.n.n = true) (h : Det C (fun w => Conf C A w) env o v) [haf : After cl S C A] (k : XL C ops Q S r ((d, v) :: env) A) : XL C ops Q S (.op cl i r) env A :=
  XL.chg ho hg hd hdn fun a w he hc => ⟨v, A, w, h.go a w he hc, hc, haf, k⟩
end Go.Lx
