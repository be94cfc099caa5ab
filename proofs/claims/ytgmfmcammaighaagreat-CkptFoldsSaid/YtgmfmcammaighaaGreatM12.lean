/- Texts So Pb Sd, merged: a claim has at most 60 files. -/
import Derived.Test.YtgmfmcammaighaaGreatM11
import Derived.Test.YtgmfmcammaighaaGreatProg
import Derived.Test.YtgmfmcammaighaaGreatM9
import Derived.Test.YtgmfmcammaighaaGreatM4
import Derived.Test.YtgmfmcammaighaaGreatM1
/- The shelf's contracts, laid at this seat's program. -/
namespace Go.Proofs
open Go.Shelf
def Tryz.sortS_ren : Go.Shelf.Ren := ⟨fun | 6 => 172 | 15 => 179 | 14 => 178 | 28 => 189 | 29 => 168 | 20 => 181 | 21 => 182 | 22 => 183 | 23 => 184 | 24 => 185 | 25 => 186 | 26 => 187 | 27 => 188 | 46 => 190 | 47 => 191 | 48 => 192 | 49 => 193 | 50 => 194 | 57 => 195 | n => n, fun | 22 => 46 | 24 => 58 | 25 => 222 | 3 => 3 | 39 => 192 | 0 => 0 | 53 => 119 | 55 => 22 | 4 => 4 | 46 => 229 | 45 => 228 | 50 => 172 | 5 => 5 | 9 => 9 | 66 => 235 | 70 => 238 | 76 => 240 | 77 => 241 | n => n, fun | n => n⟩
theorem Tryz.sortS : Go.Proofs.SlLaysF0.n6 Tryz.prog Tryz.sortS_ren := {
  mixed := by kernel_rfl
  f6 := ⟨Tryz.f172.name, by decide, Tryz.func172.trans (congrArg some (by kernel_rfl))⟩
  f14 := ⟨Tryz.f178.name, by decide, Tryz.func178.trans (congrArg some (by kernel_rfl))⟩
  f15 := Tryz.func179.trans (congrArg some (by kernel_rfl))
  f20 := ⟨Tryz.f181.name, by decide, Tryz.func181.trans (congrArg some (by kernel_rfl))⟩
  f21 := ⟨Tryz.f182.name, by decide, Tryz.func182.trans (congrArg some (by kernel_rfl))⟩
  f22 := ⟨Tryz.f183.name, by decide, Tryz.func183.trans (congrArg some (by kernel_rfl))⟩
  f23 := ⟨Tryz.f184.name, by decide, Tryz.func184.trans (congrArg some (by kernel_rfl))⟩
  f24 := ⟨Tryz.f185.name, by decide, Tryz.func185.trans (congrArg some (by kernel_rfl))⟩
  f25 := ⟨Tryz.f186.name, by decide, Tryz.func186.trans (congrArg some (by kernel_rfl))⟩
  f26 := ⟨Tryz.f187.name, by decide, Tryz.func187.trans (congrArg some (by kernel_rfl))⟩
  f27 := ⟨Tryz.f188.name, by decide, Tryz.func188.trans (congrArg some (by kernel_rfl))⟩
  f28 := Tryz.func189.trans (congrArg some (by kernel_rfl))
  f29 := Tryz.func168.trans (congrArg some (by kernel_rfl))
  f46 := ⟨Tryz.f190.name, by decide, Tryz.func190.trans (congrArg some (by kernel_rfl))⟩
  f47 := Tryz.func191.trans (congrArg some (by kernel_rfl))
  f48 := Tryz.func192.trans (congrArg some (by kernel_rfl))
  f49 := ⟨Tryz.f193.name, by decide, Tryz.func193.trans (congrArg some (by kernel_rfl))⟩
  f50 := ⟨Tryz.f194.name, by decide, Tryz.func194.trans (congrArg some (by kernel_rfl))⟩
  f57 := ⟨Tryz.f195.name, by decide, Tryz.func195.trans (congrArg some (by kernel_rfl))⟩
  t0 := Tryz.underlying0
  a0 := Tryz.isAgg0
  z0 := Tryz.sizeOf0
  v0 := Tryz.zeroValue0
  t3 := Tryz.underlying3
  a3 := Tryz.isAgg3
  z3 := Tryz.sizeOf3
  v3 := Tryz.zeroValue3
  t4 := Tryz.underlying4
  a4 := Tryz.isAgg4
  z4 := Tryz.sizeOf4
  v4 := Tryz.zeroValue4
  t5 := Tryz.underlying5
  a5 := Tryz.isAgg5
  z5 := Tryz.sizeOf5
  v5 := Tryz.zeroValue5
  t9 := Tryz.underlying9
  a9 := Tryz.isAgg9
  z9 := Tryz.sizeOf9
  v9 := Tryz.zeroValue9
  t22 := Tryz.underlying46
  a22 := Tryz.isAgg46
  z22 := Tryz.sizeOf46
  v22 := Tryz.zeroValue46
  t25 := Tryz.underlying222
  a25 := Tryz.isAgg222
  z25 := Tryz.sizeOf222
  v25 := Tryz.zeroValue222
  t39 := Tryz.underlying192
  a39 := Tryz.isAgg192
  z39 := Tryz.sizeOf192
  v39 := Tryz.zeroValue192
  t45 := Tryz.underlying228
  a45 := Tryz.isAgg228
  z45 := Tryz.sizeOf228
  v45 := Tryz.zeroValue228
  t46 := Tryz.underlying229
  a46 := Tryz.isAgg229
  z46 := Tryz.sizeOf229
  v46 := Tryz.zeroValue229
  t50 := Tryz.underlying172
  a50 := Tryz.isAgg172
  z50 := Tryz.sizeOf172
  v50 := Tryz.zeroValue172
  t53 := Tryz.underlying119
  a53 := Tryz.isAgg119
  z53 := Tryz.sizeOf119
  v53 := Tryz.zeroValue119
  t55 := Tryz.underlying22
  a55 := Tryz.isAgg22
  z55 := Tryz.sizeOf22
  v55 := Tryz.zeroValue22
  t66 := Tryz.underlying235
  a66 := Tryz.isAgg235
  z66 := Tryz.sizeOf235
  v66 := Tryz.zeroValue235
  t70 := Tryz.underlying238
  a70 := Tryz.isAgg238
  z70 := Tryz.sizeOf238
  v70 := Tryz.zeroValue238
  t76 := Tryz.underlying240
  a76 := Tryz.isAgg240
  z76 := Tryz.sizeOf240
  v76 := Tryz.zeroValue240
  t77 := Tryz.underlying241
  a77 := Tryz.isAgg241
  z77 := Tryz.sizeOf241
  v77 := Tryz.zeroValue241 }
end Go.Proofs

/- Plain laws on lists of spans, part b: what joining sorted spans makes. -/
namespace Go.Lx
set_option linter.unusedVariables false
set_option linter.unusedSimpArgs false

theorem snoc_of {α : Type} (o : List α) (h : 0 < o.length) : ∃ o' y, o = o' ++ [y] := by
  rcases List.eq_nil_or_concat o with h1 | ⟨o', y, h1⟩
  · subst h1; simp at h
  · exact ⟨o', y, by simpa using h1⟩

structure JoI (l : List Sp) (i : Nat) (o : List Sp) : Prop where
  hi : i ≤ l.length
  len : o.length ≤ i
  set : SetOK o o.length
  mem : ∀ t, inS o t ↔ inTo l i t
  lo : ∀ x ∈ o, ∀ j y, i ≤ j → l[j]? = some y → x.1 ≤ y.1

variable {l o : List Sp} {i : Nat} {s y : Sp}
theorem JoI.start : JoI l 0 [] := ⟨Nat.zero_le _, Nat.le_refl _, SetOK.nil _, fun t => ⟨fun h => absurd h (inS_nil t), fun ⟨j, _, hj, _⟩ => absurd hj (Nat.not_lt_zero j)⟩, fun _ h => (by cases h)⟩
theorem SetOK.lastEnds {o : List Sp} {y : Sp} {b : Int} (h : SetOK o o.length) (hy : o[o.length - 1]? = some y) (hb : y.1 + y.2 < b) : ∀ x ∈ o, x.1 + x.2 < b := by
  intro x hx
  obtain ⟨j, hj⟩ := List.mem_iff_getElem?.1 hx
  have hjl := lt_of_get hj
  by_cases e : j = o.length - 1
  · subst e; rw [hj] at hy; cases hy; exact hb
  · have h1 := h.lt (o.length - 1) j x y (by omega) (by omega) hj hy
    have h2 := h.may (by omega : o.length - 1 < o.length) hy
    unfold mayS at h2
    omega
theorem JoI.push (h : JoI l i o) (hsort : ∀ (i j : Nat) (x y : Sp), i < j → l[i]? = some x → l[j]? = some y → ¬ y.1 < x.1) (hm : ∀ x ∈ l, mayS x) (hs : l[i]? = some s) (hend : ∀ y, o[o.length - 1]? = some y → y.1 + y.2 < s.1) : JoI l (i + 1) (o ++ [s]) := by
  refine ⟨lt_of_get hs, by have := h.len; simp; omega, h.set.snoc ?_ (hm s (List.mem_of_getElem? hs)), fun t => ?_, fun x hx j y hj hy => ?_⟩
  · intro x hx
    have hl : 0 < o.length := List.length_pos_of_mem hx
    obtain ⟨z, hz⟩ := get_lt (l := o) (k := o.length - 1) (by omega)
    exact h.set.lastEnds hz (hend z hz) x hx
  · rw [inS_append, h.mem t, inS_one, inTo_succ hs]
  · rcases List.mem_append.1 hx with hx | hx
    · exact h.lo x hx j y (by omega) hy
    · simp at hx
      subst hx
      have := hsort i j x y (by omega) hs hy
      omega
theorem JoI.merge (h : JoI l i o) (hsort : ∀ (i j : Nat) (x y : Sp), i < j → l[i]? = some x → l[j]? = some y → ¬ y.1 < x.1) (hm : ∀ x ∈ l, mayS x) (hs : l[i]? = some s) (hy : o[o.length - 1]? = some y) (hend : s.1 ≤ y.1 + y.2) : JoI l (i + 1) (o.set (o.length - 1) (y.1, max (y.1 + y.2) (s.1 + s.2) - y.1)) := by
  have hl := lt_of_get hy
  obtain ⟨o', z, rfl⟩ := snoc_of o (by omega)
  have e1 : (o' ++ [z]).length - 1 = o'.length := by simp
  rw [e1] at hy ⊢
  simp at hy
  subst hy
  have e2 : (o' ++ [z]).set o'.length (z.1, max (z.1 + z.2) (s.1 + s.2) - z.1) = o' ++ [(z.1, max (z.1 + z.2) (s.1 + s.2) - z.1)] := by simp
  rw [e2]
  have hsm := hm s (List.mem_of_getElem? hs)
  have hzm := h.set.may (k := o'.length) (by simp) (x := z) (by simp)
  have hzs := h.lo z (by simp) i s (Nat.le_refl _) hs
  have hset : SetOK o' o'.length := by
    intro k x hk hx
    obtain ⟨h1, h2⟩ := h.set k x (by simp; omega) (by rw [List.getElem?_append_left hk]; exact hx)
    exact ⟨h1, fun y h0 hy => h2 y h0 (by rw [List.getElem?_append_left (by omega)]; exact hy)⟩
  refine ⟨lt_of_get hs, ?_, hset.snoc ?_ ?_, fun t => ?_, fun x hx j y hj hy => ?_⟩
  · have := h.len
    simp at this ⊢
    omega
  · intro x hx
    obtain ⟨j, hj⟩ := List.mem_iff_getElem?.1 hx
    have hjl := lt_of_get hj
    exact h.set.lt o'.length j x z hjl (by simp) (by rw [List.getElem?_append_left hjl]; exact hj) (by simp)
  · unfold mayS at *
    dsimp only
    omega
  · rw [inTo_succ hs, ← h.mem t, inS_append, inS_append, inS_one, inS_one]
    dsimp only
    unfold mayS at *
    constructor
    · rintro (h1 | h1)
      · exact .inl (.inl h1)
      · by_cases q : t < z.1 + z.2
        · exact .inl (.inr (by omega))
        · exact .inr (by omega)
    · rintro ((h1 | h1) | h1)
      · exact .inl h1
      · exact .inr (by omega)
      · exact .inr (by omega)
  · rcases List.mem_append.1 hx with hx | hx
    · exact h.lo x (by simp [hx]) j y (by omega) hy
    · simp at hx
      subst hx
      exact h.lo z (by simp) j y (by omega) hy
end Go.Lx

/- Package span's walks, part d: joining. -/
namespace Go.Lx
open Go.Proofs
set_option linter.unusedVariables false
set_option linter.unusedSimpArgs false
set_option maxRecDepth 20000

theorem encS_one (l : List Sp) : ∀ u ∈ encS l, u.oneCell' = true := by
  intro u hu
  simp only [encS, List.mem_flatMap] at hu
  obtain ⟨x, _, hx⟩ := hu
  simp [encS1] at hx
  rcases hx with rfl | rfl <;> rfl
theorem encS_set (o : List Sp) (k : Nat) (x : Sp) (h : k < o.length) : putAt (encS o) (k * 2) [.int .i64 x.1, .int .i64 x.2] = encS (o.set k x) := putAt_flat encS1 2 (fun _ => rfl) x o k h

theorem isNaN_spec (a : Int) (w : World) : Spec Tryz.prog 180 #[.int .i64 a] w (fun _ => False) (fun v A => v = .bool false ∧ A = []) := by
  refine Spec.enter (args := [.int .i64 a]) (A := []) Tryz.func180 rfl Tryz.ntmps180 rfl (fun _ h => h) ?_
  ((refine X.st (by kernel_rfl) ?_<;>repeat' first|refine Z.p rfl ?_|refine XL.nn ?_)<;>(refine X.st (by kernel_rfl) ?_<;>repeat' first|refine Z.p rfl ?_|refine Z.ct rfl (by omega) ?_|refine Z.cf rfl (by omega) ?_|refine Z.cs rfl (fun _=>?_) (fun _=>?_)|refine XL.nn ?_)<;>(apply X.r1 Tryz.results180 (RV.tmp rfl);(focus (exact ⟨rfl, rfl⟩));exact fun _=>Conf.takes))
def cmpI (a b : Int) : Int := if a < b then -1 else if a > b then 1 else 0
theorem Compare_spec (a b : Int) (w : World) : Spec Tryz.prog 174 #[.int .i64 a, .int .i64 b] w (fun _ => False) (fun v A => v = .int .i64 (cmpI a b) ∧ A = []) := by
  refine Spec.enter (args := [.int .i64 a, .int .i64 b]) (A := []) Tryz.func174 rfl Tryz.ntmps174 rfl (fun _ h => h) ?_
  ((refine X.st (by kernel_rfl) ?_<;>repeat' first|refine Z.p rfl ?_|refine XL.nn ?_)<;>(refine X.st (by kernel_rfl) ?_<;>repeat' first|refine Z.p rfl ?_|(refine XL.at 1 ?_;((refine XL.call rfl rfl rfl rfl (fun w hw => isNaN_spec _ w) ?_; rintro v B' ⟨rfl, rfl⟩; refine XL.both ?_)))|refine XL.nn ?_)<;>(refine X.st (by kernel_rfl) ?_<;>repeat' first|refine Z.p rfl ?_|(refine XL.at 1 ?_;((refine XL.call rfl rfl rfl rfl (fun w hw => isNaN_spec _ w) ?_; rintro v B' ⟨rfl, rfl⟩; refine XL.both ?_)))|refine XL.nn ?_)<;>refine X.seq ?_<;>((refine X.st (by kernel_rfl) ?_<;>repeat' first|refine Z.p rfl ?_|refine XL.nn ?_)<;>(refine X.cond rfl ?_ ?_;rotate_left;(focus (intro hc;first|exact no_ hc rfl|(refine X.skip ?_)));rotate_right;(focus (intro hc;first|exact no_ hc rfl|(refine X.seq ?_<;>((refine X.st (by kernel_rfl) ?_<;>repeat' first|refine Z.p rfl ?_|refine XL.nn ?_)<;>(refine X.cond rfl ?_ ?_;rotate_left;(focus (intro hc;first|exact no_ hc rfl|(refine X.skip ?_)));rotate_right;(focus (intro hc;first|exact no_ hc rfl|((refine X.st (by kernel_rfl) ?_<;>repeat' first|refine Z.p rfl ?_|refine XL.nn ?_)<;>(apply X.r1 Tryz.results174 (RV.tmp rfl);(focus (refine ⟨congrArg (Value.int IntKind.i64) ?_, rfl⟩; unfold cmpI; first | (rw [if_pos (by omega)]) | (rw [if_neg (by omega), if_pos (by omega)]) | (rw [if_neg (by omega), if_neg (by omega)])));exact fun _=>Conf.takes))))))<;>(first|refine Ex.then ?_|refine N.next ?_<;>((refine X.st (by kernel_rfl) ?_<;>repeat' first|refine Z.p rfl ?_|refine XL.nn ?_)<;>(apply X.r1 Tryz.results174 (RV.tmp rfl);(focus (refine ⟨congrArg (Value.int IntKind.i64) ?_, rfl⟩; unfold cmpI; first | (rw [if_pos (by omega)]) | (rw [if_neg (by omega), if_pos (by omega)]) | (rw [if_neg (by omega), if_neg (by omega)])));exact fun _=>Conf.takes))))))))<;>(first|refine Ex.then ?_|refine N.next ?_<;>(refine X.seq ?_<;>((refine X.st (by kernel_rfl) ?_<;>repeat' first|refine Z.p rfl ?_|refine XL.nn ?_)<;>(refine X.cond rfl ?_ ?_;rotate_left;(focus (intro hc;first|exact no_ hc rfl|(refine X.skip ?_)));rotate_right;(focus (intro hc;first|exact no_ hc rfl|((refine X.st (by kernel_rfl) ?_<;>repeat' first|refine Z.p rfl ?_|refine XL.nn ?_)<;>(apply X.r1 Tryz.results174 (RV.tmp rfl);(focus (refine ⟨congrArg (Value.int IntKind.i64) ?_, rfl⟩; unfold cmpI; first | (rw [if_pos (by omega)]) | (rw [if_neg (by omega), if_pos (by omega)]) | (rw [if_neg (by omega), if_neg (by omega)])));exact fun _=>Conf.takes))))))<;>(first|refine Ex.then ?_|refine N.next ?_<;>(refine X.seq ?_<;>((refine X.st (by kernel_rfl) ?_<;>repeat' first|refine Z.p rfl ?_|refine Z.ct rfl (by omega) ?_|refine Z.cf rfl (by omega) ?_|refine Z.cs rfl (fun _=>?_) (fun _=>?_)|refine XL.nn ?_)<;>(refine X.cond rfl ?_ ?_;rotate_left;(focus (intro hc;first|exact no_ hc rfl|(refine X.skip ?_)));rotate_right;(focus (intro hc;first|exact no_ hc rfl|((refine X.st (by kernel_rfl) ?_<;>repeat' first|refine Z.p rfl ?_|refine XL.nn ?_)<;>(apply X.r1 Tryz.results174 (RV.tmp rfl);(focus (refine ⟨congrArg (Value.int IntKind.i64) ?_, rfl⟩; unfold cmpI; first | (rw [if_pos (by omega)]) | (rw [if_neg (by omega), if_pos (by omega)]) | (rw [if_neg (by omega), if_neg (by omega)])));exact fun _=>Conf.takes))))))<;>(first|refine Ex.then ?_|refine N.next ?_<;>(refine X.seq ?_<;>((refine X.st (by kernel_rfl) ?_<;>repeat' first|refine Z.p rfl ?_|refine Z.ct rfl (by omega) ?_|refine Z.cf rfl (by omega) ?_|refine Z.cs rfl (fun _=>?_) (fun _=>?_)|refine XL.nn ?_)<;>(refine X.cond rfl ?_ ?_;rotate_left;(focus (intro hc;first|exact no_ hc rfl|(refine X.skip ?_)));rotate_right;(focus (intro hc;first|exact no_ hc rfl|((refine X.st (by kernel_rfl) ?_<;>repeat' first|refine Z.p rfl ?_|refine XL.nn ?_)<;>(apply X.r1 Tryz.results174 (RV.tmp rfl);(focus (refine ⟨congrArg (Value.int IntKind.i64) ?_, rfl⟩; unfold cmpI; first | (rw [if_pos (by omega)]) | (rw [if_neg (by omega), if_pos (by omega)]) | (rw [if_neg (by omega), if_neg (by omega)])));exact fun _=>Conf.takes))))))<;>(first|refine Ex.then ?_|refine N.next ?_<;>((refine X.st (by kernel_rfl) ?_<;>repeat' first|refine Z.p rfl ?_|refine XL.nn ?_)<;>(apply X.r1 Tryz.results174 (RV.tmp rfl);(focus (refine ⟨congrArg (Value.int IntKind.i64) ?_, rfl⟩; unfold cmpI; first | (rw [if_pos (by omega)]) | (rw [if_neg (by omega), if_pos (by omega)]) | (rw [if_neg (by omega), if_neg (by omega)])));exact fun _=>Conf.takes))))))))))
theorem joined1_spec (x y : Sp) (w : World) : Spec Tryz.prog 173 #[.agg #[.int .i64 x.1, .int .i64 x.2], .agg #[.int .i64 y.1, .int .i64 y.2]] w (fun _ => False) (fun v A => v = .int .i64 (cmpI x.1 y.1) ∧ A = []) := by
  refine Spec.enter (args := [.agg #[.int .i64 x.1, .int .i64 x.2], .agg #[.int .i64 y.1, .int .i64 y.2]]) (A := []) Tryz.func173 rfl Tryz.ntmps173 rfl (fun _ h => h) ?_
  ((refine X.st (by kernel_rfl) ?_<;>repeat' first|refine Z.p rfl ?_|refine XL.boxN rfl rfl rfl rfl (by intro g; infer_instance) (fun g => ?_)|refine XL.box1 rfl rfl rfl rfl rfl (by intro g; infer_instance) (fun g => ?_)|refine XL.nn ?_)<;>(refine X.st (by kernel_rfl) ?_<;>repeat' first|refine Z.p rfl ?_|(refine XL.at 4 ?_;((refine XL.call rfl rfl rfl rfl (fun w hw => Compare_spec _ _ w) ?_; rintro v B' ⟨rfl, rfl⟩; refine XL.both ?_)))|refine Z.fa rfl rfl rfl ?_|refine Z.l1 rfl rfl rfl ?_|refine Z.lN rfl rfl rfl ?_|refine Z.lP rfl rfl rfl ?_|refine XL.nn ?_)<;>(apply X.r1 Tryz.results173 (RV.tmp rfl);(focus (exact ⟨rfl, rfl⟩));exact fun _=>Conf.takes))

theorem Len64_spec (w : World) : Spec Tryz.prog 168 #[.int .u64 0] w (fun _ => False) (fun v A => ∃ r, v = .int .i64 r ∧ A = []) := by
  refine Spec.enter (args := [.int .u64 0]) (A := []) Tryz.func168 rfl Tryz.ntmps168 rfl (fun _ h => h) ?_
  ((refine X.st (by kernel_rfl) ?_<;>repeat' first|refine Z.p rfl ?_|refine XL.nn ?_)<;>refine X.seq ?_<;>((refine X.st (by kernel_rfl) ?_<;>repeat' first|refine Z.p rfl ?_|refine Z.ct rfl (by omega) ?_|refine Z.cf rfl (by omega) ?_|refine Z.cs rfl (fun _=>?_) (fun _=>?_)|refine XL.nn ?_)<;>(refine X.cond rfl ?_ ?_;rotate_left;(focus (intro hc;first|exact no_ hc rfl|(refine X.skip ?_)));rotate_right;(focus (intro hc;first|exact no_ hc rfl|((refine X.st (by kernel_rfl) ?_<;>repeat' first|refine Z.p rfl ?_|refine Z.w rfl ?_|refine XL.nn ?_)<;>refine X.tx (by kernel_rfl) ?_<;>repeat' first|refine Z.p rfl ?_|refine XL.nil ?_)))))<;>(first|refine Ex.then ?_|refine N.next ?_<;>(refine X.seq ?_<;>((refine X.st (by kernel_rfl) ?_<;>repeat' first|refine Z.p rfl ?_|refine Z.ct rfl (by omega) ?_|refine Z.cf rfl (by omega) ?_|refine Z.cs rfl (fun _=>?_) (fun _=>?_)|refine XL.nn ?_)<;>(refine X.cond rfl ?_ ?_;rotate_left;(focus (intro hc;first|exact no_ hc rfl|(refine X.skip ?_)));rotate_right;(focus (intro hc;first|exact no_ hc rfl|((refine X.st (by kernel_rfl) ?_<;>repeat' first|refine Z.p rfl ?_|refine Z.w rfl ?_|refine XL.nn ?_)<;>refine X.tx (by kernel_rfl) ?_<;>repeat' first|refine Z.p rfl ?_|refine Z.g rfl (by omega) ?_|refine Z.w rfl ?_|refine XL.nil ?_)))))<;>(first|refine Ex.then ?_|refine N.next ?_<;>(refine X.seq ?_<;>((refine X.st (by kernel_rfl) ?_<;>repeat' first|refine Z.p rfl ?_|refine Z.ct rfl (by omega) ?_|refine Z.cf rfl (by omega) ?_|refine Z.cs rfl (fun _=>?_) (fun _=>?_)|refine XL.nn ?_)<;>(refine X.cond rfl ?_ ?_;rotate_left;(focus (intro hc;first|exact no_ hc rfl|(refine X.skip ?_)));rotate_right;(focus (intro hc;first|exact no_ hc rfl|((refine X.st (by kernel_rfl) ?_<;>repeat' first|refine Z.p rfl ?_|refine Z.w rfl ?_|refine XL.nn ?_)<;>refine X.tx (by kernel_rfl) ?_<;>repeat' first|refine Z.p rfl ?_|refine Z.g rfl (by omega) ?_|refine Z.w rfl ?_|refine XL.nil ?_)))))<;>(first|refine Ex.then ?_|refine N.next ?_<;>((refine X.st (by kernel_rfl) ?_<;>repeat' first|refine Z.p rfl ?_|(refine XL.at 3 ?_;((apply XL.det0F rfl rfl rfl rfl; exact D.indexStr 0 rfl rfl rfl (by decide))))|(refine XL.at 5 ?_;((apply XL.det0F rfl rfl rfl rfl; exact D.int rfl rfl rfl)))|refine Z.cv rfl rfl ?_|refine XL.nn ?_)<;>(apply X.r1 Tryz.results168 (RV.tmp rfl);(focus (exact ⟨_, rfl, rfl⟩));exact fun _=>Conf.takes))))))))
theorem Len_spec (w : World) : Spec Tryz.prog 179 #[.int .u64 0] w (fun _ => False) (fun v A => ∃ r, v = .int .i64 r ∧ A = []) := by
  refine Spec.enter (args := [.int .u64 0]) (A := []) Tryz.func179 rfl Tryz.ntmps179 rfl (fun _ h => h) ?_
  ((refine X.st (by kernel_rfl) ?_<;>repeat' first|refine Z.p rfl ?_|refine XL.nn ?_)<;>refine X.seq ?_<;>((refine X.cond rfl ?_ ?_;rotate_left;(focus (intro hc;first|exact no_ hc rfl|(refine X.skip ?_)));rotate_right;(focus (intro hc;first|exact no_ hc rfl|((refine X.st (by kernel_rfl) ?_<;>repeat' first|refine Z.p rfl ?_|refine Z.cv rfl rfl ?_|fail "op call"|refine XL.nn ?_)<;>(apply X.r1 Tryz.results179 (RV.tmp rfl);(focus (exact ⟨_, rfl, rfl⟩));exact fun _=>Conf.takes))))))<;>(first|refine Ex.then ?_|refine N.next ?_<;>((refine X.st (by kernel_rfl) ?_<;>repeat' first|refine Z.p rfl ?_|(refine XL.at 1 ?_;((refine XL.call rfl rfl rfl rfl (fun w hw => Len64_spec w) ?_; rintro v B' ⟨r, rfl, rfl⟩; refine XL.both ?_)))|refine XL.nn ?_)<;>(apply X.r1 Tryz.results179 (RV.tmp rfl);(focus (exact ⟨_, rfl, rfl⟩));exact fun _=>Conf.takes))))

theorem insertion_nil (w : World) (a : Option Addr) (c : Nat) (f : Value) : Spec Tryz.prog 181 #[.slice a 0 c, .int .i64 0, .int .i64 0, f] w (fun _ => False) (fun v A => v = .tuple #[] ∧ A = []) := by
  refine Spec.enter (args := [.slice a 0 c, .int .i64 0, .int .i64 0, f]) (A := []) Tryz.func181 rfl Tryz.ntmps181 rfl (fun _ h => h) ?_
  ((refine X.st (by kernel_rfl) ?_<;>repeat' first|refine Z.p rfl ?_|refine Z.g rfl (by omega) ?_|refine Z.w rfl ?_|refine XL.nn ?_)<;>refine X.block ?_<;>((refine X.loop (ι := Unit) (fun _ => [(2, .int .i64 0), (8, .int .i64 1)]) (fun _ => []) (fun _ => True) (fun _ => 0) (()) ?_ ?_ ?_ ?_; (focus (trivial)); (focus (repeat (first | exact Sub.nil | refine Sub.cons rfl ?_))); (focus (exact (fun w h => h.takes))); rintro _ _) <;> (refine X.seq ?_<;>((refine X.st (by kernel_rfl) ?_<;>repeat' first|refine Z.p rfl ?_|refine Z.ct rfl (by omega) ?_|refine Z.cf rfl (by omega) ?_|refine Z.cs rfl (fun _=>?_) (fun _=>?_)|refine XL.nn ?_)<;>(refine X.cond rfl ?_ ?_;rotate_left;(focus (intro hc;first|exact no_ hc rfl|(refine X.exit ?_)));rotate_right;(focus (intro hc;first|exact no_ hc rfl|(refine X.skip ?_)))))<;>(first|refine Ex.then ?_|refine N.next ?_<;>(refine X.seq ?_<;>(refine X.block ?_<;>((refine X.st (by kernel_rfl) ?_<;>repeat' first|refine Z.p rfl ?_|refine XL.nn ?_)<;>refine X.block ?_<;>(fail "loop 1")<;>(first|refine N.block ?_|refine Ex.here ?_|refine Ex.out rfl ?_))<;>(first|refine N.block ?_|refine Ex.here ?_|refine Ex.out rfl ?_))<;>(first|refine Ex.then ?_|refine N.next ?_<;>(refine X.tx (by kernel_rfl) ?_<;>repeat' first|refine Z.p rfl ?_|refine Z.g rfl (by omega) ?_|refine Z.w rfl ?_|refine XL.nil ?_))))) <;> (first | refine Ex.then ?_ | ((refine N.again (()) ?_ ?_ ?_ ?_; (focus (trivial)); (focus (first | omega | (dsimp only; omega))); (focus (repeat (first | exact Sub.nil | refine Sub.cons rfl ?_))); exact (fun w h => h.takes)))))<;>(first|refine N.block ?_|refine Ex.here ?_|refine Ex.out rfl ?_)) <;> ((repeat (first | refine Rt.then ?_ | refine Rt.block ?_ | refine Rt.scope ?_)); (first | apply N.done (Res.r0 Tryz.results181 ) | apply N.doneM (Res.r0 Tryz.results181 )); (focus (exact ⟨rfl, rfl⟩)); exact fun w h => h.takes)
theorem pdq_nil (w : World) (a : Option Addr) (c : Nat) (f : Value) (r : Int) : Spec Tryz.prog 178 #[.slice a 0 c, .int .i64 0, .int .i64 0, .int .i64 r, f] w (fun _ => False) (fun v A => v = .tuple #[] ∧ A = []) := by
  refine Spec.enter (args := [.slice a 0 c, .int .i64 0, .int .i64 0, .int .i64 r, f]) (A := []) Tryz.func178 rfl Tryz.ntmps178 rfl (fun _ h => h) ?_
  ((refine X.st (by kernel_rfl) ?_<;>repeat' first|refine Z.p rfl ?_|refine XL.nn ?_)<;>(refine X.st (by kernel_rfl) ?_<;>repeat' first|refine Z.p rfl ?_|refine XL.nn ?_)<;>refine X.block ?_<;>((refine X.loop (ι := Unit) (fun _ => [(0, .slice a 0 c), (1, .int .i64 0), (2, .int .i64 0), (4, f)]) (fun _ => []) (fun _ => True) (fun _ => 0) (()) ?_ ?_ ?_ ?_; (focus (trivial)); (focus (repeat (first | exact Sub.nil | refine Sub.cons rfl ?_))); (focus (exact (fun w h => h.takes))); rintro _ _) <;> (refine X.block ?_<;>((refine X.st (by kernel_rfl) ?_<;>repeat' first|refine Z.p rfl ?_|refine Z.g rfl (by omega) ?_|refine Z.w rfl ?_|refine XL.nn ?_)<;>refine X.seq ?_<;>((refine X.st (by kernel_rfl) ?_<;>repeat' first|refine Z.p rfl ?_|refine Z.ct rfl (by omega) ?_|refine Z.cf rfl (by omega) ?_|refine Z.cs rfl (fun _=>?_) (fun _=>?_)|refine XL.nn ?_)<;>(refine X.cond rfl ?_ ?_;rotate_left;(focus (intro hc;first|exact no_ hc rfl|(refine X.skip ?_)));rotate_right;(focus (intro hc;first|exact no_ hc rfl|((refine X.st (by kernel_rfl) ?_<;>repeat' first|refine Z.p rfl ?_|(refine XL.at 4 ?_;((refine XL.call rfl rfl rfl rfl (fun w hw => insertion_nil w a c f) ?_; rintro v B' ⟨rfl, rfl⟩; refine XL.both ?_)))|refine XL.nn ?_)<;>(apply X.r0 Tryz.results178;(focus (exact ⟨rfl, rfl⟩));exact fun _=>Conf.takes))))))<;>(first|refine Ex.then ?_|refine N.next ?_<;>(refine X.seq ?_<;>((refine X.st (by kernel_rfl) ?_<;>repeat' first|refine Z.p rfl ?_|refine Z.ct rfl (by omega) ?_|refine Z.cf rfl (by omega) ?_|refine Z.cs rfl (fun _=>?_) (fun _=>?_)|refine XL.nn ?_)<;>(refine X.cond rfl ?_ ?_;rotate_left;(focus (intro hc;first|exact no_ hc rfl|(refine X.skip ?_)));rotate_right;(focus (intro hc;first|exact no_ hc rfl|((refine X.st (by kernel_rfl) ?_<;>repeat' first|refine Z.p rfl ?_|fail "op call"|refine XL.nn ?_)<;>(apply X.r0 Tryz.results178;(focus (exact ⟨rfl, rfl⟩));exact fun _=>Conf.takes))))))<;>(first|refine Ex.then ?_|refine N.next ?_<;>(refine X.seq ?_<;>((refine X.st (by kernel_rfl) ?_<;>repeat' first|refine Z.p rfl ?_|refine XL.nn ?_)<;>(refine X.cond rfl ?_ ?_;rotate_left;(focus (intro hc;first|exact no_ hc rfl|(refine X.skip ?_)));rotate_right;(focus (intro hc;first|exact no_ hc rfl|((refine X.st (by kernel_rfl) ?_<;>repeat' first|refine Z.p rfl ?_|fail "op call"|refine XL.nn ?_)<;>refine X.tx (by kernel_rfl) ?_<;>repeat' first|refine Z.p rfl ?_|refine Z.g rfl (by omega) ?_|refine Z.w rfl ?_|refine XL.nil ?_)))))<;>(first|refine Ex.then ?_|refine N.next ?_<;>((refine X.st (by kernel_rfl) ?_<;>repeat' first|refine Z.p rfl ?_|fail "op call"|refine XL.nn ?_)<;>refine X.seq ?_<;>((refine X.st (by kernel_rfl) ?_<;>repeat' first|refine Z.p rfl ?_|refine Z.ct rfl (by omega) ?_|refine Z.cf rfl (by omega) ?_|refine Z.cs rfl (fun _=>?_) (fun _=>?_)|refine XL.nn ?_)<;>(refine X.cond rfl ?_ ?_;rotate_left;(focus (intro hc;first|exact no_ hc rfl|(refine X.skip ?_)));rotate_right;(focus (intro hc;first|exact no_ hc rfl|((refine X.st (by kernel_rfl) ?_<;>repeat' first|refine Z.p rfl ?_|fail "op call"|refine XL.nn ?_)<;>(refine X.st (by kernel_rfl) ?_<;>repeat' first|refine Z.p rfl ?_|refine Z.g rfl (by omega) ?_|refine Z.w rfl ?_|refine XL.nn ?_)<;>refine X.tx (by kernel_rfl) ?_<;>repeat' first|refine Z.p rfl ?_|refine XL.nil ?_)))))<;>(first|refine Ex.then ?_|refine N.next ?_<;>(refine X.seq ?_<;>((refine X.st (by kernel_rfl) ?_<;>repeat' first|refine Z.p rfl ?_|refine Z.pk rfl rfl rfl rfl ?_|refine Z.ct rfl (by omega) ?_|refine Z.cf rfl (by omega) ?_|refine Z.cs rfl (fun _=>?_) (fun _=>?_)|refine XL.nn ?_)<;>(refine X.cond rfl ?_ ?_;rotate_left;(focus (intro hc;first|exact no_ hc rfl|(refine X.skip ?_)));rotate_right;(focus (intro hc;first|exact no_ hc rfl|((refine X.st (by kernel_rfl) ?_<;>repeat' first|refine Z.p rfl ?_|fail "op call"|refine XL.nn ?_)<;>(refine X.cond rfl ?_ ?_;rotate_left;(focus (intro hc;first|exact no_ hc rfl|(refine X.skip ?_)));rotate_right;(focus (intro hc;first|exact no_ hc rfl|((apply X.r0 Tryz.results178;(focus (exact ⟨rfl, rfl⟩));exact fun _=>Conf.takes))))))))))<;>(first|refine Ex.then ?_|refine N.next ?_<;>(refine X.seq ?_<;>((refine X.sd (.a 0 (.a 1 (.a 2 (.a 3 (.a 4 (.a 5 (.a 6 (.a 7 (.b 8 (.a 9 (.a 10 (.a 11 (.b 12 (.c 13 (.a 14 (.a 15 (.a 16 .n))))))))))))))))) mixed (by kernel_rfl) ?_<;>repeat' first|refine XL.skipC rfl rfl rfl rfl ?_|refine Z.p rfl ?_|refine Z.ct rfl (by omega) ?_|refine Z.cf rfl (by omega) ?_|refine Z.cs rfl (fun _=>?_) (fun _=>?_)|refine Z.g rfl (by omega) ?_|refine Z.w rfl ?_|fail "op indexAddr"|refine Z.l1 rfl rfl rfl ?_|refine Z.lN rfl rfl rfl ?_|refine Z.lP rfl rfl rfl ?_|fail "op call"|refine Z.pk rfl rfl rfl rfl ?_|refine XL.nn ?_)<;>(refine X.cond rfl ?_ ?_;rotate_left;(focus (intro hc;first|exact no_ hc rfl|(refine X.skip ?_)));rotate_right;(focus (intro hc;first|exact no_ hc rfl|((refine X.st (by kernel_rfl) ?_<;>repeat' first|refine Z.p rfl ?_|fail "op call"|refine XL.nn ?_)<;>(refine X.st (by kernel_rfl) ?_<;>repeat' first|refine Z.p rfl ?_|refine XL.nn ?_)<;>refine X.exit ?_)))))<;>(first|refine Ex.then ?_|refine N.next ?_<;>((refine X.st (by kernel_rfl) ?_<;>repeat' first|refine Z.p rfl ?_|fail "op call"|refine XL.nn ?_)<;>(refine X.st (by kernel_rfl) ?_<;>repeat' first|refine Z.p rfl ?_|refine XL.nn ?_)<;>(refine X.st (by kernel_rfl) ?_<;>repeat' first|refine Z.p rfl ?_|refine Z.g rfl (by omega) ?_|refine Z.w rfl ?_|refine XL.nn ?_)<;>(refine X.st (by kernel_rfl) ?_<;>repeat' first|refine Z.p rfl ?_|refine Z.quo rfl rfl rfl (by omega) ?_|refine XL.nn ?_)<;>(refine X.st (by kernel_rfl) ?_<;>repeat' first|refine Z.p rfl ?_|refine Z.ct rfl (by omega) ?_|refine Z.cf rfl (by omega) ?_|refine Z.cs rfl (fun _=>?_) (fun _=>?_)|refine XL.nn ?_)<;>(refine X.cond rfl ?_ ?_;rotate_left;(focus (intro hc;first|exact no_ hc rfl|((refine X.st (by kernel_rfl) ?_<;>repeat' first|refine Z.p rfl ?_|refine Z.ct rfl (by omega) ?_|refine Z.cf rfl (by omega) ?_|refine Z.cs rfl (fun _=>?_) (fun _=>?_)|refine XL.nn ?_)<;>(refine X.st (by kernel_rfl) ?_<;>repeat' first|refine Z.p rfl ?_|refine Z.g rfl (by omega) ?_|refine Z.w rfl ?_|fail "op call"|refine XL.nn ?_)<;>refine X.tx (by kernel_rfl) ?_<;>repeat' first|refine Z.p rfl ?_|refine XL.nil ?_)));rotate_right;(focus (intro hc;first|exact no_ hc rfl|((refine X.st (by kernel_rfl) ?_<;>repeat' first|refine Z.p rfl ?_|refine Z.ct rfl (by omega) ?_|refine Z.cf rfl (by omega) ?_|refine Z.cs rfl (fun _=>?_) (fun _=>?_)|refine XL.nn ?_)<;>(refine X.st (by kernel_rfl) ?_<;>repeat' first|refine Z.p rfl ?_|fail "op call"|refine XL.nn ?_)<;>refine X.tx (by kernel_rfl) ?_<;>repeat' first|refine Z.p rfl ?_|refine Z.g rfl (by omega) ?_|refine Z.w rfl ?_|refine XL.nil ?_)))))))))))))))))<;>(first|refine N.block ?_|refine Ex.here ?_|refine Ex.out rfl ?_)) <;> (first | refine Ex.then ?_ | ((refine N.again (()) ?_ ?_ ?_ ?_; (focus (trivial)); (focus (first | omega | (dsimp only; omega))); (focus (repeat (first | exact Sub.nil | refine Sub.cons rfl ?_))); exact (fun w h => h.takes)))))<;>(first|refine N.block ?_|refine Ex.here ?_|refine Ex.out rfl ?_)) <;> ((repeat (first | refine Rt.then ?_ | refine Rt.block ?_ | refine Rt.scope ?_)); (first | apply N.done (Res.r0 Tryz.results178 ) | apply N.doneM (Res.r0 Tryz.results178 )); (focus (exact ⟨rfl, rfl⟩)); exact fun w h => h.takes)
theorem Sort_nil (w : World) (a : Option Addr) (c : Nat) (f : Value) : Spec Tryz.prog 172 #[.slice a 0 c, f] w (fun _ => False) (fun v A => v = .tuple #[] ∧ A = []) := by
  refine Spec.enter (args := [.slice a 0 c, f]) (A := []) Tryz.func172 rfl Tryz.ntmps172 rfl (fun _ h => h) ?_
  ((refine X.st (by kernel_rfl) ?_<;>repeat' first|refine Z.p rfl ?_|refine Z.ln rfl rfl ?_|refine Z.lnL rfl rfl ?_|refine Z.lnS rfl rfl ?_|refine XL.nn ?_)<;>refine X.tx (by kernel_rfl) ?_<;>repeat' first|refine Z.p rfl ?_|(refine XL.at 4 ?_;((refine XL.call rfl rfl rfl rfl (fun w hw => Len_spec w) ?_; rintro v B' ⟨r, rfl, rfl⟩; refine XL.both ?_)))|(refine XL.at 6 ?_;((refine XL.call rfl rfl rfl rfl (fun w hw => pdq_nil w a c f r) ?_; rintro v B' ⟨rfl, rfl⟩; refine XL.both ?_)))|refine Z.cv rfl rfl ?_|refine XL.nil ?_) <;> ((repeat (first | refine Rt.then ?_ | refine Rt.block ?_ | refine Rt.scope ?_)); (first | apply N.done (Res.r0 Tryz.results172 ) | apply N.doneM (Res.r0 Tryz.results172 )); (focus (exact ⟨rfl, rfl⟩)); exact fun w h => h.takes)

open Go.Sort Go.Shelf in
theorem swoI : SWO (ltOf (α := Sp) fun x y => cmpI x.1 y.1) := by
  have h : ∀ a b : Int, decide (cmpI a b < 0) = decide (a < b) := fun a b => by
    unfold cmpI
    congr 1
    apply propext
    split
    · omega
    · split <;> omega
  refine ⟨fun a => ?_, fun a b c h1 h2 => ?_, fun a b c h1 h2 => ?_⟩ <;> simp only [ltOf, h, decide_eq_true_eq, decide_eq_false_iff_not] at * <;> omega

theorem Clone_spec (w : World) (a : Option Addr) (n c : Nat) (l : List Sp) (hl : Rd w 2 a n c (encS l)) (hbd : n ≤ 1000000) : Spec Tryz.prog 171 #[.slice a n c] w (fun _ => False) (fun v A => ∃ a' c', v = .slice a' n c' ∧ A = [own 58 2 (.slice a' n c') n (encS l)]) := by
  have hn : a.isNone = true → n = 0 ∧ l = [] := fun h => by
    have h0 : n = 0 := by
      rcases Nat.eq_zero_or_pos n with h0 | h0
      · exact h0
      · have := hl.sm h0; cases a <;> simp at h this
    have := hl.spLen
    exact ⟨h0, List.length_eq_zero_iff.1 (by omega)⟩
  refine Spec.enter (args := [.slice a n c]) (A := []) Tryz.func171 rfl Tryz.ntmps171 rfl (fun _ h => h) ?_
  refine X.mem (B := [own 58 2 (.slice none 0 0) 0 []]) (fun w h => h.nilOwn 58 2) ?_
  ((refine X.st (by kernel_rfl) ?_<;>repeat' first|refine Z.p rfl ?_|refine XL.nn ?_)<;>refine X.seq ?_<;>((refine X.st (by kernel_rfl) ?_<;>repeat' first|refine Z.p rfl ?_|refine Z.eqN rfl rfl rfl ?_|refine XL.nn ?_)<;>(refine X.cond rfl ?_ ?_;rotate_left;(focus (intro hc;first|exact no_ hc rfl|(refine X.skip ?_)));rotate_right;(focus (intro hc;first|exact no_ hc rfl|((refine X.st (by kernel_rfl) ?_<;>repeat' first|refine Z.p rfl ?_|refine XL.nn ?_)<;>(apply X.r1 Tryz.results171 (RV.tmp rfl);(focus (first | (have h := hn (by assumption); obtain ⟨rfl, rfl⟩ := h; exact ⟨none, 0, rfl, (rfl : [own 58 2 (.slice none 0 0) 0 []] = _)⟩) | exact ⟨_, _, rfl, rfl⟩));exact fun _=>Conf.takes))))))<;>(first|refine Ex.then ?_|refine N.next ?_<;>((refine X.st (by kernel_rfl) ?_<;>repeat' first|refine Z.p rfl ?_|(refine XL.at 2 ?_;((refine XL.appendR (news := encS l) rfl rfl rfl rfl rfl (fun w hw => hl.conf0 hw) (encS_one l) (by unfold maxLen; omega) (fun _ _ => by infer_instance) (fun a' c' => ?_)); rw [Nat.zero_add, List.nil_append]))|refine XL.slice0 rfl rfl rfl (by intro g; infer_instance) (fun g => ?_)|refine XL.nn ?_)<;>(apply X.r1 Tryz.results171 (RV.tmp rfl);(focus (first | (have h := hn (by assumption); obtain ⟨rfl, rfl⟩ := h; exact ⟨none, 0, rfl, (rfl : [own 58 2 (.slice none 0 0) 0 []] = _)⟩) | exact ⟨_, _, rfl, rfl⟩));exact fun _=>Conf.takes))))

open Go.Sort Go.Shelf in
theorem Sort_spec (w : World) (H : Nat → Prop) (a : Option Addr) (n c : Nat) (l : List Sp) (hn : l.length = n) (hown : Sep [own 58 2 (.slice a n c) n (encS l)] w H) (hlt : n ≤ 1000000) : Spec Tryz.prog 172 #[.slice a n c, .func (.func 173) #[] #[]] w H (fun v A => ∃ l' : List Sp, v = .tuple #[] ∧ l'.Perm l ∧ (∀ (i j : Nat) (x y : Sp), i < j → l'[i]? = some x → l'[j]? = some y → ¬ cmpI y.1 x.1 < 0) ∧ A = [own 58 2 (.slice a n c) n (encS l')]) :=
  sort_row (ρ := Tryz.sortS_ren) (ag := inferInstanceAs (Ag Tryz.prog 58)) (hs := inferInstanceAs (Sz Tryz.prog 58 2)) Tryz.sortS encS1 2 (fun _ => rfl) (by omega) (fun x => by simp [encS1, Value.oneCell']) (fun x y => cmpI x.1 y.1) swoI 173 [] (fun x y W => joined1_spec x y W) w H a n c 58 l hn hown (by omega) (Sort_nil w none 0 _)

theorem joined_spec (w : World) (a : Option Addr) (c : Nat) (l : List Sp) (hl : Rd w 2 a l.length c (encS l)) (hm : ∀ x ∈ l, mayS x) (hbd : l.length ≤ 1000000) :
    Spec Tryz.prog 162 #[.slice a l.length c] w (fun _ => False) (fun v A => ∃ a' c' o, v = .slice a' (List.length o) c' ∧ SetOK o o.length ∧ (∀ t, inS o t ↔ inS l t) ∧ o.length ≤ l.length ∧ A = [own 58 2 (.slice a' o.length c') o.length (encS o)]) := by
  refine Spec.enter (args := [.slice a l.length c]) (A := []) Tryz.func162 rfl Tryz.ntmps162 rfl (fun _ h => h) ?_
  ((refine X.st (by kernel_rfl) ?_<;>repeat' first|refine Z.p rfl ?_|refine XL.nn ?_)<;>(refine X.st (by kernel_rfl) ?_<;>repeat' first|refine Z.p rfl ?_|(refine XL.at 1 ?_;((refine XL.call rfl rfl rfl rfl (fun w hw => Clone_spec w a l.length c l (hl.conf0 hw) hbd) ?_; rintro v B' ⟨a1, c1, rfl, rfl⟩; refine XL.both ?_)))|refine XL.nn ?_)<;>(refine X.st (by kernel_rfl) ?_<;>repeat' first|refine Z.p rfl ?_|(refine XL.at 1 ?_;((refine XL.callH [own 58 2 (.slice a1 l.length c1) l.length (encS l)] rfl rfl rfl rfl (fun w F hF hw => Sort_spec w F a1 l.length c1 l rfl hF hbd) ?_; rintro v B' ⟨l', rfl, hp, hs0, rfl⟩; refine XL.both ?_); have hll := hp.length_eq; have hm' : ∀ x ∈ l', mayS x := (fun x hx => hm x (hp.mem_iff.1 hx)); have hsort : (∀ (i j : Nat) (x y : Sp), i < j → l'[i]? = some x → l'[j]? = some y → ¬ y.1 < x.1) := (fun i j x y hij hx hy hlt => hs0 i j x y hij hx hy (by unfold cmpI; rw [if_pos hlt]; omega)); refine XL.mem (B := [own 58 2 (.slice none ([] : List Sp).length 0) ([] : List Sp).length (encS []), own 58 2 (.slice a1 l.length c1) l.length (encS l')]) (fun w h => h.nilOwn 58 2) ?_))|refine XL.nn ?_)<;>(refine X.st (by kernel_rfl) ?_<;>repeat' first|refine Z.p rfl ?_|refine XL.nn ?_)<;>refine X.seq ?_<;>((refine X.st (by kernel_rfl) ?_<;>repeat' first|refine Z.p rfl ?_|refine Z.ln rfl rfl ?_|refine Z.lnL rfl rfl ?_|refine Z.lnS rfl rfl ?_|refine XL.nn ?_)<;>refine X.block ?_<;>((refine X.loop (ι := Nat × List Sp × Option Addr × Nat) (fun x => [(3, .slice x.2.2.1 x.2.1.length x.2.2.2), (11, .slice a1 l.length c1), (12, .int .i64 l.length), (13, .int .i64 x.1)]) (fun x => [own 58 2 (.slice x.2.2.1 x.2.1.length x.2.2.2) x.2.1.length (encS x.2.1), own 58 2 (.slice a1 l.length c1) l.length (encS l')]) (fun x => JoI l' x.1 x.2.1) (fun x => l.length - x.1) ((0, [], none, 0)) ?_ ?_ ?_ ?_; (focus (exact JoI.start)); (focus (repeat (first | exact Sub.nil | refine Sub.cons rfl ?_))); (focus (exact (fun w h => h.takes))); rintro ⟨i, o, a', c'⟩ hJ; (dsimp only at *; have hi := hJ.hi; have hol := hJ.len)) <;> ((refine X.st (by kernel_rfl) ?_<;>repeat' first|(refine XL.at 0 ?_;(first | refine XL.splitF rfl rfl rfl rfl (D.int rfl rfl rfl) (fun h0 => ?_) (fun h0 => ?_)))|refine XL.nn ?_)<;>refine X.seq ?_<;>((refine X.cond rfl ?_ ?_;rotate_left;(focus (intro hc;first|exact no_ hc rfl|(refine X.exit ?_)));rotate_right;(focus (intro hc;first|exact no_ hc rfl|(refine X.skip ?_)))))<;>(first|refine Ex.then ?_|refine N.next ?_<;>(refine X.seq ?_<;>(refine X.block ?_<;>((refine X.st (by kernel_rfl) ?_<;>repeat' first|(refine XL.at 0 ?_;(have hil : i < l.length := (by omega); obtain ⟨s, hs⟩ := get_lt (l := l') (k := i) (by omega); have hsm := hm' s (List.mem_of_getElem? hs); refine XL.fact (fun w h => (h.ownRd (i := 1) rfl).sm (by omega)) (fun hsome => ?_); (apply XL.detF rfl rfl rfl rfl; exact D.indexAddr i rfl rfl rfl hil hsome)))|(refine XL.at 1 ?_;((apply XL.detF rfl rfl rfl rfl; exact D.loadN rfl rfl (fun w hw j u hu => Rd.sp (hw.ownRd (i := 1) rfl) hs j u hu))))|refine XL.alloc rfl rfl rfl (by intro g; infer_instance) (fun g => ?_)|refine XL.store1 rfl rfl rfl rfl rfl ?_|refine XL.storeN rfl rfl rfl rfl rfl rfl ?_|refine XL.storeP rfl rfl rfl rfl rfl rfl ?_|refine XL.nn ?_)<;>(refine X.st (by kernel_rfl) ?_<;>repeat' first|refine Z.p rfl ?_|(refine XL.at 2 ?_;((apply XL.det0F rfl rfl rfl rfl; exact D.sub64 rfl rfl (by omega))))|refine Z.ln rfl rfl ?_|refine Z.lnL rfl rfl ?_|refine Z.lnS rfl rfl ?_|refine XL.nn ?_)<;>refine X.seq ?_<;>((refine X.sd (.a 0 (.a 1 (.a 2 (.a 3 (.a 4 (.a 5 (.b 6 (.a 8 (.b 9 (.c 7 (.a 10 (.a 11 .n)))))))))))) mixed (by kernel_rfl) ?_<;>repeat' first|refine XL.skipC rfl rfl rfl rfl ?_|refine Z.p rfl ?_|(refine XL.at 1 ?_;(first | refine XL.split0 rfl rfl rfl rfl (D.int rfl rfl rfl) (fun h1 => ?_) (fun h1 => ?_)))|(refine XL.at 5 ?_;(have hy0 : o.length - 1 < o.length := (by omega); obtain ⟨y, hy⟩ := get_lt hy0; have hym := hJ.set.may hy0 hy; refine XL.fact (fun w h => (h.ownRd (i := 1) rfl).sm (by omega)) (fun hsome => ?_); (apply XL.det0 rfl rfl rfl rfl; exact D.indexAddr (o.length - 1) rfl rfl (by omega) hy0 hsome)))|(refine XL.at 6 ?_;((apply XL.det1 rfl rfl rfl rfl; exact D.loadN rfl rfl (fun w hw j u hu => Rd.sp (hw.ownRd (i := 1) rfl) hy j u hu))))|(refine XL.at 7 ?_;((refine XL.call rfl rfl rfl rfl (fun w hw => End_spec _ _ w) ?_; rintro v B' ⟨rfl, rfl⟩; refine XL.both ?_); rw [may_end hym]))|(refine XL.at 10 ?_;(first | refine XL.split0 rfl rfl rfl rfl (D.int rfl rfl rfl) (fun h2 => ?_) (fun h2 => ?_)))|refine Z.fa rfl rfl rfl ?_|refine Z.l1 rfl rfl rfl ?_|refine Z.lN rfl rfl rfl ?_|refine Z.lP rfl rfl rfl ?_|refine Z.pk rfl rfl rfl rfl ?_|refine XL.nn ?_)<;>(refine X.cond rfl ?_ ?_;rotate_left;(focus (intro hc;first|exact no_ hc rfl|(refine X.skip ?_)));rotate_right;(focus (intro hc;first|exact no_ hc rfl|((refine X.st (by kernel_rfl) ?_<;>repeat' first|refine Z.p rfl ?_|(refine XL.at 3 ?_;((refine XL.append rfl rfl rfl rfl rfl rfl ?_ ?_ (fun a' c' => ?_); (focus (skip; unfold maxLen; omega)); (focus (intro _ _; infer_instance))); rw [encS_snoc o (s.1, s.2), len_snoc o (s.1, s.2)]))|refine Z.l1 rfl rfl rfl ?_|refine Z.lN rfl rfl rfl ?_|refine Z.lP rfl rfl rfl ?_|refine XL.slice1 rfl rfl rfl rfl rfl rfl (by intro g; infer_instance) (fun g_ => ?_)|refine XL.nn ?_)<;>refine X.exit ?_)))))<;>(first|refine Ex.then ?_|refine N.next ?_<;>(refine X.draw (.a 0 (.a 1 (.a 2 (.a 3 (.a 4 (.a 5 (.b 6 (.a 7 (.a 8 (.a 9 (.b 10 (.b 12 (.c 11 (.c 13 (.a 14 (.c 15 (.a 16 (.f 17 .n)))))))))))))))))) mixed (by kernel_rfl) ?_<;>repeat' first|refine Z.p rfl ?_|(refine XL.at 4 ?_;((apply XL.det0 rfl rfl rfl rfl; exact D.indexAddr (o.length - 1) rfl rfl (by omega) hy0 hsome)))|(refine XL.at 6 ?_;((apply XL.det1 rfl rfl rfl rfl; exact D.load1 rfl (fun w hw => by have := Rd.sp (hw.ownRd (i := 1) rfl) hy 0 _ rfl; simpa [el_add] using this))))|(refine XL.at 9 ?_;((apply XL.det0 rfl rfl rfl rfl; exact D.indexAddr (o.length - 1) rfl rfl (by omega) hy0 hsome)))|(refine XL.at 10 ?_;((apply XL.det1 rfl rfl rfl rfl; exact D.loadN rfl rfl (fun w hw j u hu => Rd.sp (hw.ownRd (i := 1) rfl) hy j u hu))))|(refine XL.at 11 ?_;((refine XL.call rfl rfl rfl rfl (fun w hw => End_spec _ _ w) ?_; rintro v B' ⟨rfl, rfl⟩; refine XL.both ?_); rw [may_end hym]))|(refine XL.at 13 ?_;((refine XL.call rfl rfl rfl rfl (fun w hw => End_spec _ _ w) ?_; rintro v B' ⟨rfl, rfl⟩; refine XL.both ?_); rw [may_end hsm]))|(refine XL.at 15 ?_;((refine XL.call rfl rfl rfl rfl (fun w hw => between_spec _ _ w) ?_; rintro v B' ⟨rfl, rfl⟩; refine XL.both ?_); rw [D.wrap64_fit (by unfold mayS at hym hsm; omega)]))|(refine XL.at 16 ?_;((apply XL.det0 rfl rfl rfl rfl; exact D.indexAddr (o.length - 1) rfl rfl (by omega) hy0 hsome)))|(refine XL.at 17 ?_;(have hJ2 := hJ.merge hsort hm' hs hy (by omega); obtain ⟨o2, ho2, hl2⟩ : ∃ o2, o.set (o.length - 1) (y.1, max (y.1 + y.2) (s.1 + s.2) - y.1) = o2 ∧ o.length = o2.length := (⟨_, rfl, by simp⟩); rw [ho2] at hJ2; (refine XL.storeE (encS o2) rfl rfl rfl rfl rfl (by omega) (by rw [← ho2]; exact encS_set o (o.length - 1) (y.1, max (y.1 + y.2) (s.1 + s.2) - y.1) hy0) ?_); rw [hl2]))|refine Z.fa rfl rfl rfl ?_|refine Z.l1 rfl rfl rfl ?_|refine Z.lN rfl rfl rfl ?_|refine Z.lP rfl rfl rfl ?_|refine Z.mx rfl rfl rfl ?_|refine XL.nil ?_)))<;>(first|refine N.block ?_|refine Ex.here ?_|refine Ex.out rfl ?_))<;>(first|refine Ex.then ?_|refine N.next ?_<;>(refine X.tx (by kernel_rfl) ?_<;>repeat' first|refine Z.p rfl ?_|refine Z.g rfl (by omega) ?_|refine Z.w rfl ?_|refine XL.nil ?_))))) <;> (first | refine Ex.then ?_ | (first | (refine N.again ((i + 1, o ++ [s], a', c')) ?_ ?_ ?_ ?_; (focus (exact hJ.push hsort hm' hs (fun z hz => by first | (have := lt_of_get hz; omega) | (rw [hy] at hz; cases hz; omega)))); (focus (first | omega | (dsimp only; omega))); (focus (repeat (first | exact Sub.nil | refine Sub.cons rfl ?_))); exact (fun w h => h.takes)) | (refine N.again ((i + 1, o2, a', c')) ?_ ?_ ?_ ?_; (focus (exact hJ2)); (focus (first | omega | (dsimp only; omega))); (focus (repeat (first | exact Sub.nil | refine Sub.cons rfl ?_))); exact (fun w h => h.takes)))))<;>(first|refine N.block ?_|refine Ex.here ?_|refine Ex.out rfl ?_))<;>(first|refine Ex.then ?_|refine N.next ?_<;>((refine X.st (by kernel_rfl) ?_<;>repeat' first|refine Z.p rfl ?_|refine XL.nn ?_)<;>(apply X.r1 Tryz.results162 (RV.tmp rfl);(focus ((obtain rfl : i = l.length := by omega); exact ⟨a', c', o, rfl, hJ.set, fun t => by rw [hJ.mem t, ← hll, inTo_all]; unfold inS; simp [hp.mem_iff], hol, rfl⟩));exact fun _=>Conf.takes))))
end Go.Lx
