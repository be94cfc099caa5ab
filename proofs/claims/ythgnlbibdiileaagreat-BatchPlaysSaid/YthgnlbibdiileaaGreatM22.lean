/- Texts Dg Bk Dh, merged: a claim has at most 60 files. -/
import Derived.Test.YthgnlbibdiileaaGreatM4
import Derived.Test.YthgnlbibdiileaaGreatM21
import Derived.Test.YthgnlbibdiileaaGreatM20
/- The document's answer for objects: bytes; the statements' helpers: walks. -/
namespace Go.Lx
open Go.Proofs
set_option linter.unusedVariables false
set_option linter.unusedSimpArgs false
set_option maxRecDepth 20000
set_option maxHeartbeats 4000000
end Go.Lx

/- Walks: the document's batch as an object. -/
namespace Go.Lx
open Go.Proofs
set_option linter.unusedVariables false
set_option linter.unusedSimpArgs false
set_option maxRecDepth 20000
set_option maxHeartbeats 4000000
structure RlJ where
  i : Nat
  a : Option Addr
  c : Nat
  ps : List Ext
  l : Bs
structure RlI (M : Md) (p : List Sp) (x : RlJ) : Prop where
  hi : x.i ≤ p.length
  ps : x.ps = ptsOf (p.take x.i)
  l : x.l = dataOf M (p.take x.i)
structure RlL (M : Md) (p : List Sp) (i : Nat) (s : Sp) (k : Nat) (l : Bs) : Prop where
  hk : k ≤ s.2.toNat
  l : l = dataOf M (p.take i) ++ ((secL s).take k).flatMap fun t => (M t).getD []
theorem RlL.leave {M : Md} {p : List Sp} {i k : Nat} {s : Sp} {l : Bs} {a : Option Addr} {c : Nat} {ps : List Ext} (h : RlL M p i s k l) (hs : p[i]? = some s) (hk : s.2.toNat ≤ k) (hps : ps = ptsOf (p.take i)) : RlI M p ⟨i + 1, a, c, ps ++ [⟨s.1, s.2, 0, 0⟩], l⟩ := by
  have hk2 := h.hk
  have e : (secL s).take k = secL s := List.take_of_length_le (by rw [secL_len]; omega)
  exact ⟨lt_of_get hs, by dsimp only; rw [ptsOf_take hs, hps], by dsimp only; rw [dataOf_take hs, h.l, e]⟩
theorem RlL.step {M : Md} {p : List Sp} {i k : Nat} {s : Sp} {l : Bs} (h : RlL M p i s k l) (hk : k < s.2.toNat) : RlL M p i s (k + 1) (l ++ (M (s.1 + (k : Int))).getD []) := by
  refine ⟨hk, ?_⟩
  rw [secL_snoc hk, List.flatMap_append, ← List.append_assoc, ← h.l]
  simp
end Go.Lx

/- The statements' helpers for objects: walks. -/
namespace Go.Lx
open Go.Proofs
set_option linter.unusedVariables false
set_option linter.unusedSimpArgs false
set_option maxRecDepth 20000
set_option maxHeartbeats 4000000
def vE4 (x : Ext) : Value := .agg #[.int .i64 x.a, .int .i64 x.n, .int .i64 x.q, .int .i64 x.p]
theorem Dob.eq' {o p : Dob} (h1 : o.k = p.k) (h2 : o.ep = p.ep) (h3 : o.sq = p.sq) (h4 : o.up = p.up) (h5 : o.ps = p.ps) (h6 : o.cs = p.cs) (h7 : o.d = p.d) : o = p := by
  cases o; cases p; simp only at *; subst h1 h2 h3 h4 h5 h6 h7; rfl

theorem lPart_spec (a n q p : Int) (w : World) : Spec Tryz.prog 30 #[.int .i64 a, .int .i64 n, .agg #[.int .i64 q, .int .i64 p]] w (fun _ => False) (fun v A => v = vE4 ⟨a, n, q, p⟩ ∧ A = []) := by
  unfold vE4
  refine Spec.enter (args := [.int .i64 a, .int .i64 n, .agg #[.int .i64 q, .int .i64 p]]) (A := []) Tryz.func30 rfl Tryz.ntmps30 rfl (fun _ h => h) ?_
  ((refine X.st (by kernel_rfl) ?_<;>repeat' first|refine XL.boxN rfl rfl rfl rfl (by intro g; infer_instance) (fun g => ?_)|refine XL.box1 rfl rfl rfl rfl rfl (by intro g; infer_instance) (fun g => ?_)|refine XL.alloc rfl rfl rfl (by intro g; infer_instance) (fun g => ?_)|refine XL.nn ?_)<;>(refine X.st (by kernel_rfl) ?_<;>repeat' first|refine Z.p rfl ?_|refine Z.bd rfl rfl ?_|refine Z.l1 rfl rfl rfl ?_|refine Z.lN rfl rfl rfl ?_|refine Z.lP rfl rfl rfl ?_|refine XL.store1 rfl rfl rfl rfl rfl ?_|refine XL.storeN rfl rfl rfl rfl rfl rfl ?_|refine XL.storeP rfl rfl rfl rfl rfl rfl ?_|refine XL.nn ?_)<;>(apply X.r1 Tryz.results30 (RV.of rfl);(focus (exact ⟨rfl, rfl⟩));exact fun _=>Conf.takes))

end Go.Lx
