/- Texts Dh Di Dk, merged: a claim has at most 60 files. -/
import Derived.Test.YtakoppmiegjjlaaGreatDoorM4
import Derived.Test.YtakoppmiegjjlaaGreatDoorM23
import Derived.Test.YtakoppmiegjjlaaGreatDoorM17
/- The statements' helpers for objects: walks. -/
namespace Go.Lx
open Go.Proofs
set_option linter.unusedVariables false
set_option linter.unusedSimpArgs false
set_option maxRecDepth 20000
set_option maxHeartbeats 4000000
theorem Dob.eq' {o p : Dob} (h1 : o.k = p.k) (h2 : o.ep = p.ep) (h3 : o.sq = p.sq) (h4 : o.up = p.up) (h5 : o.ps = p.ps) (h6 : o.cs = p.cs) (h7 : o.d = p.d) : o = p := by
  cases o; cases p; simp only at *; subst h1 h2 h3 h4 h5 h6 h7; rfl
end Go.Lx

/- Package dobj's statements: the chapter's example. -/
namespace Go.Lx
open Go.Proofs
set_option linter.unusedVariables false
set_option linter.unusedSimpArgs false
set_option maxRecDepth 20000
set_option maxHeartbeats 40000000
end Go.Lx

/- The document's answer for objects: what bytes are; DobjReads. -/
namespace Go.Lx
open Go.Proofs
set_option linter.unusedVariables false
set_option linter.unusedSimpArgs false
set_option maxRecDepth 20000
set_option maxHeartbeats 4000000
structure RJ where
  s : Bs
  b : Bool
  a : Option Addr
  c : Nat
  l : List Ext
structure RK where
  s : Bs
  b : Bool
  a : Option Addr
  c : Nat
  l : List Sp
theorem RfR.ln {α : Type} {f : Bs → Option (α × Nat)} {d : α} {s s' : Bs} {o o' : Bool} {x : α} (h : RfR f d s o x s' o') : s'.length ≤ s.length := h.len
end Go.Lx
