/- Texts Ki Km Kj, merged: a claim has at most 60 files. -/
import Derived.Test.YtakoppmiegjjlaaGreatDoorM4
import Derived.Test.YtakoppmiegjjlaaGreatDoorM32
/- The document's answer for states: Bytes, Check; the law's helpers. -/
namespace Go.Lx
open Go.Proofs
set_option linter.unusedVariables false
set_option linter.unusedSimpArgs false
set_option maxRecDepth 20000
set_option maxHeartbeats 4000000
end Go.Lx

/- Package ckpt's walks: Decode; and the document's. -/
namespace Go.Lx
open Go.Proofs
set_option linter.unusedVariables false
set_option linter.unusedSimpArgs false
set_option maxRecDepth 20000
set_option maxHeartbeats 4000000
end Go.Lx

/- Package ckpt's statements: CkptTells. -/
namespace Go.Lx
open Go.Proofs
set_option linter.unusedVariables false
set_option linter.unusedSimpArgs false
set_option maxRecDepth 20000
set_option maxHeartbeats 4000000
theorem Ck.eq' {c d : Ck} (h1 : c.k = d.k) (h2 : c.ep = d.ep) (h3 : c.sq = d.sq) (h4 : c.up = d.up) (h5 : c.sz = d.sz) (h6 : c.m = d.m) (h7 : c.r = d.r) (h8 : c.nt = d.nt) : c = d := by
  cases c; cases d; simp only at *; subst h1 h2 h3 h4 h5 h6 h7 h8; rfl
theorem kr_eq {u v : Kr} (h1 : u.1 = v.1) (h2 : u.2.1 = v.2.1) (h3 : u.2.2 = v.2.2) : u = v := Prod.ext h1 (Prod.ext h2 h3)
end Go.Lx
