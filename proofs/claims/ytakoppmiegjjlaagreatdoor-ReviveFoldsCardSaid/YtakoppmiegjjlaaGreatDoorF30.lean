import Derived.Test.YtakoppmiegjjlaaGreatDoorF4
import Derived.Test.YtakoppmiegjjlaaGreatDoorF29
import Derived.Test.YtakoppmiegjjlaaGreatDoorF24
import Derived.Test.YtakoppmiegjjlaaGreatDoorF5
import Derived.Test.YtakoppmiegjjlaaGreatDoorF26
set_option linter.unusedVariables false
set_option linter.unusedSimpArgs false
set_option maxRecDepth 20000
set_option maxHeartbeats 4000000
namespace Go.Lx
open Go.Proofs
end Go.Lx
namespace Go.Lx
open Go.Proofs
end Go.Lx
namespace Go.Lx
open Go.Proofs
theorem Rd.extSpot{w:World}{a:Option Addr}{n c m:Nat}{xs:List Ext}{x:Ext}(h:Rd w 4 a n c (encE xs))(hx:xs[m]?=some x):∀ j u,[Value.int .i64 x.q,.int .i64 x.p][j]?=some u→w.cell? ((el a (m*4+2)).add j)=some u:=fun j u hu=>by
  have:=Rd.extE h hx (2+j) u (by rw [show 2+j=j+1+1 by omega];simpa using hu)
  rw [el_add] at this ⊢
  rw [show m*4+2+j=m*4+(2+j) by omega]
  exact this
theorem Rd.extN{w:World}{a:Option Addr}{n c m:Nat}{xs:List Ext}{x:Ext}(h:Rd w 4 a n c (encE xs))(hx:xs[m]?=some x):w.cell? (el a (m*4+1))=some (.int .i64 x.n):=by
  have:=Rd.extE h hx 1 _ rfl
  rw [el_add] at this
  exact this
end Go.Lx
