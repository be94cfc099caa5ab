import Derived.Test.YtakoppmiegjjlaaGreatDoorF49
import Derived.Test.YtakoppmiegjjlaaGreatDoorF4
import Derived.Test.YtakoppmiegjjlaaGreatDoorF47
import Derived.Test.YtakoppmiegjjlaaGreatDoorF36
set_option linter.unusedVariables false
set_option linter.unusedSimpArgs false
set_option maxRecDepth 20000
set_option maxHeartbeats 8000000
namespace Go.Lx
open Go.Proofs
end Go.Lx
namespace Go.Lx
open Go.Proofs
end Go.Lx
namespace Go.Lx
open Go.Proofs
theorem Kh.got{h:Kh}{C:Cx}{w:World}{A:List Assn}(i:Nat)(hat:A[i]?=some (ckA h))(hx:h.o=false→h.rd w)(hw:Conf C A w):h.rd w:=by
  obtain⟨F,hp,hF⟩:=hw.get hat
  obtain⟨_,_,hs⟩:=hp
  cases ho:h.o
  · exact hx ho
  · rw [if_pos ho] at hs
    obtain⟨F1,F2,h1,h2,_,_⟩:=hs
    exact⟨(own_rd h1).1,(own_rd h2.one').1⟩
end Go.Lx
