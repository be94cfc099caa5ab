import Derived.Test.YtakoppmiegjjlaaGreatDoorF4
import Derived.Test.YtakoppmiegjjlaaGreatDoorF46
import Derived.Test.YtakoppmiegjjlaaGreatDoorF45
set_option linter.unusedVariables false
set_option linter.unusedSimpArgs false
set_option maxRecDepth 20000
set_option maxHeartbeats 4000000
namespace Go.Lx
open Go.Proofs
namespace Z
section
variable {C:Cx} {A:List Assn} {Q:Exit→Act→World→Prop} {S:World→Prop} {env:Env} {ops:Array Oper} {r:Sd} {i d:Nat} {cl:Cl} {x y:Operand} {t u:TypeId}
end
end Z
end Go.Lx
namespace Go.Lx
open Go.Proofs
end Go.Lx
namespace Go.Lx
open Go.Proofs
theorem getT_mem{β:Type}:∀ {l:List (Bs×β)} {k:Bs} {d:β},getT l k=some d→(k,d)∈l
  |[],_,_,h=>by cases h
  |(a,b)::l,k,d,h=>by
    simp only [getT] at h
    split at h
    · rename_i hk;cases h;subst hk;exact List.mem_cons_self
    · exact List.mem_cons_of_mem _ (getT_mem h)
end Go.Lx
