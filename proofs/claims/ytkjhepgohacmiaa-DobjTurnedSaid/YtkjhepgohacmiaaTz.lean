/- The structs of this seat that may be compared, as instances of the own layer. Printed by gen_ty.py. -/
import Derived.Test.YtkjhepgohacmiaaTy
import Derived.Test.YtkjhepgohacmiaaXj
import Derived.KernelRfl
namespace Go.Lx
open Go.Proofs
set_option maxRecDepth 100000
theorem eqc52 : EqC Try.prog 52 2 [.I .i64, .I .i64] := EqC.mk' Try.underlying52 (by kernel_rfl) (by kernel_rfl) (.leaf (.I .i64) (by kernel_rfl) Try.underlying3 (.leaf (.I .i64) (by kernel_rfl) Try.underlying3 .nil))
instance : EqC Try.prog 52 2 [.I .i64, .I .i64] := eqc52
theorem eqc54 : EqC Try.prog 54 2 [.I .i64, .I .i64] := EqC.mk' Try.underlying54 (by kernel_rfl) (by kernel_rfl) (.leaf (.I .i64) (by kernel_rfl) Try.underlying3 (.leaf (.I .i64) (by kernel_rfl) Try.underlying3 .nil))
instance : EqC Try.prog 54 2 [.I .i64, .I .i64] := eqc54
theorem eqc56 : EqC Try.prog 56 4 [.I .i64, .I .i64, .I .i64, .I .i64] := EqC.mk' Try.underlying56 (by kernel_rfl) (by kernel_rfl) (.sub (l1 := [.I .i64, .I .i64]) (m := 2) (n := 2) (by kernel_rfl) eqc52 (by decide) (inferInstance : Sz Try.prog 52 2) (inferInstance : Ag Try.prog 52) (.sub (l1 := [.I .i64, .I .i64]) (m := 2) (n := 2) (by kernel_rfl) eqc54 (by decide) (inferInstance : Sz Try.prog 54 2) (inferInstance : Ag Try.prog 54) .nil))
instance : EqC Try.prog 56 4 [.I .i64, .I .i64, .I .i64, .I .i64] := eqc56
theorem eqc59 : EqC Try.prog 59 4 [.I .i64, .I .i64, .I .i64, .I .i64] := EqC.mk' Try.underlying59 (by kernel_rfl) (by kernel_rfl) (.sub (l1 := [.I .i64, .I .i64]) (m := 2) (n := 2) (by kernel_rfl) eqc52 (by decide) (inferInstance : Sz Try.prog 52 2) (inferInstance : Ag Try.prog 52) (.sub (l1 := [.I .i64, .I .i64]) (m := 2) (n := 2) (by kernel_rfl) eqc54 (by decide) (inferInstance : Sz Try.prog 54 2) (inferInstance : Ag Try.prog 54) .nil))
instance : EqC Try.prog 59 4 [.I .i64, .I .i64, .I .i64, .I .i64] := eqc59
theorem eqc62 : EqC Try.prog 62 4 [.I .i64, .I .i64, .I .i64, .I .i64] := EqC.mk' Try.underlying62 (by kernel_rfl) (by kernel_rfl) (.leaf (.I .i64) (by kernel_rfl) Try.underlying3 (.leaf (.I .i64) (by kernel_rfl) Try.underlying3 (.sub (l1 := [.I .i64, .I .i64]) (m := 2) (n := 2) (by kernel_rfl) eqc54 (by decide) (inferInstance : Sz Try.prog 54 2) (inferInstance : Ag Try.prog 54) .nil)))
instance : EqC Try.prog 62 4 [.I .i64, .I .i64, .I .i64, .I .i64] := eqc62
theorem eqc93 : EqC Try.prog 93 2 [.I .i64, .I .i64] := EqC.mk' Try.underlying93 (by kernel_rfl) (by kernel_rfl) (.leaf (.I .i64) (by kernel_rfl) Try.underlying3 (.leaf (.I .i64) (by kernel_rfl) Try.underlying33 .nil))
instance : EqC Try.prog 93 2 [.I .i64, .I .i64] := eqc93
theorem eqc95 : EqC Try.prog 95 4 [.I .i64, .I .i64, .S] := EqC.mk' Try.underlying95 (by kernel_rfl) (by kernel_rfl) (.sub (l1 := [.I .i64, .I .i64]) (m := 2) (n := 2) (by kernel_rfl) eqc93 (by decide) (inferInstance : Sz Try.prog 93 2) (inferInstance : Ag Try.prog 93) (.leaf (.S) (by kernel_rfl) Try.underlying9 .nil))
instance : EqC Try.prog 95 4 [.I .i64, .I .i64, .S] := eqc95
end Go.Lx
