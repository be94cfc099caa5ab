/- The structs of this seat that may be compared, as instances of the own layer. Printed by gen_ty.py. -/
import Derived.Test.YtapkpicloanbcaaTy
import Derived.Test.YtapkpicloanbcaaXj
import Derived.KernelRfl
namespace Go.Lx
open Go.Proofs
set_option maxRecDepth 100000
theorem eqc36 : EqC Try.prog 36 2 [.I .i64, .I .i64, .I .i64] := EqC.mk' Try.underlying36 (by kernel_rfl) (by kernel_rfl) (.leaf (.I .i64) (by kernel_rfl) Try.underlying3 (.leaf (.I .i64) (by kernel_rfl) Try.underlying3 (.leaf (.I .i64) (by kernel_rfl) Try.underlying3 .nil)))
instance : EqC Try.prog 36 2 [.I .i64, .I .i64, .I .i64] := eqc36
theorem eqc53 : EqC Try.prog 53 2 [.I .i64, .I .i64] := EqC.mk' Try.underlying53 (by kernel_rfl) (by kernel_rfl) (.leaf (.I .i64) (by kernel_rfl) Try.underlying3 (.leaf (.I .i64) (by kernel_rfl) Try.underlying3 .nil))
instance : EqC Try.prog 53 2 [.I .i64, .I .i64] := eqc53
theorem eqc55 : EqC Try.prog 55 2 [.I .i64, .I .i64] := EqC.mk' Try.underlying55 (by kernel_rfl) (by kernel_rfl) (.leaf (.I .i64) (by kernel_rfl) Try.underlying3 (.leaf (.I .i64) (by kernel_rfl) Try.underlying3 .nil))
instance : EqC Try.prog 55 2 [.I .i64, .I .i64] := eqc55
theorem eqc57 : EqC Try.prog 57 4 [.I .i64, .I .i64, .I .i64, .I .i64] := EqC.mk' Try.underlying57 (by kernel_rfl) (by kernel_rfl) (.sub (l1 := [.I .i64, .I .i64]) (m := 2) (n := 2) (by kernel_rfl) eqc53 (by decide) (inferInstance : Sz Try.prog 53 2) (inferInstance : Ag Try.prog 53) (.sub (l1 := [.I .i64, .I .i64]) (m := 2) (n := 2) (by kernel_rfl) eqc55 (by decide) (inferInstance : Sz Try.prog 55 2) (inferInstance : Ag Try.prog 55) .nil))
instance : EqC Try.prog 57 4 [.I .i64, .I .i64, .I .i64, .I .i64] := eqc57
theorem eqc59 : EqC Try.prog 59 6 [.I .i64, .I .i64, .I .i64, .I .i64, .I .i64, .I .i64] := EqC.mk' Try.underlying59 (by kernel_rfl) (by kernel_rfl) (.sub (l1 := [.I .i64, .I .i64, .I .i64, .I .i64]) (m := 4) (n := 4) (by kernel_rfl) eqc57 (by decide) (inferInstance : Sz Try.prog 57 4) (inferInstance : Ag Try.prog 57) (.sub (l1 := [.I .i64, .I .i64]) (m := 2) (n := 4) (by kernel_rfl) eqc55 (by decide) (inferInstance : Sz Try.prog 55 2) (inferInstance : Ag Try.prog 55) .nil))
instance : EqC Try.prog 59 6 [.I .i64, .I .i64, .I .i64, .I .i64, .I .i64, .I .i64] := eqc59
theorem eqc68 : EqC Try.prog 68 2 [.I .i64, .I .i64, .I .i64] := EqC.mk' Try.underlying68 (by kernel_rfl) (by kernel_rfl) (.leaf (.I .i64) (by kernel_rfl) Try.underlying3 (.leaf (.I .i64) (by kernel_rfl) Try.underlying3 (.leaf (.I .i64) (by kernel_rfl) Try.underlying3 .nil)))
instance : EqC Try.prog 68 2 [.I .i64, .I .i64, .I .i64] := eqc68
end Go.Lx
