/- The structs of this seat that may be compared, as instances of the own layer. Printed by gen_ty.py. -/
import Derived.Test.YtnljlpmeeeajmaaTy
import Derived.Test.YtnljlpmeeeajmaaXj
import Derived.KernelRfl
namespace Go.Lx
open Go.Proofs
set_option maxRecDepth 100000
theorem eqc26 : EqC Try.prog 26 2 [.I .i64, .I .i64] := EqC.mk' Try.underlying26 (by kernel_rfl) (by kernel_rfl) (.leaf (.I .i64) (by kernel_rfl) Try.underlying3 (.leaf (.I .i64) (by kernel_rfl) Try.underlying3 .nil))
instance : EqC Try.prog 26 2 [.I .i64, .I .i64] := eqc26
theorem eqc28 : EqC Try.prog 28 2 [.I .i64, .I .i64] := EqC.mk' Try.underlying28 (by kernel_rfl) (by kernel_rfl) (.leaf (.I .i64) (by kernel_rfl) Try.underlying3 (.leaf (.I .i64) (by kernel_rfl) Try.underlying3 .nil))
instance : EqC Try.prog 28 2 [.I .i64, .I .i64] := eqc28
theorem eqc30 : EqC Try.prog 30 4 [.I .i64, .I .i64, .I .i64, .I .i64] := EqC.mk' Try.underlying30 (by kernel_rfl) (by kernel_rfl) (.sub (l1 := [.I .i64, .I .i64]) (m := 2) (n := 2) (by kernel_rfl) eqc26 (by decide) (inferInstance : Sz Try.prog 26 2) (inferInstance : Ag Try.prog 26) (.sub (l1 := [.I .i64, .I .i64]) (m := 2) (n := 2) (by kernel_rfl) eqc28 (by decide) (inferInstance : Sz Try.prog 28 2) (inferInstance : Ag Try.prog 28) .nil))
instance : EqC Try.prog 30 4 [.I .i64, .I .i64, .I .i64, .I .i64] := eqc30
end Go.Lx
