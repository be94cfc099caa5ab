/- The structs of this seat that may be compared, as instances of the own layer. Printed by gen_ty.py. -/
import Derived.Test.YtlbcedllbobpaaaTy
import Derived.Test.YtlbcedllbobpaaaXj
import Derived.KernelRfl
namespace Go.Lx
open Go.Proofs
set_option maxRecDepth 100000
theorem eqc26 : EqC Try.prog 26 2 [.S, .I .i64] := EqC.mk' Try.underlying26 (by kernel_rfl) (by kernel_rfl) (.leaf (.S) (by kernel_rfl) Try.underlying9 (.leaf (.I .i64) (by kernel_rfl) Try.underlying3 .nil))
instance : EqC Try.prog 26 2 [.S, .I .i64] := eqc26
theorem eqc56 : EqC Try.prog 56 2 [.S, .I .i64, .I .i64] := EqC.mk' Try.underlying56 (by kernel_rfl) (by kernel_rfl) (.leaf (.S) (by kernel_rfl) Try.underlying9 (.leaf (.I .i64) (by kernel_rfl) Try.underlying3 (.leaf (.I .i64) (by kernel_rfl) Try.underlying3 .nil)))
instance : EqC Try.prog 56 2 [.S, .I .i64, .I .i64] := eqc56
theorem eqc79 : EqC Try.prog 79 2 [.S, .B] := EqC.mk' Try.underlying79 (by kernel_rfl) (by kernel_rfl) (.leaf (.S) (by kernel_rfl) Try.underlying9 (.leaf (.B) (by kernel_rfl) Try.underlying4 .nil))
instance : EqC Try.prog 79 2 [.S, .B] := eqc79
theorem eqc84 : EqC Try.prog 84 2 [.S, .I .i64, .I .i64] := EqC.mk' Try.underlying84 (by kernel_rfl) (by kernel_rfl) (.leaf (.S) (by kernel_rfl) Try.underlying9 (.leaf (.I .i64) (by kernel_rfl) Try.underlying3 (.leaf (.I .i64) (by kernel_rfl) Try.underlying3 .nil)))
instance : EqC Try.prog 84 2 [.S, .I .i64, .I .i64] := eqc84
theorem eqc104 : EqC Try.prog 104 2 [.I .i64, .I .i64] := EqC.mk' Try.underlying104 (by kernel_rfl) (by kernel_rfl) (.leaf (.I .i64) (by kernel_rfl) Try.underlying3 (.leaf (.I .i64) (by kernel_rfl) Try.underlying30 .nil))
instance : EqC Try.prog 104 2 [.I .i64, .I .i64] := eqc104
theorem eqc106 : EqC Try.prog 106 4 [.I .i64, .I .i64, .S] := EqC.mk' Try.underlying106 (by kernel_rfl) (by kernel_rfl) (.sub (l1 := [.I .i64, .I .i64]) (m := 2) (n := 2) (by kernel_rfl) eqc104 (by decide) (inferInstance : Sz Try.prog 104 2) (inferInstance : Ag Try.prog 104) (.leaf (.S) (by kernel_rfl) Try.underlying9 .nil))
instance : EqC Try.prog 106 4 [.I .i64, .I .i64, .S] := eqc106
end Go.Lx
