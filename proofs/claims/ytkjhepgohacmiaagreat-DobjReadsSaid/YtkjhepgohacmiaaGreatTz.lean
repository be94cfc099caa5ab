/- The structs of this seat that may be compared, as instances of the own layer. Printed by gen_ty.py. -/
import Derived.Test.YtkjhepgohacmiaaGreatTy
import Derived.Test.YtkjhepgohacmiaaGreatXj
import Derived.KernelRfl
namespace Go.Lx
open Go.Proofs
set_option maxRecDepth 100000
theorem eqc49 : EqC Tryz.prog 49 2 [.I .i64, .I .i64] := EqC.mk' Tryz.underlying49 (by kernel_rfl) (by kernel_rfl) (.leaf (.I .i64) (by kernel_rfl) Tryz.underlying3 (.leaf (.I .i64) (by kernel_rfl) Tryz.underlying3 .nil))
instance : EqC Tryz.prog 49 2 [.I .i64, .I .i64] := eqc49
theorem eqc62 : EqC Tryz.prog 62 2 [.I .i64, .I .i64] := EqC.mk' Tryz.underlying62 (by kernel_rfl) (by kernel_rfl) (.leaf (.I .i64) (by kernel_rfl) Tryz.underlying3 (.leaf (.I .i64) (by kernel_rfl) Tryz.underlying3 .nil))
instance : EqC Tryz.prog 62 2 [.I .i64, .I .i64] := eqc62
theorem eqc64 : EqC Tryz.prog 64 4 [.I .i64, .I .i64, .I .i64, .I .i64] := EqC.mk' Tryz.underlying64 (by kernel_rfl) (by kernel_rfl) (.sub (l1 := [.I .i64, .I .i64]) (m := 2) (n := 2) (by kernel_rfl) eqc62 (by decide) (inferInstance : Sz Tryz.prog 62 2) (inferInstance : Ag Tryz.prog 62) (.sub (l1 := [.I .i64, .I .i64]) (m := 2) (n := 2) (by kernel_rfl) eqc49 (by decide) (inferInstance : Sz Tryz.prog 49 2) (inferInstance : Ag Tryz.prog 49) .nil))
instance : EqC Tryz.prog 64 4 [.I .i64, .I .i64, .I .i64, .I .i64] := eqc64
theorem eqc73 : EqC Tryz.prog 73 4 [.I .i64, .I .i64, .I .i64, .I .i64] := EqC.mk' Tryz.underlying73 (by kernel_rfl) (by kernel_rfl) (.sub (l1 := [.I .i64, .I .i64]) (m := 2) (n := 2) (by kernel_rfl) eqc62 (by decide) (inferInstance : Sz Tryz.prog 62 2) (inferInstance : Ag Tryz.prog 62) (.sub (l1 := [.I .i64, .I .i64]) (m := 2) (n := 2) (by kernel_rfl) eqc49 (by decide) (inferInstance : Sz Tryz.prog 49 2) (inferInstance : Ag Tryz.prog 49) .nil))
instance : EqC Tryz.prog 73 4 [.I .i64, .I .i64, .I .i64, .I .i64] := eqc73
theorem eqc87 : EqC Tryz.prog 87 2 [.S, .B] := EqC.mk' Tryz.underlying87 (by kernel_rfl) (by kernel_rfl) (.leaf (.S) (by kernel_rfl) Tryz.underlying9 (.leaf (.B) (by kernel_rfl) Tryz.underlying4 .nil))
instance : EqC Tryz.prog 87 2 [.S, .B] := eqc87
theorem eqc90 : EqC Tryz.prog 90 4 [.I .i64, .I .i64, .I .i64, .I .i64] := EqC.mk' Tryz.underlying90 (by kernel_rfl) (by kernel_rfl) (.leaf (.I .i64) (by kernel_rfl) Tryz.underlying3 (.leaf (.I .i64) (by kernel_rfl) Tryz.underlying3 (.sub (l1 := [.I .i64, .I .i64]) (m := 2) (n := 2) (by kernel_rfl) eqc49 (by decide) (inferInstance : Sz Tryz.prog 49 2) (inferInstance : Ag Tryz.prog 49) .nil)))
instance : EqC Tryz.prog 90 4 [.I .i64, .I .i64, .I .i64, .I .i64] := eqc90
theorem eqc119 : EqC Tryz.prog 119 2 [.I .i64, .I .i64] := EqC.mk' Tryz.underlying119 (by kernel_rfl) (by kernel_rfl) (.leaf (.I .i64) (by kernel_rfl) Tryz.underlying3 (.leaf (.I .i64) (by kernel_rfl) Tryz.underlying28 .nil))
instance : EqC Tryz.prog 119 2 [.I .i64, .I .i64] := eqc119
theorem eqc121 : EqC Tryz.prog 121 4 [.I .i64, .I .i64, .S] := EqC.mk' Tryz.underlying121 (by kernel_rfl) (by kernel_rfl) (.sub (l1 := [.I .i64, .I .i64]) (m := 2) (n := 2) (by kernel_rfl) eqc119 (by decide) (inferInstance : Sz Tryz.prog 119 2) (inferInstance : Ag Tryz.prog 119) (.leaf (.S) (by kernel_rfl) Tryz.underlying9 .nil))
instance : EqC Tryz.prog 121 4 [.I .i64, .I .i64, .S] := eqc121
end Go.Lx
