/- The types and functions of this seat's translation, as instances of the own layer's classes. Printed by gen_ty.py. -/
import Derived.Test.YtapkpicloanbcaaProg
import Derived.Test.YtapkpicloanbcaaXf
import Derived.KernelRfl
namespace Go.Lx
open Go.Proofs
set_option maxRecDepth 100000
instance : Sz Try.prog 1 1 := Sz.mk' (by kernel_rfl)
instance : One Try.prog 1 := One.mk' Try.underlying1 rfl
instance : Zc Try.prog 1 [(.nilFunc)] := Zc.mk' (z := .nilFunc) (by kernel_rfl) rfl
instance : ElT Try.prog 1 1 8 := ElT.mk' (z := .nilFunc) (by kernel_rfl) rfl (by decide)
instance : Sz Try.prog 2 1 := Sz.mk' (by kernel_rfl)
instance : IntT Try.prog 2 .i64 := ⟨Try.underlying2⟩
instance : One Try.prog 2 := One.mk' Try.underlying2 rfl
instance : Zc Try.prog 2 [(.int .i64 0)] := Zc.mk' (z := .int .i64 0) (by kernel_rfl) rfl
instance : ElT Try.prog 2 1 8 := ElT.mk' (z := .int .i64 0) (by kernel_rfl) rfl (by decide)
instance : Sz Try.prog 3 1 := Sz.mk' (by kernel_rfl)
instance : IntT Try.prog 3 .i64 := ⟨Try.underlying3⟩
instance : One Try.prog 3 := One.mk' Try.underlying3 rfl
instance : Zc Try.prog 3 [(.int .i64 0)] := Zc.mk' (z := .int .i64 0) (by kernel_rfl) rfl
instance : ElT Try.prog 3 1 8 := ElT.mk' (z := .int .i64 0) (by kernel_rfl) rfl (by decide)
instance : Sz Try.prog 4 1 := Sz.mk' (by kernel_rfl)
instance : BoolT Try.prog 4 := ⟨Try.underlying4⟩
instance : One Try.prog 4 := One.mk' Try.underlying4 rfl
instance : Zc Try.prog 4 [(.bool false)] := Zc.mk' (z := .bool false) (by kernel_rfl) rfl
instance : ElT Try.prog 4 1 1 := ElT.mk' (z := .bool false) (by kernel_rfl) rfl (by decide)
instance : Sz Try.prog 5 1 := Sz.mk' (by kernel_rfl)
instance : IntT Try.prog 5 .u8 := ⟨Try.underlying5⟩
instance : One Try.prog 5 := One.mk' Try.underlying5 rfl
instance : Zc Try.prog 5 [(.int .u8 0)] := Zc.mk' (z := .int .u8 0) (by kernel_rfl) rfl
instance : ElT Try.prog 5 1 1 := ElT.mk' (z := .int .u8 0) (by kernel_rfl) rfl (by decide)
instance : Sz Try.prog 6 1 := Sz.mk' (by kernel_rfl)
instance : IntT Try.prog 6 .u8 := ⟨Try.underlying6⟩
instance : One Try.prog 6 := One.mk' Try.underlying6 rfl
instance : Zc Try.prog 6 [(.int .u8 0)] := Zc.mk' (z := .int .u8 0) (by kernel_rfl) rfl
instance : ElT Try.prog 6 1 1 := ElT.mk' (z := .int .u8 0) (by kernel_rfl) rfl (by decide)
instance : Sz Try.prog 7 4 := Sz.mk' (by kernel_rfl)
instance : Ag Try.prog 7 := Ag.mk' Try.underlying7 rfl
instance : Fld Try.prog 7 0 0 2 := Fld.mk' Try.underlying7 rfl
instance : Fld Try.prog 7 1 1 3 := Fld.mk' Try.underlying7 rfl
instance : Fld Try.prog 7 2 2 4 := Fld.mk' Try.underlying7 rfl
instance : Fld Try.prog 7 3 3 6 := Fld.mk' Try.underlying7 rfl
instance : Zc Try.prog 7 [(.int .i64 0), (.int .i64 0), (.bool false), (.int .u8 0)] := Zc.mk' (z := .agg #[(.int .i64 0), (.int .i64 0), (.bool false), (.int .u8 0)]) (by kernel_rfl) rfl
instance : StT Try.prog 7 [(0, 1), (1, 1), (2, 1), (3, 1)] [(.int .i64 0), (.int .i64 0), (.bool false), (.int .u8 0)] := StT.mk' (z := .agg #[(.int .i64 0), (.int .i64 0), (.bool false), (.int .u8 0)]) Try.underlying7 (by kernel_rfl) rfl (by kernel_rfl)
instance : ElT Try.prog 7 4 24 := ElT.mk' (z := .agg #[(.int .i64 0), (.int .i64 0), (.bool false), (.int .u8 0)]) (by kernel_rfl) rfl (by decide)
instance : Sz Try.prog 8 4 := Sz.mk' (by kernel_rfl)
instance : Ag Try.prog 8 := Ag.mk' Try.underlying8 rfl
instance : Fld Try.prog 8 0 0 2 := Fld.mk' Try.underlying8 rfl
instance : Fld Try.prog 8 1 1 3 := Fld.mk' Try.underlying8 rfl
instance : Fld Try.prog 8 2 2 4 := Fld.mk' Try.underlying8 rfl
instance : Fld Try.prog 8 3 3 6 := Fld.mk' Try.underlying8 rfl
instance : Zc Try.prog 8 [(.int .i64 0), (.int .i64 0), (.bool false), (.int .u8 0)] := Zc.mk' (z := .agg #[(.int .i64 0), (.int .i64 0), (.bool false), (.int .u8 0)]) (by kernel_rfl) rfl
instance : StT Try.prog 8 [(0, 1), (1, 1), (2, 1), (3, 1)] [(.int .i64 0), (.int .i64 0), (.bool false), (.int .u8 0)] := StT.mk' (z := .agg #[(.int .i64 0), (.int .i64 0), (.bool false), (.int .u8 0)]) Try.underlying8 (by kernel_rfl) rfl (by kernel_rfl)
instance : ElT Try.prog 8 4 24 := ElT.mk' (z := .agg #[(.int .i64 0), (.int .i64 0), (.bool false), (.int .u8 0)]) (by kernel_rfl) rfl (by decide)
instance : Sz Try.prog 9 1 := Sz.mk' (by kernel_rfl)
instance : StrT Try.prog 9 := ⟨Try.underlying9⟩
instance : One Try.prog 9 := One.mk' Try.underlying9 rfl
instance : Zc Try.prog 9 [(.string ByteArray.empty)] := Zc.mk' (z := .string ByteArray.empty) (by kernel_rfl) rfl
instance : ElT Try.prog 9 1 16 := ElT.mk' (z := .string ByteArray.empty) (by kernel_rfl) rfl (by decide)
instance : Sz Try.prog 10 1 := Sz.mk' (by kernel_rfl)
instance : StrT Try.prog 10 := ⟨Try.underlying10⟩
instance : One Try.prog 10 := One.mk' Try.underlying10 rfl
instance : Zc Try.prog 10 [(.string ByteArray.empty)] := Zc.mk' (z := .string ByteArray.empty) (by kernel_rfl) rfl
instance : ElT Try.prog 10 1 16 := ElT.mk' (z := .string ByteArray.empty) (by kernel_rfl) rfl (by decide)
instance : Sz Try.prog 11 1 := Sz.mk' (by kernel_rfl)
instance : StrT Try.prog 11 := ⟨Try.underlying11⟩
instance : One Try.prog 11 := One.mk' Try.underlying11 rfl
instance : Zc Try.prog 11 [(.string ByteArray.empty)] := Zc.mk' (z := .string ByteArray.empty) (by kernel_rfl) rfl
instance : ElT Try.prog 11 1 16 := ElT.mk' (z := .string ByteArray.empty) (by kernel_rfl) rfl (by decide)
instance : Sz Try.prog 12 1 := Sz.mk' (by kernel_rfl)
instance : IntT Try.prog 12 .u64 := ⟨Try.underlying12⟩
instance : One Try.prog 12 := One.mk' Try.underlying12 rfl
instance : Zc Try.prog 12 [(.int .u64 0)] := Zc.mk' (z := .int .u64 0) (by kernel_rfl) rfl
instance : ElT Try.prog 12 1 8 := ElT.mk' (z := .int .u64 0) (by kernel_rfl) rfl (by decide)
instance : Sz Try.prog 13 2 := Sz.mk' (by kernel_rfl)
instance : Ag Try.prog 13 := Ag.mk' Try.underlying13 rfl
instance : Fld Try.prog 13 0 0 9 := Fld.mk' Try.underlying13 rfl
instance : Fld Try.prog 13 1 1 12 := Fld.mk' Try.underlying13 rfl
instance : Zc Try.prog 13 [(.string ByteArray.empty), (.int .u64 0)] := Zc.mk' (z := .agg #[(.string ByteArray.empty), (.int .u64 0)]) (by kernel_rfl) rfl
instance : StT Try.prog 13 [(0, 1), (1, 1)] [(.string ByteArray.empty), (.int .u64 0)] := StT.mk' (z := .agg #[(.string ByteArray.empty), (.int .u64 0)]) Try.underlying13 (by kernel_rfl) rfl (by kernel_rfl)
instance : ElT Try.prog 13 2 24 := ElT.mk' (z := .agg #[(.string ByteArray.empty), (.int .u64 0)]) (by kernel_rfl) rfl (by decide)
instance : Sz Try.prog 14 2 := Sz.mk' (by kernel_rfl)
instance : Ag Try.prog 14 := Ag.mk' Try.underlying14 rfl
instance : Fld Try.prog 14 0 0 9 := Fld.mk' Try.underlying14 rfl
instance : Fld Try.prog 14 1 1 12 := Fld.mk' Try.underlying14 rfl
instance : Zc Try.prog 14 [(.string ByteArray.empty), (.int .u64 0)] := Zc.mk' (z := .agg #[(.string ByteArray.empty), (.int .u64 0)]) (by kernel_rfl) rfl
instance : StT Try.prog 14 [(0, 1), (1, 1)] [(.string ByteArray.empty), (.int .u64 0)] := StT.mk' (z := .agg #[(.string ByteArray.empty), (.int .u64 0)]) Try.underlying14 (by kernel_rfl) rfl (by kernel_rfl)
instance : ElT Try.prog 14 2 24 := ElT.mk' (z := .agg #[(.string ByteArray.empty), (.int .u64 0)]) (by kernel_rfl) rfl (by decide)
instance : Sz Try.prog 15 1 := Sz.mk' (by kernel_rfl)
instance : PtrT Try.prog 15 123 := ⟨Try.underlying15⟩
instance : One Try.prog 15 := One.mk' Try.underlying15 rfl
instance : Zc Try.prog 15 [(.pointer none)] := Zc.mk' (z := .pointer none) (by kernel_rfl) rfl
instance : ElT Try.prog 15 1 8 := ElT.mk' (z := .pointer none) (by kernel_rfl) rfl (by decide)
instance : Sz Try.prog 16 1 := Sz.mk' (by kernel_rfl)
instance : PtrT Try.prog 16 126 := ⟨Try.underlying16⟩
instance : One Try.prog 16 := One.mk' Try.underlying16 rfl
instance : Zc Try.prog 16 [(.pointer none)] := Zc.mk' (z := .pointer none) (by kernel_rfl) rfl
instance : ElT Try.prog 16 1 8 := ElT.mk' (z := .pointer none) (by kernel_rfl) rfl (by decide)
instance : Sz Try.prog 17 1 := Sz.mk' (by kernel_rfl)
instance : PtrT Try.prog 17 135 := ⟨Try.underlying17⟩
instance : One Try.prog 17 := One.mk' Try.underlying17 rfl
instance : Zc Try.prog 17 [(.pointer none)] := Zc.mk' (z := .pointer none) (by kernel_rfl) rfl
instance : ElT Try.prog 17 1 8 := ElT.mk' (z := .pointer none) (by kernel_rfl) rfl (by decide)
instance : Sz Try.prog 18 1 := Sz.mk' (by kernel_rfl)
instance : Ag Try.prog 18 := Ag.mk' Try.underlying18 rfl
instance : Fld Try.prog 18 0 0 17 := Fld.mk' Try.underlying18 rfl
instance : Zc Try.prog 18 [(.pointer none)] := Zc.mk' (z := .agg #[(.pointer none)]) (by kernel_rfl) rfl
instance : StT Try.prog 18 [(0, 1)] [(.pointer none)] := StT.mk' (z := .agg #[(.pointer none)]) Try.underlying18 (by kernel_rfl) rfl (by kernel_rfl)
instance : ElT Try.prog 18 1 8 := ElT.mk' (z := .agg #[(.pointer none)]) (by kernel_rfl) rfl (by decide)
instance : Sz Try.prog 19 1 := Sz.mk' (by kernel_rfl)
instance : Ag Try.prog 19 := Ag.mk' Try.underlying19 rfl
instance : Fld Try.prog 19 0 0 17 := Fld.mk' Try.underlying19 rfl
instance : Zc Try.prog 19 [(.pointer none)] := Zc.mk' (z := .agg #[(.pointer none)]) (by kernel_rfl) rfl
instance : StT Try.prog 19 [(0, 1)] [(.pointer none)] := StT.mk' (z := .agg #[(.pointer none)]) Try.underlying19 (by kernel_rfl) rfl (by kernel_rfl)
instance : ElT Try.prog 19 1 8 := ElT.mk' (z := .agg #[(.pointer none)]) (by kernel_rfl) rfl (by decide)
instance : Sz Try.prog 20 1 := Sz.mk' (by kernel_rfl)
instance : One Try.prog 20 := One.mk' Try.underlying20 rfl
instance : Zc Try.prog 20 [(.nilIface)] := Zc.mk' (z := .nilIface) (by kernel_rfl) rfl
instance : ElT Try.prog 20 1 16 := ElT.mk' (z := .nilIface) (by kernel_rfl) rfl (by decide)
instance : Sz Try.prog 21 1 := Sz.mk' (by kernel_rfl)
instance : IntT Try.prog 21 .i32 := ⟨Try.underlying21⟩
instance : One Try.prog 21 := One.mk' Try.underlying21 rfl
instance : Zc Try.prog 21 [(.int .i32 0)] := Zc.mk' (z := .int .i32 0) (by kernel_rfl) rfl
instance : ElT Try.prog 21 1 4 := ElT.mk' (z := .int .i32 0) (by kernel_rfl) rfl (by decide)
instance : Sz Try.prog 22 1 := Sz.mk' (by kernel_rfl)
instance : SlT Try.prog 22 68 := ⟨Try.underlying22⟩
instance : One Try.prog 22 := One.mk' Try.underlying22 rfl
instance : Zc Try.prog 22 [(.slice none 0 0)] := Zc.mk' (z := .slice none 0 0) (by kernel_rfl) rfl
instance : ElT Try.prog 22 1 24 := ElT.mk' (z := .slice none 0 0) (by kernel_rfl) rfl (by decide)
instance : Sz Try.prog 23 1 := Sz.mk' (by kernel_rfl)
instance : One Try.prog 23 := One.mk' Try.underlying23 rfl
instance : Zc Try.prog 23 [(.nilFunc)] := Zc.mk' (z := .nilFunc) (by kernel_rfl) rfl
instance : ElT Try.prog 23 1 8 := ElT.mk' (z := .nilFunc) (by kernel_rfl) rfl (by decide)
instance : Sz Try.prog 24 1 := Sz.mk' (by kernel_rfl)
instance : SlT Try.prog 24 3 := ⟨Try.underlying24⟩
instance : One Try.prog 24 := One.mk' Try.underlying24 rfl
instance : Zc Try.prog 24 [(.slice none 0 0)] := Zc.mk' (z := .slice none 0 0) (by kernel_rfl) rfl
instance : ElT Try.prog 24 1 24 := ElT.mk' (z := .slice none 0 0) (by kernel_rfl) rfl (by decide)
instance : Sz Try.prog 25 1 := Sz.mk' (by kernel_rfl)
instance : IntT Try.prog 25 .i64 := ⟨Try.underlying25⟩
instance : One Try.prog 25 := One.mk' Try.underlying25 rfl
instance : Zc Try.prog 25 [(.int .i64 0)] := Zc.mk' (z := .int .i64 0) (by kernel_rfl) rfl
instance : ElT Try.prog 25 1 8 := ElT.mk' (z := .int .i64 0) (by kernel_rfl) rfl (by decide)
instance : Sz Try.prog 27 1 := Sz.mk' (by kernel_rfl)
instance : One Try.prog 27 := One.mk' Try.underlying27 rfl
instance : Zc Try.prog 27 [(.nilFunc)] := Zc.mk' (z := .nilFunc) (by kernel_rfl) rfl
instance : ElT Try.prog 27 1 8 := ElT.mk' (z := .nilFunc) (by kernel_rfl) rfl (by decide)
instance : Sz Try.prog 28 1 := Sz.mk' (by kernel_rfl)
instance : One Try.prog 28 := One.mk' Try.underlying28 rfl
instance : Zc Try.prog 28 [(.nilFunc)] := Zc.mk' (z := .nilFunc) (by kernel_rfl) rfl
instance : ElT Try.prog 28 1 8 := ElT.mk' (z := .nilFunc) (by kernel_rfl) rfl (by decide)
instance : Sz Try.prog 29 1 := Sz.mk' (by kernel_rfl)
instance : SlT Try.prog 29 36 := ⟨Try.underlying29⟩
instance : One Try.prog 29 := One.mk' Try.underlying29 rfl
instance : Zc Try.prog 29 [(.slice none 0 0)] := Zc.mk' (z := .slice none 0 0) (by kernel_rfl) rfl
instance : ElT Try.prog 29 1 24 := ElT.mk' (z := .slice none 0 0) (by kernel_rfl) rfl (by decide)
instance : Sz Try.prog 30 1 := Sz.mk' (by kernel_rfl)
instance : One Try.prog 30 := One.mk' Try.underlying30 rfl
instance : Zc Try.prog 30 [(.nilFunc)] := Zc.mk' (z := .nilFunc) (by kernel_rfl) rfl
instance : ElT Try.prog 30 1 8 := ElT.mk' (z := .nilFunc) (by kernel_rfl) rfl (by decide)
instance : Sz Try.prog 31 1 := Sz.mk' (by kernel_rfl)
instance : One Try.prog 31 := One.mk' Try.underlying31 rfl
instance : Zc Try.prog 31 [(.nilFunc)] := Zc.mk' (z := .nilFunc) (by kernel_rfl) rfl
instance : ElT Try.prog 31 1 8 := ElT.mk' (z := .nilFunc) (by kernel_rfl) rfl (by decide)
instance : Sz Try.prog 32 1 := Sz.mk' (by kernel_rfl)
instance : One Try.prog 32 := One.mk' Try.underlying32 rfl
instance : Zc Try.prog 32 [(.nilFunc)] := Zc.mk' (z := .nilFunc) (by kernel_rfl) rfl
instance : ElT Try.prog 32 1 8 := ElT.mk' (z := .nilFunc) (by kernel_rfl) rfl (by decide)
instance : Sz Try.prog 33 1 := Sz.mk' (by kernel_rfl)
instance : One Try.prog 33 := One.mk' Try.underlying33 rfl
instance : Zc Try.prog 33 [(.nilFunc)] := Zc.mk' (z := .nilFunc) (by kernel_rfl) rfl
instance : ElT Try.prog 33 1 8 := ElT.mk' (z := .nilFunc) (by kernel_rfl) rfl (by decide)
instance : Sz Try.prog 34 1 := Sz.mk' (by kernel_rfl)
instance : One Try.prog 34 := One.mk' Try.underlying34 rfl
instance : Zc Try.prog 34 [(.nilFunc)] := Zc.mk' (z := .nilFunc) (by kernel_rfl) rfl
instance : ElT Try.prog 34 1 8 := ElT.mk' (z := .nilFunc) (by kernel_rfl) rfl (by decide)
instance : Sz Try.prog 35 3 := Sz.mk' (by kernel_rfl)
instance : Ag Try.prog 35 := Ag.mk' Try.underlying35 rfl
instance : EqS Try.prog 35 [.i64, .i64, .i64] := EqS.mk' Try.underlying35 (by kernel_rfl) (by kernel_rfl) (by kernel_rfl)
instance : Fld Try.prog 35 0 0 3 := Fld.mk' Try.underlying35 rfl
instance : Fld Try.prog 35 1 1 3 := Fld.mk' Try.underlying35 rfl
instance : Fld Try.prog 35 2 2 3 := Fld.mk' Try.underlying35 rfl
instance : Zc Try.prog 35 [(.int .i64 0), (.int .i64 0), (.int .i64 0)] := Zc.mk' (z := .agg #[(.int .i64 0), (.int .i64 0), (.int .i64 0)]) (by kernel_rfl) rfl
instance : StT Try.prog 35 [(0, 1), (1, 1), (2, 1)] [(.int .i64 0), (.int .i64 0), (.int .i64 0)] := StT.mk' (z := .agg #[(.int .i64 0), (.int .i64 0), (.int .i64 0)]) Try.underlying35 (by kernel_rfl) rfl (by kernel_rfl)
instance : ElT Try.prog 35 3 24 := ElT.mk' (z := .agg #[(.int .i64 0), (.int .i64 0), (.int .i64 0)]) (by kernel_rfl) rfl (by decide)
instance : Sz Try.prog 36 3 := Sz.mk' (by kernel_rfl)
instance : Ag Try.prog 36 := Ag.mk' Try.underlying36 rfl
instance : EqS Try.prog 36 [.i64, .i64, .i64] := EqS.mk' Try.underlying36 (by kernel_rfl) (by kernel_rfl) (by kernel_rfl)
instance : Fld Try.prog 36 0 0 3 := Fld.mk' Try.underlying36 rfl
instance : Fld Try.prog 36 1 1 3 := Fld.mk' Try.underlying36 rfl
instance : Fld Try.prog 36 2 2 3 := Fld.mk' Try.underlying36 rfl
instance : Zc Try.prog 36 [(.int .i64 0), (.int .i64 0), (.int .i64 0)] := Zc.mk' (z := .agg #[(.int .i64 0), (.int .i64 0), (.int .i64 0)]) (by kernel_rfl) rfl
instance : StT Try.prog 36 [(0, 1), (1, 1), (2, 1)] [(.int .i64 0), (.int .i64 0), (.int .i64 0)] := StT.mk' (z := .agg #[(.int .i64 0), (.int .i64 0), (.int .i64 0)]) Try.underlying36 (by kernel_rfl) rfl (by kernel_rfl)
instance : ElT Try.prog 36 3 24 := ElT.mk' (z := .agg #[(.int .i64 0), (.int .i64 0), (.int .i64 0)]) (by kernel_rfl) rfl (by decide)
instance : Sz Try.prog 37 1 := Sz.mk' (by kernel_rfl)
instance : One Try.prog 37 := One.mk' Try.underlying37 rfl
instance : Zc Try.prog 37 [(.nilFunc)] := Zc.mk' (z := .nilFunc) (by kernel_rfl) rfl
instance : ElT Try.prog 37 1 8 := ElT.mk' (z := .nilFunc) (by kernel_rfl) rfl (by decide)
instance : Sz Try.prog 38 1 := Sz.mk' (by kernel_rfl)
instance : One Try.prog 38 := One.mk' Try.underlying38 rfl
instance : Zc Try.prog 38 [(.nilFunc)] := Zc.mk' (z := .nilFunc) (by kernel_rfl) rfl
instance : ElT Try.prog 38 1 8 := ElT.mk' (z := .nilFunc) (by kernel_rfl) rfl (by decide)
instance : Sz Try.prog 39 1 := Sz.mk' (by kernel_rfl)
instance : One Try.prog 39 := One.mk' Try.underlying39 rfl
instance : Zc Try.prog 39 [(.nilFunc)] := Zc.mk' (z := .nilFunc) (by kernel_rfl) rfl
instance : ElT Try.prog 39 1 8 := ElT.mk' (z := .nilFunc) (by kernel_rfl) rfl (by decide)
instance : Sz Try.prog 40 1 := Sz.mk' (by kernel_rfl)
instance : One Try.prog 40 := One.mk' Try.underlying40 rfl
instance : Zc Try.prog 40 [(.nilFunc)] := Zc.mk' (z := .nilFunc) (by kernel_rfl) rfl
instance : ElT Try.prog 40 1 8 := ElT.mk' (z := .nilFunc) (by kernel_rfl) rfl (by decide)
instance : Sz Try.prog 41 1 := Sz.mk' (by kernel_rfl)
instance : SlT Try.prog 41 57 := ⟨Try.underlying41⟩
instance : One Try.prog 41 := One.mk' Try.underlying41 rfl
instance : Zc Try.prog 41 [(.slice none 0 0)] := Zc.mk' (z := .slice none 0 0) (by kernel_rfl) rfl
instance : ElT Try.prog 41 1 24 := ElT.mk' (z := .slice none 0 0) (by kernel_rfl) rfl (by decide)
instance : Sz Try.prog 42 2 := Sz.mk' (by kernel_rfl)
instance : ArrT Try.prog 42 2 3 := ⟨Try.underlying42⟩
instance : Ag Try.prog 42 := Ag.mk' Try.underlying42 rfl
instance : Zc Try.prog 42 [(.int .i64 0), (.int .i64 0)] := Zc.mk' (z := .agg #[(.int .i64 0), (.int .i64 0)]) (by kernel_rfl) rfl
instance : ElT Try.prog 42 2 16 := ElT.mk' (z := .agg #[(.int .i64 0), (.int .i64 0)]) (by kernel_rfl) rfl (by decide)
instance : Sz Try.prog 44 1 := Sz.mk' (by kernel_rfl)
instance : One Try.prog 44 := One.mk' Try.underlying44 rfl
instance : Zc Try.prog 44 [(.nilFunc)] := Zc.mk' (z := .nilFunc) (by kernel_rfl) rfl
instance : ElT Try.prog 44 1 8 := ElT.mk' (z := .nilFunc) (by kernel_rfl) rfl (by decide)
instance : Sz Try.prog 45 1 := Sz.mk' (by kernel_rfl)
instance : SlT Try.prog 45 59 := ⟨Try.underlying45⟩
instance : One Try.prog 45 := One.mk' Try.underlying45 rfl
instance : Zc Try.prog 45 [(.slice none 0 0)] := Zc.mk' (z := .slice none 0 0) (by kernel_rfl) rfl
instance : ElT Try.prog 45 1 24 := ElT.mk' (z := .slice none 0 0) (by kernel_rfl) rfl (by decide)
instance : Sz Try.prog 47 1 := Sz.mk' (by kernel_rfl)
instance : One Try.prog 47 := One.mk' Try.underlying47 rfl
instance : Zc Try.prog 47 [(.nilFunc)] := Zc.mk' (z := .nilFunc) (by kernel_rfl) rfl
instance : ElT Try.prog 47 1 8 := ElT.mk' (z := .nilFunc) (by kernel_rfl) rfl (by decide)
instance : Sz Try.prog 48 1 := Sz.mk' (by kernel_rfl)
instance : One Try.prog 48 := One.mk' Try.underlying48 rfl
instance : Zc Try.prog 48 [(.nilFunc)] := Zc.mk' (z := .nilFunc) (by kernel_rfl) rfl
instance : ElT Try.prog 48 1 8 := ElT.mk' (z := .nilFunc) (by kernel_rfl) rfl (by decide)
instance : Sz Try.prog 50 1 := Sz.mk' (by kernel_rfl)
instance : One Try.prog 50 := One.mk' Try.underlying50 rfl
instance : Zc Try.prog 50 [(.nilFunc)] := Zc.mk' (z := .nilFunc) (by kernel_rfl) rfl
instance : ElT Try.prog 50 1 8 := ElT.mk' (z := .nilFunc) (by kernel_rfl) rfl (by decide)
instance : Sz Try.prog 51 1 := Sz.mk' (by kernel_rfl)
instance : One Try.prog 51 := One.mk' Try.underlying51 rfl
instance : Zc Try.prog 51 [(.nilFunc)] := Zc.mk' (z := .nilFunc) (by kernel_rfl) rfl
instance : ElT Try.prog 51 1 8 := ElT.mk' (z := .nilFunc) (by kernel_rfl) rfl (by decide)
instance : Sz Try.prog 52 2 := Sz.mk' (by kernel_rfl)
instance : Ag Try.prog 52 := Ag.mk' Try.underlying52 rfl
instance : EqS Try.prog 52 [.i64, .i64] := EqS.mk' Try.underlying52 (by kernel_rfl) (by kernel_rfl) (by kernel_rfl)
instance : Fld Try.prog 52 0 0 3 := Fld.mk' Try.underlying52 rfl
instance : Fld Try.prog 52 1 1 3 := Fld.mk' Try.underlying52 rfl
instance : Zc Try.prog 52 [(.int .i64 0), (.int .i64 0)] := Zc.mk' (z := .agg #[(.int .i64 0), (.int .i64 0)]) (by kernel_rfl) rfl
instance : StT Try.prog 52 [(0, 1), (1, 1)] [(.int .i64 0), (.int .i64 0)] := StT.mk' (z := .agg #[(.int .i64 0), (.int .i64 0)]) Try.underlying52 (by kernel_rfl) rfl (by kernel_rfl)
instance : ElT Try.prog 52 2 16 := ElT.mk' (z := .agg #[(.int .i64 0), (.int .i64 0)]) (by kernel_rfl) rfl (by decide)
instance : Sz Try.prog 53 2 := Sz.mk' (by kernel_rfl)
instance : Ag Try.prog 53 := Ag.mk' Try.underlying53 rfl
instance : EqS Try.prog 53 [.i64, .i64] := EqS.mk' Try.underlying53 (by kernel_rfl) (by kernel_rfl) (by kernel_rfl)
instance : Fld Try.prog 53 0 0 3 := Fld.mk' Try.underlying53 rfl
instance : Fld Try.prog 53 1 1 3 := Fld.mk' Try.underlying53 rfl
instance : Zc Try.prog 53 [(.int .i64 0), (.int .i64 0)] := Zc.mk' (z := .agg #[(.int .i64 0), (.int .i64 0)]) (by kernel_rfl) rfl
instance : StT Try.prog 53 [(0, 1), (1, 1)] [(.int .i64 0), (.int .i64 0)] := StT.mk' (z := .agg #[(.int .i64 0), (.int .i64 0)]) Try.underlying53 (by kernel_rfl) rfl (by kernel_rfl)
instance : ElT Try.prog 53 2 16 := ElT.mk' (z := .agg #[(.int .i64 0), (.int .i64 0)]) (by kernel_rfl) rfl (by decide)
instance : Sz Try.prog 54 2 := Sz.mk' (by kernel_rfl)
instance : Ag Try.prog 54 := Ag.mk' Try.underlying54 rfl
instance : EqS Try.prog 54 [.i64, .i64] := EqS.mk' Try.underlying54 (by kernel_rfl) (by kernel_rfl) (by kernel_rfl)
instance : Fld Try.prog 54 0 0 3 := Fld.mk' Try.underlying54 rfl
instance : Fld Try.prog 54 1 1 3 := Fld.mk' Try.underlying54 rfl
instance : Zc Try.prog 54 [(.int .i64 0), (.int .i64 0)] := Zc.mk' (z := .agg #[(.int .i64 0), (.int .i64 0)]) (by kernel_rfl) rfl
instance : StT Try.prog 54 [(0, 1), (1, 1)] [(.int .i64 0), (.int .i64 0)] := StT.mk' (z := .agg #[(.int .i64 0), (.int .i64 0)]) Try.underlying54 (by kernel_rfl) rfl (by kernel_rfl)
instance : ElT Try.prog 54 2 16 := ElT.mk' (z := .agg #[(.int .i64 0), (.int .i64 0)]) (by kernel_rfl) rfl (by decide)
instance : Sz Try.prog 55 2 := Sz.mk' (by kernel_rfl)
instance : Ag Try.prog 55 := Ag.mk' Try.underlying55 rfl
instance : EqS Try.prog 55 [.i64, .i64] := EqS.mk' Try.underlying55 (by kernel_rfl) (by kernel_rfl) (by kernel_rfl)
instance : Fld Try.prog 55 0 0 3 := Fld.mk' Try.underlying55 rfl
instance : Fld Try.prog 55 1 1 3 := Fld.mk' Try.underlying55 rfl
instance : Zc Try.prog 55 [(.int .i64 0), (.int .i64 0)] := Zc.mk' (z := .agg #[(.int .i64 0), (.int .i64 0)]) (by kernel_rfl) rfl
instance : StT Try.prog 55 [(0, 1), (1, 1)] [(.int .i64 0), (.int .i64 0)] := StT.mk' (z := .agg #[(.int .i64 0), (.int .i64 0)]) Try.underlying55 (by kernel_rfl) rfl (by kernel_rfl)
instance : ElT Try.prog 55 2 16 := ElT.mk' (z := .agg #[(.int .i64 0), (.int .i64 0)]) (by kernel_rfl) rfl (by decide)
instance : Sz Try.prog 56 4 := Sz.mk' (by kernel_rfl)
instance : Ag Try.prog 56 := Ag.mk' Try.underlying56 rfl
instance : Fld Try.prog 56 0 0 53 := Fld.mk' Try.underlying56 rfl
instance : Fld Try.prog 56 1 2 55 := Fld.mk' Try.underlying56 rfl
instance : Zc Try.prog 56 [(.int .i64 0), (.int .i64 0), (.int .i64 0), (.int .i64 0)] := Zc.mk' (z := .agg #[(.int .i64 0), (.int .i64 0), (.int .i64 0), (.int .i64 0)]) (by kernel_rfl) rfl
instance : StT Try.prog 56 [(0, 2), (2, 2)] [(.int .i64 0), (.int .i64 0), (.int .i64 0), (.int .i64 0)] := StT.mk' (z := .agg #[(.int .i64 0), (.int .i64 0), (.int .i64 0), (.int .i64 0)]) Try.underlying56 (by kernel_rfl) rfl (by kernel_rfl)
instance : ElT Try.prog 56 4 32 := ElT.mk' (z := .agg #[(.int .i64 0), (.int .i64 0), (.int .i64 0), (.int .i64 0)]) (by kernel_rfl) rfl (by decide)
instance : Sz Try.prog 57 4 := Sz.mk' (by kernel_rfl)
instance : Ag Try.prog 57 := Ag.mk' Try.underlying57 rfl
instance : Fld Try.prog 57 0 0 53 := Fld.mk' Try.underlying57 rfl
instance : Fld Try.prog 57 1 2 55 := Fld.mk' Try.underlying57 rfl
instance : Zc Try.prog 57 [(.int .i64 0), (.int .i64 0), (.int .i64 0), (.int .i64 0)] := Zc.mk' (z := .agg #[(.int .i64 0), (.int .i64 0), (.int .i64 0), (.int .i64 0)]) (by kernel_rfl) rfl
instance : StT Try.prog 57 [(0, 2), (2, 2)] [(.int .i64 0), (.int .i64 0), (.int .i64 0), (.int .i64 0)] := StT.mk' (z := .agg #[(.int .i64 0), (.int .i64 0), (.int .i64 0), (.int .i64 0)]) Try.underlying57 (by kernel_rfl) rfl (by kernel_rfl)
instance : ElT Try.prog 57 4 32 := ElT.mk' (z := .agg #[(.int .i64 0), (.int .i64 0), (.int .i64 0), (.int .i64 0)]) (by kernel_rfl) rfl (by decide)
instance : Sz Try.prog 58 6 := Sz.mk' (by kernel_rfl)
instance : Ag Try.prog 58 := Ag.mk' Try.underlying58 rfl
instance : Fld Try.prog 58 0 0 57 := Fld.mk' Try.underlying58 rfl
instance : Fld Try.prog 58 1 4 55 := Fld.mk' Try.underlying58 rfl
instance : Zc Try.prog 58 [(.int .i64 0), (.int .i64 0), (.int .i64 0), (.int .i64 0), (.int .i64 0), (.int .i64 0)] := Zc.mk' (z := .agg #[(.int .i64 0), (.int .i64 0), (.int .i64 0), (.int .i64 0), (.int .i64 0), (.int .i64 0)]) (by kernel_rfl) rfl
instance : StT Try.prog 58 [(0, 4), (4, 2)] [(.int .i64 0), (.int .i64 0), (.int .i64 0), (.int .i64 0), (.int .i64 0), (.int .i64 0)] := StT.mk' (z := .agg #[(.int .i64 0), (.int .i64 0), (.int .i64 0), (.int .i64 0), (.int .i64 0), (.int .i64 0)]) Try.underlying58 (by kernel_rfl) rfl (by kernel_rfl)
instance : ElT Try.prog 58 6 48 := ElT.mk' (z := .agg #[(.int .i64 0), (.int .i64 0), (.int .i64 0), (.int .i64 0), (.int .i64 0), (.int .i64 0)]) (by kernel_rfl) rfl (by decide)
instance : Sz Try.prog 59 6 := Sz.mk' (by kernel_rfl)
instance : Ag Try.prog 59 := Ag.mk' Try.underlying59 rfl
instance : Fld Try.prog 59 0 0 57 := Fld.mk' Try.underlying59 rfl
instance : Fld Try.prog 59 1 4 55 := Fld.mk' Try.underlying59 rfl
instance : Zc Try.prog 59 [(.int .i64 0), (.int .i64 0), (.int .i64 0), (.int .i64 0), (.int .i64 0), (.int .i64 0)] := Zc.mk' (z := .agg #[(.int .i64 0), (.int .i64 0), (.int .i64 0), (.int .i64 0), (.int .i64 0), (.int .i64 0)]) (by kernel_rfl) rfl
instance : StT Try.prog 59 [(0, 4), (4, 2)] [(.int .i64 0), (.int .i64 0), (.int .i64 0), (.int .i64 0), (.int .i64 0), (.int .i64 0)] := StT.mk' (z := .agg #[(.int .i64 0), (.int .i64 0), (.int .i64 0), (.int .i64 0), (.int .i64 0), (.int .i64 0)]) Try.underlying59 (by kernel_rfl) rfl (by kernel_rfl)
instance : ElT Try.prog 59 6 48 := ElT.mk' (z := .agg #[(.int .i64 0), (.int .i64 0), (.int .i64 0), (.int .i64 0), (.int .i64 0), (.int .i64 0)]) (by kernel_rfl) rfl (by decide)
instance : Sz Try.prog 60 1 := Sz.mk' (by kernel_rfl)
instance : One Try.prog 60 := One.mk' Try.underlying60 rfl
instance : Zc Try.prog 60 [(.nilFunc)] := Zc.mk' (z := .nilFunc) (by kernel_rfl) rfl
instance : ElT Try.prog 60 1 8 := ElT.mk' (z := .nilFunc) (by kernel_rfl) rfl (by decide)
instance : Sz Try.prog 62 1 := Sz.mk' (by kernel_rfl)
instance : One Try.prog 62 := One.mk' Try.underlying62 rfl
instance : Zc Try.prog 62 [(.nilFunc)] := Zc.mk' (z := .nilFunc) (by kernel_rfl) rfl
instance : ElT Try.prog 62 1 8 := ElT.mk' (z := .nilFunc) (by kernel_rfl) rfl (by decide)
instance : Sz Try.prog 64 1 := Sz.mk' (by kernel_rfl)
instance : One Try.prog 64 := One.mk' Try.underlying64 rfl
instance : Zc Try.prog 64 [(.nilFunc)] := Zc.mk' (z := .nilFunc) (by kernel_rfl) rfl
instance : ElT Try.prog 64 1 8 := ElT.mk' (z := .nilFunc) (by kernel_rfl) rfl (by decide)
instance : Sz Try.prog 65 1 := Sz.mk' (by kernel_rfl)
instance : One Try.prog 65 := One.mk' Try.underlying65 rfl
instance : Zc Try.prog 65 [(.nilFunc)] := Zc.mk' (z := .nilFunc) (by kernel_rfl) rfl
instance : ElT Try.prog 65 1 8 := ElT.mk' (z := .nilFunc) (by kernel_rfl) rfl (by decide)
instance : Sz Try.prog 66 1 := Sz.mk' (by kernel_rfl)
instance : One Try.prog 66 := One.mk' Try.underlying66 rfl
instance : Zc Try.prog 66 [(.nilFunc)] := Zc.mk' (z := .nilFunc) (by kernel_rfl) rfl
instance : ElT Try.prog 66 1 8 := ElT.mk' (z := .nilFunc) (by kernel_rfl) rfl (by decide)
instance : Sz Try.prog 67 1 := Sz.mk' (by kernel_rfl)
instance : One Try.prog 67 := One.mk' Try.underlying67 rfl
instance : Zc Try.prog 67 [(.nilFunc)] := Zc.mk' (z := .nilFunc) (by kernel_rfl) rfl
instance : ElT Try.prog 67 1 8 := ElT.mk' (z := .nilFunc) (by kernel_rfl) rfl (by decide)
instance : Sz Try.prog 68 3 := Sz.mk' (by kernel_rfl)
instance : Ag Try.prog 68 := Ag.mk' Try.underlying68 rfl
instance : EqS Try.prog 68 [.i64, .i64, .i64] := EqS.mk' Try.underlying68 (by kernel_rfl) (by kernel_rfl) (by kernel_rfl)
instance : Fld Try.prog 68 0 0 3 := Fld.mk' Try.underlying68 rfl
instance : Fld Try.prog 68 1 1 3 := Fld.mk' Try.underlying68 rfl
instance : Fld Try.prog 68 2 2 3 := Fld.mk' Try.underlying68 rfl
instance : Zc Try.prog 68 [(.int .i64 0), (.int .i64 0), (.int .i64 0)] := Zc.mk' (z := .agg #[(.int .i64 0), (.int .i64 0), (.int .i64 0)]) (by kernel_rfl) rfl
instance : StT Try.prog 68 [(0, 1), (1, 1), (2, 1)] [(.int .i64 0), (.int .i64 0), (.int .i64 0)] := StT.mk' (z := .agg #[(.int .i64 0), (.int .i64 0), (.int .i64 0)]) Try.underlying68 (by kernel_rfl) rfl (by kernel_rfl)
instance : ElT Try.prog 68 3 24 := ElT.mk' (z := .agg #[(.int .i64 0), (.int .i64 0), (.int .i64 0)]) (by kernel_rfl) rfl (by decide)
instance : Sz Try.prog 69 1 := Sz.mk' (by kernel_rfl)
instance : One Try.prog 69 := One.mk' Try.underlying69 rfl
instance : Zc Try.prog 69 [(.nilFunc)] := Zc.mk' (z := .nilFunc) (by kernel_rfl) rfl
instance : ElT Try.prog 69 1 8 := ElT.mk' (z := .nilFunc) (by kernel_rfl) rfl (by decide)
instance : Sz Try.prog 70 1 := Sz.mk' (by kernel_rfl)
instance : One Try.prog 70 := One.mk' Try.underlying70 rfl
instance : Zc Try.prog 70 [(.nilFunc)] := Zc.mk' (z := .nilFunc) (by kernel_rfl) rfl
instance : ElT Try.prog 70 1 8 := ElT.mk' (z := .nilFunc) (by kernel_rfl) rfl (by decide)
instance : Sz Try.prog 71 1 := Sz.mk' (by kernel_rfl)
instance : One Try.prog 71 := One.mk' Try.underlying71 rfl
instance : Zc Try.prog 71 [(.nilFunc)] := Zc.mk' (z := .nilFunc) (by kernel_rfl) rfl
instance : ElT Try.prog 71 1 8 := ElT.mk' (z := .nilFunc) (by kernel_rfl) rfl (by decide)
instance : Sz Try.prog 72 1 := Sz.mk' (by kernel_rfl)
instance : One Try.prog 72 := One.mk' Try.underlying72 rfl
instance : Zc Try.prog 72 [(.nilFunc)] := Zc.mk' (z := .nilFunc) (by kernel_rfl) rfl
instance : ElT Try.prog 72 1 8 := ElT.mk' (z := .nilFunc) (by kernel_rfl) rfl (by decide)
instance : Sz Try.prog 73 1 := Sz.mk' (by kernel_rfl)
instance : SlT Try.prog 73 4 := ⟨Try.underlying73⟩
instance : One Try.prog 73 := One.mk' Try.underlying73 rfl
instance : Zc Try.prog 73 [(.slice none 0 0)] := Zc.mk' (z := .slice none 0 0) (by kernel_rfl) rfl
instance : ElT Try.prog 73 1 24 := ElT.mk' (z := .slice none 0 0) (by kernel_rfl) rfl (by decide)
instance : Sz Try.prog 74 1 := Sz.mk' (by kernel_rfl)
instance : One Try.prog 74 := One.mk' Try.underlying74 rfl
instance : Zc Try.prog 74 [(.nilFunc)] := Zc.mk' (z := .nilFunc) (by kernel_rfl) rfl
instance : ElT Try.prog 74 1 8 := ElT.mk' (z := .nilFunc) (by kernel_rfl) rfl (by decide)
instance : Sz Try.prog 75 1 := Sz.mk' (by kernel_rfl)
instance : One Try.prog 75 := One.mk' Try.underlying75 rfl
instance : Zc Try.prog 75 [(.nilFunc)] := Zc.mk' (z := .nilFunc) (by kernel_rfl) rfl
instance : ElT Try.prog 75 1 8 := ElT.mk' (z := .nilFunc) (by kernel_rfl) rfl (by decide)
instance : Sz Try.prog 76 1 := Sz.mk' (by kernel_rfl)
instance : One Try.prog 76 := One.mk' Try.underlying76 rfl
instance : Zc Try.prog 76 [(.nilFunc)] := Zc.mk' (z := .nilFunc) (by kernel_rfl) rfl
instance : ElT Try.prog 76 1 8 := ElT.mk' (z := .nilFunc) (by kernel_rfl) rfl (by decide)
instance : Sz Try.prog 77 1 := Sz.mk' (by kernel_rfl)
instance : One Try.prog 77 := One.mk' Try.underlying77 rfl
instance : Zc Try.prog 77 [(.nilFunc)] := Zc.mk' (z := .nilFunc) (by kernel_rfl) rfl
instance : ElT Try.prog 77 1 8 := ElT.mk' (z := .nilFunc) (by kernel_rfl) rfl (by decide)
instance : Sz Try.prog 78 1 := Sz.mk' (by kernel_rfl)
instance : SlT Try.prog 78 73 := ⟨Try.underlying78⟩
instance : One Try.prog 78 := One.mk' Try.underlying78 rfl
instance : Zc Try.prog 78 [(.slice none 0 0)] := Zc.mk' (z := .slice none 0 0) (by kernel_rfl) rfl
instance : ElT Try.prog 78 1 24 := ElT.mk' (z := .slice none 0 0) (by kernel_rfl) rfl (by decide)
instance : Sz Try.prog 80 1 := Sz.mk' (by kernel_rfl)
instance : One Try.prog 80 := One.mk' Try.underlying80 rfl
instance : Zc Try.prog 80 [(.nilFunc)] := Zc.mk' (z := .nilFunc) (by kernel_rfl) rfl
instance : ElT Try.prog 80 1 8 := ElT.mk' (z := .nilFunc) (by kernel_rfl) rfl (by decide)
instance : Sz Try.prog 81 1 := Sz.mk' (by kernel_rfl)
instance : One Try.prog 81 := One.mk' Try.underlying81 rfl
instance : Zc Try.prog 81 [(.nilFunc)] := Zc.mk' (z := .nilFunc) (by kernel_rfl) rfl
instance : ElT Try.prog 81 1 8 := ElT.mk' (z := .nilFunc) (by kernel_rfl) rfl (by decide)
instance : Sz Try.prog 82 1 := Sz.mk' (by kernel_rfl)
instance : One Try.prog 82 := One.mk' Try.underlying82 rfl
instance : Zc Try.prog 82 [(.nilFunc)] := Zc.mk' (z := .nilFunc) (by kernel_rfl) rfl
instance : ElT Try.prog 82 1 8 := ElT.mk' (z := .nilFunc) (by kernel_rfl) rfl (by decide)
instance : Sz Try.prog 83 1 := Sz.mk' (by kernel_rfl)
instance : One Try.prog 83 := One.mk' Try.underlying83 rfl
instance : Zc Try.prog 83 [(.nilFunc)] := Zc.mk' (z := .nilFunc) (by kernel_rfl) rfl
instance : ElT Try.prog 83 1 8 := ElT.mk' (z := .nilFunc) (by kernel_rfl) rfl (by decide)
instance : Sz Try.prog 84 1 := Sz.mk' (by kernel_rfl)
instance : One Try.prog 84 := One.mk' Try.underlying84 rfl
instance : Zc Try.prog 84 [(.nilFunc)] := Zc.mk' (z := .nilFunc) (by kernel_rfl) rfl
instance : ElT Try.prog 84 1 8 := ElT.mk' (z := .nilFunc) (by kernel_rfl) rfl (by decide)
instance : Sz Try.prog 85 1 := Sz.mk' (by kernel_rfl)
instance : One Try.prog 85 := One.mk' Try.underlying85 rfl
instance : Zc Try.prog 85 [(.nilFunc)] := Zc.mk' (z := .nilFunc) (by kernel_rfl) rfl
instance : ElT Try.prog 85 1 8 := ElT.mk' (z := .nilFunc) (by kernel_rfl) rfl (by decide)
instance : Sz Try.prog 86 1 := Sz.mk' (by kernel_rfl)
instance : One Try.prog 86 := One.mk' Try.underlying86 rfl
instance : Zc Try.prog 86 [(.nilFunc)] := Zc.mk' (z := .nilFunc) (by kernel_rfl) rfl
instance : ElT Try.prog 86 1 8 := ElT.mk' (z := .nilFunc) (by kernel_rfl) rfl (by decide)
instance : Sz Try.prog 87 1 := Sz.mk' (by kernel_rfl)
instance : IntT Try.prog 87 .u64 := ⟨Try.underlying87⟩
instance : One Try.prog 87 := One.mk' Try.underlying87 rfl
instance : Zc Try.prog 87 [(.int .u64 0)] := Zc.mk' (z := .int .u64 0) (by kernel_rfl) rfl
instance : ElT Try.prog 87 1 8 := ElT.mk' (z := .int .u64 0) (by kernel_rfl) rfl (by decide)
instance : Sz Try.prog 88 1 := Sz.mk' (by kernel_rfl)
instance : One Try.prog 88 := One.mk' Try.underlying88 rfl
instance : Zc Try.prog 88 [(.nilFunc)] := Zc.mk' (z := .nilFunc) (by kernel_rfl) rfl
instance : ElT Try.prog 88 1 8 := ElT.mk' (z := .nilFunc) (by kernel_rfl) rfl (by decide)
instance : Sz Try.prog 89 1 := Sz.mk' (by kernel_rfl)
instance : One Try.prog 89 := One.mk' Try.underlying89 rfl
instance : Zc Try.prog 89 [(.nilFunc)] := Zc.mk' (z := .nilFunc) (by kernel_rfl) rfl
instance : ElT Try.prog 89 1 8 := ElT.mk' (z := .nilFunc) (by kernel_rfl) rfl (by decide)
instance : Sz Try.prog 90 1 := Sz.mk' (by kernel_rfl)
instance : One Try.prog 90 := One.mk' Try.underlying90 rfl
instance : Zc Try.prog 90 [(.nilFunc)] := Zc.mk' (z := .nilFunc) (by kernel_rfl) rfl
instance : ElT Try.prog 90 1 8 := ElT.mk' (z := .nilFunc) (by kernel_rfl) rfl (by decide)
instance : Sz Try.prog 91 1 := Sz.mk' (by kernel_rfl)
instance : One Try.prog 91 := One.mk' Try.underlying91 rfl
instance : Zc Try.prog 91 [(.nilFunc)] := Zc.mk' (z := .nilFunc) (by kernel_rfl) rfl
instance : ElT Try.prog 91 1 8 := ElT.mk' (z := .nilFunc) (by kernel_rfl) rfl (by decide)
instance : Sz Try.prog 92 1 := Sz.mk' (by kernel_rfl)
instance : IntT Try.prog 92 .i64 := ⟨Try.underlying92⟩
instance : One Try.prog 92 := One.mk' Try.underlying92 rfl
instance : Zc Try.prog 92 [(.int .i64 0)] := Zc.mk' (z := .int .i64 0) (by kernel_rfl) rfl
instance : ElT Try.prog 92 1 8 := ElT.mk' (z := .int .i64 0) (by kernel_rfl) rfl (by decide)
instance : Sz Try.prog 94 1 := Sz.mk' (by kernel_rfl)
instance : One Try.prog 94 := One.mk' Try.underlying94 rfl
instance : Zc Try.prog 94 [(.nilFunc)] := Zc.mk' (z := .nilFunc) (by kernel_rfl) rfl
instance : ElT Try.prog 94 1 8 := ElT.mk' (z := .nilFunc) (by kernel_rfl) rfl (by decide)
instance : Sz Try.prog 95 1 := Sz.mk' (by kernel_rfl)
instance : One Try.prog 95 := One.mk' Try.underlying95 rfl
instance : Zc Try.prog 95 [(.nilFunc)] := Zc.mk' (z := .nilFunc) (by kernel_rfl) rfl
instance : ElT Try.prog 95 1 8 := ElT.mk' (z := .nilFunc) (by kernel_rfl) rfl (by decide)
instance : Sz Try.prog 96 1 := Sz.mk' (by kernel_rfl)
instance : One Try.prog 96 := One.mk' Try.underlying96 rfl
instance : Zc Try.prog 96 [(.nilFunc)] := Zc.mk' (z := .nilFunc) (by kernel_rfl) rfl
instance : ElT Try.prog 96 1 8 := ElT.mk' (z := .nilFunc) (by kernel_rfl) rfl (by decide)
instance : Sz Try.prog 97 1 := Sz.mk' (by kernel_rfl)
instance : One Try.prog 97 := One.mk' Try.underlying97 rfl
instance : Zc Try.prog 97 [(.nilFunc)] := Zc.mk' (z := .nilFunc) (by kernel_rfl) rfl
instance : ElT Try.prog 97 1 8 := ElT.mk' (z := .nilFunc) (by kernel_rfl) rfl (by decide)
instance : Sz Try.prog 98 1 := Sz.mk' (by kernel_rfl)
instance : One Try.prog 98 := One.mk' Try.underlying98 rfl
instance : Zc Try.prog 98 [(.nilFunc)] := Zc.mk' (z := .nilFunc) (by kernel_rfl) rfl
instance : ElT Try.prog 98 1 8 := ElT.mk' (z := .nilFunc) (by kernel_rfl) rfl (by decide)
instance : Sz Try.prog 99 1 := Sz.mk' (by kernel_rfl)
instance : IntT Try.prog 99 .u32 := ⟨Try.underlying99⟩
instance : One Try.prog 99 := One.mk' Try.underlying99 rfl
instance : Zc Try.prog 99 [(.int .u32 0)] := Zc.mk' (z := .int .u32 0) (by kernel_rfl) rfl
instance : ElT Try.prog 99 1 4 := ElT.mk' (z := .int .u32 0) (by kernel_rfl) rfl (by decide)
instance : Sz Try.prog 100 1 := Sz.mk' (by kernel_rfl)
instance : One Try.prog 100 := One.mk' Try.underlying100 rfl
instance : Zc Try.prog 100 [(.nilFunc)] := Zc.mk' (z := .nilFunc) (by kernel_rfl) rfl
instance : ElT Try.prog 100 1 8 := ElT.mk' (z := .nilFunc) (by kernel_rfl) rfl (by decide)
instance : Sz Try.prog 101 1 := Sz.mk' (by kernel_rfl)
instance : IntT Try.prog 101 .u64 := ⟨Try.underlying101⟩
instance : One Try.prog 101 := One.mk' Try.underlying101 rfl
instance : Zc Try.prog 101 [(.int .u64 0)] := Zc.mk' (z := .int .u64 0) (by kernel_rfl) rfl
instance : ElT Try.prog 101 1 8 := ElT.mk' (z := .int .u64 0) (by kernel_rfl) rfl (by decide)
instance : Sz Try.prog 102 1 := Sz.mk' (by kernel_rfl)
instance : One Try.prog 102 := One.mk' Try.underlying102 rfl
instance : Zc Try.prog 102 [(.nilFunc)] := Zc.mk' (z := .nilFunc) (by kernel_rfl) rfl
instance : ElT Try.prog 102 1 8 := ElT.mk' (z := .nilFunc) (by kernel_rfl) rfl (by decide)
instance : Sz Try.prog 103 1 := Sz.mk' (by kernel_rfl)
instance : One Try.prog 103 := One.mk' Try.underlying103 rfl
instance : Zc Try.prog 103 [(.nilFunc)] := Zc.mk' (z := .nilFunc) (by kernel_rfl) rfl
instance : ElT Try.prog 103 1 8 := ElT.mk' (z := .nilFunc) (by kernel_rfl) rfl (by decide)
instance : Sz Try.prog 104 1 := Sz.mk' (by kernel_rfl)
instance : One Try.prog 104 := One.mk' Try.underlying104 rfl
instance : Zc Try.prog 104 [(.nilFunc)] := Zc.mk' (z := .nilFunc) (by kernel_rfl) rfl
instance : ElT Try.prog 104 1 8 := ElT.mk' (z := .nilFunc) (by kernel_rfl) rfl (by decide)
instance : Sz Try.prog 105 1 := Sz.mk' (by kernel_rfl)
instance : One Try.prog 105 := One.mk' Try.underlying105 rfl
instance : Zc Try.prog 105 [(.nilFunc)] := Zc.mk' (z := .nilFunc) (by kernel_rfl) rfl
instance : ElT Try.prog 105 1 8 := ElT.mk' (z := .nilFunc) (by kernel_rfl) rfl (by decide)
instance : Sz Try.prog 106 1 := Sz.mk' (by kernel_rfl)
instance : One Try.prog 106 := One.mk' Try.underlying106 rfl
instance : Zc Try.prog 106 [(.nilFunc)] := Zc.mk' (z := .nilFunc) (by kernel_rfl) rfl
instance : ElT Try.prog 106 1 8 := ElT.mk' (z := .nilFunc) (by kernel_rfl) rfl (by decide)
instance : Sz Try.prog 107 1 := Sz.mk' (by kernel_rfl)
instance : One Try.prog 107 := One.mk' Try.underlying107 rfl
instance : Zc Try.prog 107 [(.nilFunc)] := Zc.mk' (z := .nilFunc) (by kernel_rfl) rfl
instance : ElT Try.prog 107 1 8 := ElT.mk' (z := .nilFunc) (by kernel_rfl) rfl (by decide)
instance : Sz Try.prog 108 1 := Sz.mk' (by kernel_rfl)
instance : One Try.prog 108 := One.mk' Try.underlying108 rfl
instance : Zc Try.prog 108 [(.nilFunc)] := Zc.mk' (z := .nilFunc) (by kernel_rfl) rfl
instance : ElT Try.prog 108 1 8 := ElT.mk' (z := .nilFunc) (by kernel_rfl) rfl (by decide)
instance : Sz Try.prog 109 1 := Sz.mk' (by kernel_rfl)
instance : IntT Try.prog 109 .u64 := ⟨Try.underlying109⟩
instance : One Try.prog 109 := One.mk' Try.underlying109 rfl
instance : Zc Try.prog 109 [(.int .u64 0)] := Zc.mk' (z := .int .u64 0) (by kernel_rfl) rfl
instance : ElT Try.prog 109 1 8 := ElT.mk' (z := .int .u64 0) (by kernel_rfl) rfl (by decide)
instance : Sz Try.prog 110 1 := Sz.mk' (by kernel_rfl)
instance : One Try.prog 110 := One.mk' Try.underlying110 rfl
instance : Zc Try.prog 110 [(.nilFunc)] := Zc.mk' (z := .nilFunc) (by kernel_rfl) rfl
instance : ElT Try.prog 110 1 8 := ElT.mk' (z := .nilFunc) (by kernel_rfl) rfl (by decide)
instance : Sz Try.prog 111 1 := Sz.mk' (by kernel_rfl)
instance : One Try.prog 111 := One.mk' Try.underlying111 rfl
instance : Zc Try.prog 111 [(.nilFunc)] := Zc.mk' (z := .nilFunc) (by kernel_rfl) rfl
instance : ElT Try.prog 111 1 8 := ElT.mk' (z := .nilFunc) (by kernel_rfl) rfl (by decide)
instance : Sz Try.prog 112 1 := Sz.mk' (by kernel_rfl)
instance : One Try.prog 112 := One.mk' Try.underlying112 rfl
instance : Zc Try.prog 112 [(.nilFunc)] := Zc.mk' (z := .nilFunc) (by kernel_rfl) rfl
instance : ElT Try.prog 112 1 8 := ElT.mk' (z := .nilFunc) (by kernel_rfl) rfl (by decide)
instance : Sz Try.prog 113 1 := Sz.mk' (by kernel_rfl)
instance : PtrT Try.prog 113 3 := ⟨Try.underlying113⟩
instance : One Try.prog 113 := One.mk' Try.underlying113 rfl
instance : Zc Try.prog 113 [(.pointer none)] := Zc.mk' (z := .pointer none) (by kernel_rfl) rfl
instance : ElT Try.prog 113 1 8 := ElT.mk' (z := .pointer none) (by kernel_rfl) rfl (by decide)
instance : Sz Try.prog 114 1 := Sz.mk' (by kernel_rfl)
instance : One Try.prog 114 := One.mk' Try.underlying114 rfl
instance : Zc Try.prog 114 [(.nilFunc)] := Zc.mk' (z := .nilFunc) (by kernel_rfl) rfl
instance : ElT Try.prog 114 1 8 := ElT.mk' (z := .nilFunc) (by kernel_rfl) rfl (by decide)
instance : Sz Try.prog 115 1 := Sz.mk' (by kernel_rfl)
instance : One Try.prog 115 := One.mk' Try.underlying115 rfl
instance : Zc Try.prog 115 [(.nilFunc)] := Zc.mk' (z := .nilFunc) (by kernel_rfl) rfl
instance : ElT Try.prog 115 1 8 := ElT.mk' (z := .nilFunc) (by kernel_rfl) rfl (by decide)
instance : Sz Try.prog 116 1 := Sz.mk' (by kernel_rfl)
instance : One Try.prog 116 := One.mk' Try.underlying116 rfl
instance : Zc Try.prog 116 [(.nilFunc)] := Zc.mk' (z := .nilFunc) (by kernel_rfl) rfl
instance : ElT Try.prog 116 1 8 := ElT.mk' (z := .nilFunc) (by kernel_rfl) rfl (by decide)
instance : Sz Try.prog 117 1 := Sz.mk' (by kernel_rfl)
instance : PtrT Try.prog 117 109 := ⟨Try.underlying117⟩
instance : One Try.prog 117 := One.mk' Try.underlying117 rfl
instance : Zc Try.prog 117 [(.pointer none)] := Zc.mk' (z := .pointer none) (by kernel_rfl) rfl
instance : ElT Try.prog 117 1 8 := ElT.mk' (z := .pointer none) (by kernel_rfl) rfl (by decide)
instance : Sz Try.prog 119 1 := Sz.mk' (by kernel_rfl)
instance : One Try.prog 119 := One.mk' Try.underlying119 rfl
instance : Zc Try.prog 119 [(.nilFunc)] := Zc.mk' (z := .nilFunc) (by kernel_rfl) rfl
instance : ElT Try.prog 119 1 8 := ElT.mk' (z := .nilFunc) (by kernel_rfl) rfl (by decide)
instance : Sz Try.prog 120 1 := Sz.mk' (by kernel_rfl)
instance : One Try.prog 120 := One.mk' Try.underlying120 rfl
instance : Zc Try.prog 120 [(.nilFunc)] := Zc.mk' (z := .nilFunc) (by kernel_rfl) rfl
instance : ElT Try.prog 120 1 8 := ElT.mk' (z := .nilFunc) (by kernel_rfl) rfl (by decide)
instance : Sz Try.prog 121 1 := Sz.mk' (by kernel_rfl)
instance : One Try.prog 121 := One.mk' Try.underlying121 rfl
instance : Zc Try.prog 121 [(.nilFunc)] := Zc.mk' (z := .nilFunc) (by kernel_rfl) rfl
instance : ElT Try.prog 121 1 8 := ElT.mk' (z := .nilFunc) (by kernel_rfl) rfl (by decide)
instance : Sz Try.prog 122 4 := Sz.mk' (by kernel_rfl)
instance : Ag Try.prog 122 := Ag.mk' Try.underlying122 rfl
instance : Fld Try.prog 122 0 0 17 := Fld.mk' Try.underlying122 rfl
instance : Fld Try.prog 122 1 1 17 := Fld.mk' Try.underlying122 rfl
instance : Fld Try.prog 122 2 2 17 := Fld.mk' Try.underlying122 rfl
instance : Fld Try.prog 122 3 3 9 := Fld.mk' Try.underlying122 rfl
instance : Zc Try.prog 122 [(.pointer none), (.pointer none), (.pointer none), (.string ByteArray.empty)] := Zc.mk' (z := .agg #[(.pointer none), (.pointer none), (.pointer none), (.string ByteArray.empty)]) (by kernel_rfl) rfl
instance : StT Try.prog 122 [(0, 1), (1, 1), (2, 1), (3, 1)] [(.pointer none), (.pointer none), (.pointer none), (.string ByteArray.empty)] := StT.mk' (z := .agg #[(.pointer none), (.pointer none), (.pointer none), (.string ByteArray.empty)]) Try.underlying122 (by kernel_rfl) rfl (by kernel_rfl)
instance : ElT Try.prog 122 4 40 := ElT.mk' (z := .agg #[(.pointer none), (.pointer none), (.pointer none), (.string ByteArray.empty)]) (by kernel_rfl) rfl (by decide)
instance : Sz Try.prog 123 4 := Sz.mk' (by kernel_rfl)
instance : Ag Try.prog 123 := Ag.mk' Try.underlying123 rfl
instance : Fld Try.prog 123 0 0 17 := Fld.mk' Try.underlying123 rfl
instance : Fld Try.prog 123 1 1 17 := Fld.mk' Try.underlying123 rfl
instance : Fld Try.prog 123 2 2 17 := Fld.mk' Try.underlying123 rfl
instance : Fld Try.prog 123 3 3 9 := Fld.mk' Try.underlying123 rfl
instance : Zc Try.prog 123 [(.pointer none), (.pointer none), (.pointer none), (.string ByteArray.empty)] := Zc.mk' (z := .agg #[(.pointer none), (.pointer none), (.pointer none), (.string ByteArray.empty)]) (by kernel_rfl) rfl
instance : StT Try.prog 123 [(0, 1), (1, 1), (2, 1), (3, 1)] [(.pointer none), (.pointer none), (.pointer none), (.string ByteArray.empty)] := StT.mk' (z := .agg #[(.pointer none), (.pointer none), (.pointer none), (.string ByteArray.empty)]) Try.underlying123 (by kernel_rfl) rfl (by kernel_rfl)
instance : ElT Try.prog 123 4 40 := ElT.mk' (z := .agg #[(.pointer none), (.pointer none), (.pointer none), (.string ByteArray.empty)]) (by kernel_rfl) rfl (by decide)
instance : Sz Try.prog 124 0 := Sz.mk' (by kernel_rfl)
instance : ArrT Try.prog 124 0 16 := ⟨Try.underlying124⟩
instance : Ag Try.prog 124 := Ag.mk' Try.underlying124 rfl
instance : Zc Try.prog 124 [] := Zc.mk' (z := .agg #[]) (by kernel_rfl) rfl
instance : Sz Try.prog 125 0 := Sz.mk' (by kernel_rfl)
instance : Ag Try.prog 125 := Ag.mk' Try.underlying125 rfl
instance : Fld Try.prog 125 0 0 124 := Fld.mk' Try.underlying125 rfl
instance : Zc Try.prog 125 [] := Zc.mk' (z := .agg #[]) (by kernel_rfl) rfl
instance : StT Try.prog 125 [(0, 0)] [] := StT.mk' (z := .agg #[]) Try.underlying125 (by kernel_rfl) rfl (by kernel_rfl)
instance : Sz Try.prog 126 0 := Sz.mk' (by kernel_rfl)
instance : Ag Try.prog 126 := Ag.mk' Try.underlying126 rfl
instance : Fld Try.prog 126 0 0 124 := Fld.mk' Try.underlying126 rfl
instance : Zc Try.prog 126 [] := Zc.mk' (z := .agg #[]) (by kernel_rfl) rfl
instance : StT Try.prog 126 [(0, 0)] [] := StT.mk' (z := .agg #[]) Try.underlying126 (by kernel_rfl) rfl (by kernel_rfl)
instance : Sz Try.prog 127 1 := Sz.mk' (by kernel_rfl)
instance : One Try.prog 127 := One.mk' Try.underlying127 rfl
instance : Zc Try.prog 127 [(.nilFunc)] := Zc.mk' (z := .nilFunc) (by kernel_rfl) rfl
instance : ElT Try.prog 127 1 8 := ElT.mk' (z := .nilFunc) (by kernel_rfl) rfl (by decide)
instance : Sz Try.prog 128 1 := Sz.mk' (by kernel_rfl)
instance : IntT Try.prog 128 .u8 := ⟨Try.underlying128⟩
instance : One Try.prog 128 := One.mk' Try.underlying128 rfl
instance : Zc Try.prog 128 [(.int .u8 0)] := Zc.mk' (z := .int .u8 0) (by kernel_rfl) rfl
instance : ElT Try.prog 128 1 1 := ElT.mk' (z := .int .u8 0) (by kernel_rfl) rfl (by decide)
instance : Sz Try.prog 129 1 := Sz.mk' (by kernel_rfl)
instance : IntT Try.prog 129 .u8 := ⟨Try.underlying129⟩
instance : One Try.prog 129 := One.mk' Try.underlying129 rfl
instance : Zc Try.prog 129 [(.int .u8 0)] := Zc.mk' (z := .int .u8 0) (by kernel_rfl) rfl
instance : ElT Try.prog 129 1 1 := ElT.mk' (z := .int .u8 0) (by kernel_rfl) rfl (by decide)
instance : Sz Try.prog 130 1 := Sz.mk' (by kernel_rfl)
instance : One Try.prog 130 := One.mk' Try.underlying130 rfl
instance : Zc Try.prog 130 [(.nilFunc)] := Zc.mk' (z := .nilFunc) (by kernel_rfl) rfl
instance : ElT Try.prog 130 1 8 := ElT.mk' (z := .nilFunc) (by kernel_rfl) rfl (by decide)
instance : Sz Try.prog 131 1 := Sz.mk' (by kernel_rfl)
instance : PtrT Try.prog 131 5 := ⟨Try.underlying131⟩
instance : One Try.prog 131 := One.mk' Try.underlying131 rfl
instance : Zc Try.prog 131 [(.pointer none)] := Zc.mk' (z := .pointer none) (by kernel_rfl) rfl
instance : ElT Try.prog 131 1 8 := ElT.mk' (z := .pointer none) (by kernel_rfl) rfl (by decide)
instance : Sz Try.prog 132 1 := Sz.mk' (by kernel_rfl)
instance : IntT Try.prog 132 .i32 := ⟨Try.underlying132⟩
instance : One Try.prog 132 := One.mk' Try.underlying132 rfl
instance : Zc Try.prog 132 [(.int .i32 0)] := Zc.mk' (z := .int .i32 0) (by kernel_rfl) rfl
instance : ElT Try.prog 132 1 4 := ElT.mk' (z := .int .i32 0) (by kernel_rfl) rfl (by decide)
instance : Sz Try.prog 133 1 := Sz.mk' (by kernel_rfl)
instance : IntT Try.prog 133 .i32 := ⟨Try.underlying133⟩
instance : One Try.prog 133 := One.mk' Try.underlying133 rfl
instance : Zc Try.prog 133 [(.int .i32 0)] := Zc.mk' (z := .int .i32 0) (by kernel_rfl) rfl
instance : ElT Try.prog 133 1 4 := ElT.mk' (z := .int .i32 0) (by kernel_rfl) rfl (by decide)
instance : Sz Try.prog 134 11 := Sz.mk' (by kernel_rfl)
instance : Ag Try.prog 134 := Ag.mk' Try.underlying134 rfl
instance : Fld Try.prog 134 0 0 12 := Fld.mk' Try.underlying134 rfl
instance : Fld Try.prog 134 1 1 12 := Fld.mk' Try.underlying134 rfl
instance : Fld Try.prog 134 2 2 99 := Fld.mk' Try.underlying134 rfl
instance : Fld Try.prog 134 3 3 128 := Fld.mk' Try.underlying134 rfl
instance : Fld Try.prog 134 4 4 5 := Fld.mk' Try.underlying134 rfl
instance : Fld Try.prog 134 5 5 5 := Fld.mk' Try.underlying134 rfl
instance : Fld Try.prog 134 6 6 129 := Fld.mk' Try.underlying134 rfl
instance : Fld Try.prog 134 7 7 130 := Fld.mk' Try.underlying134 rfl
instance : Fld Try.prog 134 8 8 131 := Fld.mk' Try.underlying134 rfl
instance : Fld Try.prog 134 9 9 132 := Fld.mk' Try.underlying134 rfl
instance : Fld Try.prog 134 10 10 133 := Fld.mk' Try.underlying134 rfl
instance : Zc Try.prog 134 [(.int .u64 0), (.int .u64 0), (.int .u32 0), (.int .u8 0), (.int .u8 0), (.int .u8 0), (.int .u8 0), (.nilFunc), (.pointer none), (.int .i32 0), (.int .i32 0)] := Zc.mk' (z := .agg #[(.int .u64 0), (.int .u64 0), (.int .u32 0), (.int .u8 0), (.int .u8 0), (.int .u8 0), (.int .u8 0), (.nilFunc), (.pointer none), (.int .i32 0), (.int .i32 0)]) (by kernel_rfl) rfl
instance : StT Try.prog 134 [(0, 1), (1, 1), (2, 1), (3, 1), (4, 1), (5, 1), (6, 1), (7, 1), (8, 1), (9, 1), (10, 1)] [(.int .u64 0), (.int .u64 0), (.int .u32 0), (.int .u8 0), (.int .u8 0), (.int .u8 0), (.int .u8 0), (.nilFunc), (.pointer none), (.int .i32 0), (.int .i32 0)] := StT.mk' (z := .agg #[(.int .u64 0), (.int .u64 0), (.int .u32 0), (.int .u8 0), (.int .u8 0), (.int .u8 0), (.int .u8 0), (.nilFunc), (.pointer none), (.int .i32 0), (.int .i32 0)]) Try.underlying134 (by kernel_rfl) rfl (by kernel_rfl)
instance : ElT Try.prog 134 11 48 := ElT.mk' (z := .agg #[(.int .u64 0), (.int .u64 0), (.int .u32 0), (.int .u8 0), (.int .u8 0), (.int .u8 0), (.int .u8 0), (.nilFunc), (.pointer none), (.int .i32 0), (.int .i32 0)]) (by kernel_rfl) rfl (by decide)
instance : Sz Try.prog 135 11 := Sz.mk' (by kernel_rfl)
instance : Ag Try.prog 135 := Ag.mk' Try.underlying135 rfl
instance : Fld Try.prog 135 0 0 12 := Fld.mk' Try.underlying135 rfl
instance : Fld Try.prog 135 1 1 12 := Fld.mk' Try.underlying135 rfl
instance : Fld Try.prog 135 2 2 99 := Fld.mk' Try.underlying135 rfl
instance : Fld Try.prog 135 3 3 128 := Fld.mk' Try.underlying135 rfl
instance : Fld Try.prog 135 4 4 5 := Fld.mk' Try.underlying135 rfl
instance : Fld Try.prog 135 5 5 5 := Fld.mk' Try.underlying135 rfl
instance : Fld Try.prog 135 6 6 129 := Fld.mk' Try.underlying135 rfl
instance : Fld Try.prog 135 7 7 130 := Fld.mk' Try.underlying135 rfl
instance : Fld Try.prog 135 8 8 131 := Fld.mk' Try.underlying135 rfl
instance : Fld Try.prog 135 9 9 132 := Fld.mk' Try.underlying135 rfl
instance : Fld Try.prog 135 10 10 133 := Fld.mk' Try.underlying135 rfl
instance : Zc Try.prog 135 [(.int .u64 0), (.int .u64 0), (.int .u32 0), (.int .u8 0), (.int .u8 0), (.int .u8 0), (.int .u8 0), (.nilFunc), (.pointer none), (.int .i32 0), (.int .i32 0)] := Zc.mk' (z := .agg #[(.int .u64 0), (.int .u64 0), (.int .u32 0), (.int .u8 0), (.int .u8 0), (.int .u8 0), (.int .u8 0), (.nilFunc), (.pointer none), (.int .i32 0), (.int .i32 0)]) (by kernel_rfl) rfl
instance : StT Try.prog 135 [(0, 1), (1, 1), (2, 1), (3, 1), (4, 1), (5, 1), (6, 1), (7, 1), (8, 1), (9, 1), (10, 1)] [(.int .u64 0), (.int .u64 0), (.int .u32 0), (.int .u8 0), (.int .u8 0), (.int .u8 0), (.int .u8 0), (.nilFunc), (.pointer none), (.int .i32 0), (.int .i32 0)] := StT.mk' (z := .agg #[(.int .u64 0), (.int .u64 0), (.int .u32 0), (.int .u8 0), (.int .u8 0), (.int .u8 0), (.int .u8 0), (.nilFunc), (.pointer none), (.int .i32 0), (.int .i32 0)]) Try.underlying135 (by kernel_rfl) rfl (by kernel_rfl)
instance : ElT Try.prog 135 11 48 := ElT.mk' (z := .agg #[(.int .u64 0), (.int .u64 0), (.int .u32 0), (.int .u8 0), (.int .u8 0), (.int .u8 0), (.int .u8 0), (.nilFunc), (.pointer none), (.int .i32 0), (.int .i32 0)]) (by kernel_rfl) rfl (by decide)
instance : Sz Try.prog 136 1 := Sz.mk' (by kernel_rfl)
instance : One Try.prog 136 := One.mk' Try.underlying136 rfl
instance : Zc Try.prog 136 [(.pointer none)] := Zc.mk' (z := .pointer none) (by kernel_rfl) rfl
instance : ElT Try.prog 136 1 8 := ElT.mk' (z := .pointer none) (by kernel_rfl) rfl (by decide)
instance : Enters Try.prog 3 := Enters.mk' Try.func3 (by kernel_rfl) (by kernel_rfl)
instance : Enters Try.prog 4 := Enters.mk' Try.func4 (by kernel_rfl) (by kernel_rfl)
instance : Enters Try.prog 5 := Enters.mk' Try.func5 (by kernel_rfl) (by kernel_rfl)
instance : Enters Try.prog 6 := Enters.mk' Try.func6 (by kernel_rfl) (by kernel_rfl)
instance : Enters Try.prog 7 := Enters.mk' Try.func7 (by kernel_rfl) (by kernel_rfl)
instance : Enters Try.prog 8 := Enters.mk' Try.func8 (by kernel_rfl) (by kernel_rfl)
instance : Enters Try.prog 9 := Enters.mk' Try.func9 (by kernel_rfl) (by kernel_rfl)
instance : Enters Try.prog 10 := Enters.mk' Try.func10 (by kernel_rfl) (by kernel_rfl)
instance : Enters Try.prog 11 := Enters.mk' Try.func11 (by kernel_rfl) (by kernel_rfl)
instance : Enters Try.prog 12 := Enters.mk' Try.func12 (by kernel_rfl) (by kernel_rfl)
instance : Enters Try.prog 13 := Enters.mk' Try.func13 (by kernel_rfl) (by kernel_rfl)
instance : Enters Try.prog 14 := Enters.mk' Try.func14 (by kernel_rfl) (by kernel_rfl)
instance : Enters Try.prog 15 := Enters.mk' Try.func15 (by kernel_rfl) (by kernel_rfl)
instance : Enters Try.prog 16 := Enters.mk' Try.func16 (by kernel_rfl) (by kernel_rfl)
instance : Enters Try.prog 17 := Enters.mk' Try.func17 (by kernel_rfl) (by kernel_rfl)
instance : Enters Try.prog 18 := Enters.mk' Try.func18 (by kernel_rfl) (by kernel_rfl)
instance : Enters Try.prog 19 := Enters.mk' Try.func19 (by kernel_rfl) (by kernel_rfl)
instance : Enters Try.prog 20 := Enters.mk' Try.func20 (by kernel_rfl) (by kernel_rfl)
instance : Enters Try.prog 21 := Enters.mk' Try.func21 (by kernel_rfl) (by kernel_rfl)
instance : Enters Try.prog 22 := Enters.mk' Try.func22 (by kernel_rfl) (by kernel_rfl)
instance : Enters Try.prog 23 := Enters.mk' Try.func23 (by kernel_rfl) (by kernel_rfl)
instance : Enters Try.prog 24 := Enters.mk' Try.func24 (by kernel_rfl) (by kernel_rfl)
instance : Enters Try.prog 25 := Enters.mk' Try.func25 (by kernel_rfl) (by kernel_rfl)
instance : Enters Try.prog 26 := Enters.mk' Try.func26 (by kernel_rfl) (by kernel_rfl)
instance : Enters Try.prog 27 := Enters.mk' Try.func27 (by kernel_rfl) (by kernel_rfl)
instance : Enters Try.prog 28 := Enters.mk' Try.func28 (by kernel_rfl) (by kernel_rfl)
instance : Enters Try.prog 29 := Enters.mk' Try.func29 (by kernel_rfl) (by kernel_rfl)
instance : Enters Try.prog 30 := Enters.mk' Try.func30 (by kernel_rfl) (by kernel_rfl)
instance : Enters Try.prog 31 := Enters.mk' Try.func31 (by kernel_rfl) (by kernel_rfl)
instance : Enters Try.prog 32 := Enters.mk' Try.func32 (by kernel_rfl) (by kernel_rfl)
instance : Enters Try.prog 33 := Enters.mk' Try.func33 (by kernel_rfl) (by kernel_rfl)
instance : Enters Try.prog 34 := Enters.mk' Try.func34 (by kernel_rfl) (by kernel_rfl)
instance : Enters Try.prog 35 := Enters.mk' Try.func35 (by kernel_rfl) (by kernel_rfl)
instance : Enters Try.prog 36 := Enters.mk' Try.func36 (by kernel_rfl) (by kernel_rfl)
instance : Enters Try.prog 37 := Enters.mk' Try.func37 (by kernel_rfl) (by kernel_rfl)
instance : Enters Try.prog 38 := Enters.mk' Try.func38 (by kernel_rfl) (by kernel_rfl)
instance : Enters Try.prog 39 := Enters.mk' Try.func39 (by kernel_rfl) (by kernel_rfl)
instance : Enters Try.prog 40 := Enters.mk' Try.func40 (by kernel_rfl) (by kernel_rfl)
instance : Enters Try.prog 41 := Enters.mk' Try.func41 (by kernel_rfl) (by kernel_rfl)
instance : Enters Try.prog 42 := Enters.mk' Try.func42 (by kernel_rfl) (by kernel_rfl)
instance : Enters Try.prog 43 := Enters.mk' Try.func43 (by kernel_rfl) (by kernel_rfl)
instance : Enters Try.prog 44 := Enters.mk' Try.func44 (by kernel_rfl) (by kernel_rfl)
instance : Enters Try.prog 45 := Enters.mk' Try.func45 (by kernel_rfl) (by kernel_rfl)
instance : Enters Try.prog 46 := Enters.mk' Try.func46 (by kernel_rfl) (by kernel_rfl)
instance : Enters Try.prog 47 := Enters.mk' Try.func47 (by kernel_rfl) (by kernel_rfl)
instance : Enters Try.prog 48 := Enters.mk' Try.func48 (by kernel_rfl) (by kernel_rfl)
instance : Enters Try.prog 49 := Enters.mk' Try.func49 (by kernel_rfl) (by kernel_rfl)
instance : Enters Try.prog 50 := Enters.mk' Try.func50 (by kernel_rfl) (by kernel_rfl)
instance : Enters Try.prog 51 := Enters.mk' Try.func51 (by kernel_rfl) (by kernel_rfl)
instance : Enters Try.prog 52 := Enters.mk' Try.func52 (by kernel_rfl) (by kernel_rfl)
instance : Enters Try.prog 53 := Enters.mk' Try.func53 (by kernel_rfl) (by kernel_rfl)
instance : Enters Try.prog 54 := Enters.mk' Try.func54 (by kernel_rfl) (by kernel_rfl)
instance : Enters Try.prog 55 := Enters.mk' Try.func55 (by kernel_rfl) (by kernel_rfl)
instance : Enters Try.prog 56 := Enters.mk' Try.func56 (by kernel_rfl) (by kernel_rfl)
instance : Enters Try.prog 57 := Enters.mk' Try.func57 (by kernel_rfl) (by kernel_rfl)
instance : Enters Try.prog 58 := Enters.mk' Try.func58 (by kernel_rfl) (by kernel_rfl)
instance : Enters Try.prog 59 := Enters.mk' Try.func59 (by kernel_rfl) (by kernel_rfl)
instance : Enters Try.prog 60 := Enters.mk' Try.func60 (by kernel_rfl) (by kernel_rfl)
instance : Enters Try.prog 61 := Enters.mk' Try.func61 (by kernel_rfl) (by kernel_rfl)
instance : Enters Try.prog 62 := Enters.mk' Try.func62 (by kernel_rfl) (by kernel_rfl)
instance : Enters Try.prog 63 := Enters.mk' Try.func63 (by kernel_rfl) (by kernel_rfl)
instance : Enters Try.prog 64 := Enters.mk' Try.func64 (by kernel_rfl) (by kernel_rfl)
instance : Enters Try.prog 65 := Enters.mk' Try.func65 (by kernel_rfl) (by kernel_rfl)
instance : Enters Try.prog 66 := Enters.mk' Try.func66 (by kernel_rfl) (by kernel_rfl)
instance : Enters Try.prog 67 := Enters.mk' Try.func67 (by kernel_rfl) (by kernel_rfl)
instance : Enters Try.prog 68 := Enters.mk' Try.func68 (by kernel_rfl) (by kernel_rfl)
instance : Enters Try.prog 69 := Enters.mk' Try.func69 (by kernel_rfl) (by kernel_rfl)
instance : Enters Try.prog 70 := Enters.mk' Try.func70 (by kernel_rfl) (by kernel_rfl)
instance : Enters Try.prog 71 := Enters.mk' Try.func71 (by kernel_rfl) (by kernel_rfl)
instance : Enters Try.prog 72 := Enters.mk' Try.func72 (by kernel_rfl) (by kernel_rfl)
instance : Enters Try.prog 73 := Enters.mk' Try.func73 (by kernel_rfl) (by kernel_rfl)
instance : Enters Try.prog 74 := Enters.mk' Try.func74 (by kernel_rfl) (by kernel_rfl)
instance : Enters Try.prog 75 := Enters.mk' Try.func75 (by kernel_rfl) (by kernel_rfl)
instance : Enters Try.prog 76 := Enters.mk' Try.func76 (by kernel_rfl) (by kernel_rfl)
instance : Enters Try.prog 77 := Enters.mk' Try.func77 (by kernel_rfl) (by kernel_rfl)
instance : Enters Try.prog 78 := Enters.mk' Try.func78 (by kernel_rfl) (by kernel_rfl)
instance : Enters Try.prog 79 := Enters.mk' Try.func79 (by kernel_rfl) (by kernel_rfl)
instance : Enters Try.prog 80 := Enters.mk' Try.func80 (by kernel_rfl) (by kernel_rfl)
instance : Enters Try.prog 81 := Enters.mk' Try.func81 (by kernel_rfl) (by kernel_rfl)
theorem mixed : Try.prog.follows .mixedOrders = true := by kernel_rfl
end Go.Lx
