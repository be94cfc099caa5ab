/- The types and functions of this seat's translation, as instances of the own layer's classes. Printed by gen_ty.py. -/
import Derived.Test.YtpkchhcedbgfhaaProg
import Derived.Test.YtpkchhcedbgfhaaXf
import Derived.KernelRfl
namespace Go.Lx
open Go.Proofs
set_option maxRecDepth 100000
instance : Sz Try.prog 1 1 := Sz.mk' (by kernel_rfl)
instance : One Try.prog 1 := One.mk' Try.underlying1 rfl
instance : Zc Try.prog 1 [(.nilFunc)] := Zc.mk' (z := .nilFunc) (by kernel_rfl) rfl
instance : ElT Try.prog 1 1 8 := ElT.mk' (z := .nilFunc) (by kernel_rfl) rfl (by decide)
instance : Sz Try.prog 2 1 := Sz.mk' (by kernel_rfl)
instance : IntT Try.prog 2 .i64 := ⟨Try.underlying2⟩
instance : One Try.prog 2 := One.mk' Try.underlying2 rfl
instance : Zc Try.prog 2 [(.int .i64 0)] := Zc.mk' (z := .int .i64 0) (by kernel_rfl) rfl
instance : ElT Try.prog 2 1 8 := ElT.mk' (z := .int .i64 0) (by kernel_rfl) rfl (by decide)
instance : Sz Try.prog 3 1 := Sz.mk' (by kernel_rfl)
instance : IntT Try.prog 3 .i64 := ⟨Try.underlying3⟩
instance : One Try.prog 3 := One.mk' Try.underlying3 rfl
instance : Zc Try.prog 3 [(.int .i64 0)] := Zc.mk' (z := .int .i64 0) (by kernel_rfl) rfl
instance : ElT Try.prog 3 1 8 := ElT.mk' (z := .int .i64 0) (by kernel_rfl) rfl (by decide)
instance : Sz Try.prog 4 1 := Sz.mk' (by kernel_rfl)
instance : BoolT Try.prog 4 := ⟨Try.underlying4⟩
instance : One Try.prog 4 := One.mk' Try.underlying4 rfl
instance : Zc Try.prog 4 [(.bool false)] := Zc.mk' (z := .bool false) (by kernel_rfl) rfl
instance : ElT Try.prog 4 1 1 := ElT.mk' (z := .bool false) (by kernel_rfl) rfl (by decide)
instance : Sz Try.prog 5 1 := Sz.mk' (by kernel_rfl)
instance : IntT Try.prog 5 .u8 := ⟨Try.underlying5⟩
instance : One Try.prog 5 := One.mk' Try.underlying5 rfl
instance : Zc Try.prog 5 [(.int .u8 0)] := Zc.mk' (z := .int .u8 0) (by kernel_rfl) rfl
instance : ElT Try.prog 5 1 1 := ElT.mk' (z := .int .u8 0) (by kernel_rfl) rfl (by decide)
instance : Sz Try.prog 6 1 := Sz.mk' (by kernel_rfl)
instance : IntT Try.prog 6 .u8 := ⟨Try.underlying6⟩
instance : One Try.prog 6 := One.mk' Try.underlying6 rfl
instance : Zc Try.prog 6 [(.int .u8 0)] := Zc.mk' (z := .int .u8 0) (by kernel_rfl) rfl
instance : ElT Try.prog 6 1 1 := ElT.mk' (z := .int .u8 0) (by kernel_rfl) rfl (by decide)
instance : Sz Try.prog 7 4 := Sz.mk' (by kernel_rfl)
instance : Ag Try.prog 7 := Ag.mk' Try.underlying7 rfl
instance : Fld Try.prog 7 0 0 2 := Fld.mk' Try.underlying7 rfl
instance : Fld Try.prog 7 1 1 3 := Fld.mk' Try.underlying7 rfl
instance : Fld Try.prog 7 2 2 4 := Fld.mk' Try.underlying7 rfl
instance : Fld Try.prog 7 3 3 6 := Fld.mk' Try.underlying7 rfl
instance : Zc Try.prog 7 [(.int .i64 0), (.int .i64 0), (.bool false), (.int .u8 0)] := Zc.mk' (z := .agg #[(.int .i64 0), (.int .i64 0), (.bool false), (.int .u8 0)]) (by kernel_rfl) rfl
instance : StT Try.prog 7 [(0, 1), (1, 1), (2, 1), (3, 1)] [(.int .i64 0), (.int .i64 0), (.bool false), (.int .u8 0)] := StT.mk' (z := .agg #[(.int .i64 0), (.int .i64 0), (.bool false), (.int .u8 0)]) Try.underlying7 (by kernel_rfl) rfl (by kernel_rfl)
instance : ElT Try.prog 7 4 24 := ElT.mk' (z := .agg #[(.int .i64 0), (.int .i64 0), (.bool false), (.int .u8 0)]) (by kernel_rfl) rfl (by decide)
instance : Sz Try.prog 8 4 := Sz.mk' (by kernel_rfl)
instance : Ag Try.prog 8 := Ag.mk' Try.underlying8 rfl
instance : Fld Try.prog 8 0 0 2 := Fld.mk' Try.underlying8 rfl
instance : Fld Try.prog 8 1 1 3 := Fld.mk' Try.underlying8 rfl
instance : Fld Try.prog 8 2 2 4 := Fld.mk' Try.underlying8 rfl
instance : Fld Try.prog 8 3 3 6 := Fld.mk' Try.underlying8 rfl
instance : Zc Try.prog 8 [(.int .i64 0), (.int .i64 0), (.bool false), (.int .u8 0)] := Zc.mk' (z := .agg #[(.int .i64 0), (.int .i64 0), (.bool false), (.int .u8 0)]) (by kernel_rfl) rfl
instance : StT Try.prog 8 [(0, 1), (1, 1), (2, 1), (3, 1)] [(.int .i64 0), (.int .i64 0), (.bool false), (.int .u8 0)] := StT.mk' (z := .agg #[(.int .i64 0), (.int .i64 0), (.bool false), (.int .u8 0)]) Try.underlying8 (by kernel_rfl) rfl (by kernel_rfl)
instance : ElT Try.prog 8 4 24 := ElT.mk' (z := .agg #[(.int .i64 0), (.int .i64 0), (.bool false), (.int .u8 0)]) (by kernel_rfl) rfl (by decide)
instance : Sz Try.prog 9 1 := Sz.mk' (by kernel_rfl)
instance : StrT Try.prog 9 := ⟨Try.underlying9⟩
instance : One Try.prog 9 := One.mk' Try.underlying9 rfl
instance : Zc Try.prog 9 [(.string ByteArray.empty)] := Zc.mk' (z := .string ByteArray.empty) (by kernel_rfl) rfl
instance : ElT Try.prog 9 1 16 := ElT.mk' (z := .string ByteArray.empty) (by kernel_rfl) rfl (by decide)
instance : Sz Try.prog 10 1 := Sz.mk' (by kernel_rfl)
instance : StrT Try.prog 10 := ⟨Try.underlying10⟩
instance : One Try.prog 10 := One.mk' Try.underlying10 rfl
instance : Zc Try.prog 10 [(.string ByteArray.empty)] := Zc.mk' (z := .string ByteArray.empty) (by kernel_rfl) rfl
instance : ElT Try.prog 10 1 16 := ElT.mk' (z := .string ByteArray.empty) (by kernel_rfl) rfl (by decide)
instance : Sz Try.prog 11 1 := Sz.mk' (by kernel_rfl)
instance : StrT Try.prog 11 := ⟨Try.underlying11⟩
instance : One Try.prog 11 := One.mk' Try.underlying11 rfl
instance : Zc Try.prog 11 [(.string ByteArray.empty)] := Zc.mk' (z := .string ByteArray.empty) (by kernel_rfl) rfl
instance : ElT Try.prog 11 1 16 := ElT.mk' (z := .string ByteArray.empty) (by kernel_rfl) rfl (by decide)
instance : Sz Try.prog 12 1 := Sz.mk' (by kernel_rfl)
instance : IntT Try.prog 12 .u64 := ⟨Try.underlying12⟩
instance : One Try.prog 12 := One.mk' Try.underlying12 rfl
instance : Zc Try.prog 12 [(.int .u64 0)] := Zc.mk' (z := .int .u64 0) (by kernel_rfl) rfl
instance : ElT Try.prog 12 1 8 := ElT.mk' (z := .int .u64 0) (by kernel_rfl) rfl (by decide)
instance : Sz Try.prog 13 2 := Sz.mk' (by kernel_rfl)
instance : Ag Try.prog 13 := Ag.mk' Try.underlying13 rfl
instance : Fld Try.prog 13 0 0 9 := Fld.mk' Try.underlying13 rfl
instance : Fld Try.prog 13 1 1 12 := Fld.mk' Try.underlying13 rfl
instance : Zc Try.prog 13 [(.string ByteArray.empty), (.int .u64 0)] := Zc.mk' (z := .agg #[(.string ByteArray.empty), (.int .u64 0)]) (by kernel_rfl) rfl
instance : StT Try.prog 13 [(0, 1), (1, 1)] [(.string ByteArray.empty), (.int .u64 0)] := StT.mk' (z := .agg #[(.string ByteArray.empty), (.int .u64 0)]) Try.underlying13 (by kernel_rfl) rfl (by kernel_rfl)
instance : ElT Try.prog 13 2 24 := ElT.mk' (z := .agg #[(.string ByteArray.empty), (.int .u64 0)]) (by kernel_rfl) rfl (by decide)
instance : Sz Try.prog 14 2 := Sz.mk' (by kernel_rfl)
instance : Ag Try.prog 14 := Ag.mk' Try.underlying14 rfl
instance : Fld Try.prog 14 0 0 9 := Fld.mk' Try.underlying14 rfl
instance : Fld Try.prog 14 1 1 12 := Fld.mk' Try.underlying14 rfl
instance : Zc Try.prog 14 [(.string ByteArray.empty), (.int .u64 0)] := Zc.mk' (z := .agg #[(.string ByteArray.empty), (.int .u64 0)]) (by kernel_rfl) rfl
instance : StT Try.prog 14 [(0, 1), (1, 1)] [(.string ByteArray.empty), (.int .u64 0)] := StT.mk' (z := .agg #[(.string ByteArray.empty), (.int .u64 0)]) Try.underlying14 (by kernel_rfl) rfl (by kernel_rfl)
instance : ElT Try.prog 14 2 24 := ElT.mk' (z := .agg #[(.string ByteArray.empty), (.int .u64 0)]) (by kernel_rfl) rfl (by decide)
instance : Sz Try.prog 15 1 := Sz.mk' (by kernel_rfl)
instance : PtrT Try.prog 15 86 := ⟨Try.underlying15⟩
instance : One Try.prog 15 := One.mk' Try.underlying15 rfl
instance : Zc Try.prog 15 [(.pointer none)] := Zc.mk' (z := .pointer none) (by kernel_rfl) rfl
instance : ElT Try.prog 15 1 8 := ElT.mk' (z := .pointer none) (by kernel_rfl) rfl (by decide)
instance : Sz Try.prog 16 1 := Sz.mk' (by kernel_rfl)
instance : PtrT Try.prog 16 89 := ⟨Try.underlying16⟩
instance : One Try.prog 16 := One.mk' Try.underlying16 rfl
instance : Zc Try.prog 16 [(.pointer none)] := Zc.mk' (z := .pointer none) (by kernel_rfl) rfl
instance : ElT Try.prog 16 1 8 := ElT.mk' (z := .pointer none) (by kernel_rfl) rfl (by decide)
instance : Sz Try.prog 17 1 := Sz.mk' (by kernel_rfl)
instance : PtrT Try.prog 17 97 := ⟨Try.underlying17⟩
instance : One Try.prog 17 := One.mk' Try.underlying17 rfl
instance : Zc Try.prog 17 [(.pointer none)] := Zc.mk' (z := .pointer none) (by kernel_rfl) rfl
instance : ElT Try.prog 17 1 8 := ElT.mk' (z := .pointer none) (by kernel_rfl) rfl (by decide)
instance : Sz Try.prog 18 1 := Sz.mk' (by kernel_rfl)
instance : Ag Try.prog 18 := Ag.mk' Try.underlying18 rfl
instance : Fld Try.prog 18 0 0 17 := Fld.mk' Try.underlying18 rfl
instance : Zc Try.prog 18 [(.pointer none)] := Zc.mk' (z := .agg #[(.pointer none)]) (by kernel_rfl) rfl
instance : StT Try.prog 18 [(0, 1)] [(.pointer none)] := StT.mk' (z := .agg #[(.pointer none)]) Try.underlying18 (by kernel_rfl) rfl (by kernel_rfl)
instance : ElT Try.prog 18 1 8 := ElT.mk' (z := .agg #[(.pointer none)]) (by kernel_rfl) rfl (by decide)
instance : Sz Try.prog 19 1 := Sz.mk' (by kernel_rfl)
instance : Ag Try.prog 19 := Ag.mk' Try.underlying19 rfl
instance : Fld Try.prog 19 0 0 17 := Fld.mk' Try.underlying19 rfl
instance : Zc Try.prog 19 [(.pointer none)] := Zc.mk' (z := .agg #[(.pointer none)]) (by kernel_rfl) rfl
instance : StT Try.prog 19 [(0, 1)] [(.pointer none)] := StT.mk' (z := .agg #[(.pointer none)]) Try.underlying19 (by kernel_rfl) rfl (by kernel_rfl)
instance : ElT Try.prog 19 1 8 := ElT.mk' (z := .agg #[(.pointer none)]) (by kernel_rfl) rfl (by decide)
instance : Sz Try.prog 20 1 := Sz.mk' (by kernel_rfl)
instance : One Try.prog 20 := One.mk' Try.underlying20 rfl
instance : Zc Try.prog 20 [(.nilIface)] := Zc.mk' (z := .nilIface) (by kernel_rfl) rfl
instance : ElT Try.prog 20 1 16 := ElT.mk' (z := .nilIface) (by kernel_rfl) rfl (by decide)
instance : Sz Try.prog 21 1 := Sz.mk' (by kernel_rfl)
instance : IntT Try.prog 21 .i32 := ⟨Try.underlying21⟩
instance : One Try.prog 21 := One.mk' Try.underlying21 rfl
instance : Zc Try.prog 21 [(.int .i32 0)] := Zc.mk' (z := .int .i32 0) (by kernel_rfl) rfl
instance : ElT Try.prog 21 1 4 := ElT.mk' (z := .int .i32 0) (by kernel_rfl) rfl (by decide)
instance : Sz Try.prog 22 1 := Sz.mk' (by kernel_rfl)
instance : SlT Try.prog 22 33 := ⟨Try.underlying22⟩
instance : One Try.prog 22 := One.mk' Try.underlying22 rfl
instance : Zc Try.prog 22 [(.slice none 0 0)] := Zc.mk' (z := .slice none 0 0) (by kernel_rfl) rfl
instance : ElT Try.prog 22 1 24 := ElT.mk' (z := .slice none 0 0) (by kernel_rfl) rfl (by decide)
instance : Sz Try.prog 23 1 := Sz.mk' (by kernel_rfl)
instance : One Try.prog 23 := One.mk' Try.underlying23 rfl
instance : Zc Try.prog 23 [(.nilFunc)] := Zc.mk' (z := .nilFunc) (by kernel_rfl) rfl
instance : ElT Try.prog 23 1 8 := ElT.mk' (z := .nilFunc) (by kernel_rfl) rfl (by decide)
instance : Sz Try.prog 24 1 := Sz.mk' (by kernel_rfl)
instance : One Try.prog 24 := One.mk' Try.underlying24 rfl
instance : Zc Try.prog 24 [(.nilFunc)] := Zc.mk' (z := .nilFunc) (by kernel_rfl) rfl
instance : ElT Try.prog 24 1 8 := ElT.mk' (z := .nilFunc) (by kernel_rfl) rfl (by decide)
instance : Sz Try.prog 25 1 := Sz.mk' (by kernel_rfl)
instance : IntT Try.prog 25 .i64 := ⟨Try.underlying25⟩
instance : One Try.prog 25 := One.mk' Try.underlying25 rfl
instance : Zc Try.prog 25 [(.int .i64 0)] := Zc.mk' (z := .int .i64 0) (by kernel_rfl) rfl
instance : ElT Try.prog 25 1 8 := ElT.mk' (z := .int .i64 0) (by kernel_rfl) rfl (by decide)
instance : Sz Try.prog 27 1 := Sz.mk' (by kernel_rfl)
instance : One Try.prog 27 := One.mk' Try.underlying27 rfl
instance : Zc Try.prog 27 [(.nilFunc)] := Zc.mk' (z := .nilFunc) (by kernel_rfl) rfl
instance : ElT Try.prog 27 1 8 := ElT.mk' (z := .nilFunc) (by kernel_rfl) rfl (by decide)
instance : Sz Try.prog 28 1 := Sz.mk' (by kernel_rfl)
instance : One Try.prog 28 := One.mk' Try.underlying28 rfl
instance : Zc Try.prog 28 [(.nilFunc)] := Zc.mk' (z := .nilFunc) (by kernel_rfl) rfl
instance : ElT Try.prog 28 1 8 := ElT.mk' (z := .nilFunc) (by kernel_rfl) rfl (by decide)
instance : Sz Try.prog 29 1 := Sz.mk' (by kernel_rfl)
instance : One Try.prog 29 := One.mk' Try.underlying29 rfl
instance : Zc Try.prog 29 [(.nilFunc)] := Zc.mk' (z := .nilFunc) (by kernel_rfl) rfl
instance : ElT Try.prog 29 1 8 := ElT.mk' (z := .nilFunc) (by kernel_rfl) rfl (by decide)
instance : Sz Try.prog 30 1 := Sz.mk' (by kernel_rfl)
instance : SlT Try.prog 30 4 := ⟨Try.underlying30⟩
instance : One Try.prog 30 := One.mk' Try.underlying30 rfl
instance : Zc Try.prog 30 [(.slice none 0 0)] := Zc.mk' (z := .slice none 0 0) (by kernel_rfl) rfl
instance : ElT Try.prog 30 1 24 := ElT.mk' (z := .slice none 0 0) (by kernel_rfl) rfl (by decide)
instance : Sz Try.prog 31 1 := Sz.mk' (by kernel_rfl)
instance : One Try.prog 31 := One.mk' Try.underlying31 rfl
instance : Zc Try.prog 31 [(.nilFunc)] := Zc.mk' (z := .nilFunc) (by kernel_rfl) rfl
instance : ElT Try.prog 31 1 8 := ElT.mk' (z := .nilFunc) (by kernel_rfl) rfl (by decide)
instance : Sz Try.prog 32 2 := Sz.mk' (by kernel_rfl)
instance : Ag Try.prog 32 := Ag.mk' Try.underlying32 rfl
instance : EqS Try.prog 32 [.i64, .i64] := EqS.mk' Try.underlying32 (by kernel_rfl) (by kernel_rfl) (by kernel_rfl)
instance : Fld Try.prog 32 0 0 3 := Fld.mk' Try.underlying32 rfl
instance : Fld Try.prog 32 1 1 3 := Fld.mk' Try.underlying32 rfl
instance : Zc Try.prog 32 [(.int .i64 0), (.int .i64 0)] := Zc.mk' (z := .agg #[(.int .i64 0), (.int .i64 0)]) (by kernel_rfl) rfl
instance : StT Try.prog 32 [(0, 1), (1, 1)] [(.int .i64 0), (.int .i64 0)] := StT.mk' (z := .agg #[(.int .i64 0), (.int .i64 0)]) Try.underlying32 (by kernel_rfl) rfl (by kernel_rfl)
instance : ElT Try.prog 32 2 16 := ElT.mk' (z := .agg #[(.int .i64 0), (.int .i64 0)]) (by kernel_rfl) rfl (by decide)
instance : Sz Try.prog 33 2 := Sz.mk' (by kernel_rfl)
instance : Ag Try.prog 33 := Ag.mk' Try.underlying33 rfl
instance : EqS Try.prog 33 [.i64, .i64] := EqS.mk' Try.underlying33 (by kernel_rfl) (by kernel_rfl) (by kernel_rfl)
instance : Fld Try.prog 33 0 0 3 := Fld.mk' Try.underlying33 rfl
instance : Fld Try.prog 33 1 1 3 := Fld.mk' Try.underlying33 rfl
instance : Zc Try.prog 33 [(.int .i64 0), (.int .i64 0)] := Zc.mk' (z := .agg #[(.int .i64 0), (.int .i64 0)]) (by kernel_rfl) rfl
instance : StT Try.prog 33 [(0, 1), (1, 1)] [(.int .i64 0), (.int .i64 0)] := StT.mk' (z := .agg #[(.int .i64 0), (.int .i64 0)]) Try.underlying33 (by kernel_rfl) rfl (by kernel_rfl)
instance : ElT Try.prog 33 2 16 := ElT.mk' (z := .agg #[(.int .i64 0), (.int .i64 0)]) (by kernel_rfl) rfl (by decide)
instance : Sz Try.prog 34 1 := Sz.mk' (by kernel_rfl)
instance : One Try.prog 34 := One.mk' Try.underlying34 rfl
instance : Zc Try.prog 34 [(.nilFunc)] := Zc.mk' (z := .nilFunc) (by kernel_rfl) rfl
instance : ElT Try.prog 34 1 8 := ElT.mk' (z := .nilFunc) (by kernel_rfl) rfl (by decide)
instance : Sz Try.prog 36 1 := Sz.mk' (by kernel_rfl)
instance : One Try.prog 36 := One.mk' Try.underlying36 rfl
instance : Zc Try.prog 36 [(.nilFunc)] := Zc.mk' (z := .nilFunc) (by kernel_rfl) rfl
instance : ElT Try.prog 36 1 8 := ElT.mk' (z := .nilFunc) (by kernel_rfl) rfl (by decide)
instance : Sz Try.prog 37 1 := Sz.mk' (by kernel_rfl)
instance : One Try.prog 37 := One.mk' Try.underlying37 rfl
instance : Zc Try.prog 37 [(.nilFunc)] := Zc.mk' (z := .nilFunc) (by kernel_rfl) rfl
instance : ElT Try.prog 37 1 8 := ElT.mk' (z := .nilFunc) (by kernel_rfl) rfl (by decide)
instance : Sz Try.prog 38 1 := Sz.mk' (by kernel_rfl)
instance : One Try.prog 38 := One.mk' Try.underlying38 rfl
instance : Zc Try.prog 38 [(.nilFunc)] := Zc.mk' (z := .nilFunc) (by kernel_rfl) rfl
instance : ElT Try.prog 38 1 8 := ElT.mk' (z := .nilFunc) (by kernel_rfl) rfl (by decide)
instance : Sz Try.prog 39 1 := Sz.mk' (by kernel_rfl)
instance : One Try.prog 39 := One.mk' Try.underlying39 rfl
instance : Zc Try.prog 39 [(.nilFunc)] := Zc.mk' (z := .nilFunc) (by kernel_rfl) rfl
instance : ElT Try.prog 39 1 8 := ElT.mk' (z := .nilFunc) (by kernel_rfl) rfl (by decide)
instance : Sz Try.prog 40 2 := Sz.mk' (by kernel_rfl)
instance : ArrT Try.prog 40 2 3 := ⟨Try.underlying40⟩
instance : Ag Try.prog 40 := Ag.mk' Try.underlying40 rfl
instance : Zc Try.prog 40 [(.int .i64 0), (.int .i64 0)] := Zc.mk' (z := .agg #[(.int .i64 0), (.int .i64 0)]) (by kernel_rfl) rfl
instance : ElT Try.prog 40 2 16 := ElT.mk' (z := .agg #[(.int .i64 0), (.int .i64 0)]) (by kernel_rfl) rfl (by decide)
instance : Sz Try.prog 41 1 := Sz.mk' (by kernel_rfl)
instance : One Try.prog 41 := One.mk' Try.underlying41 rfl
instance : Zc Try.prog 41 [(.nilFunc)] := Zc.mk' (z := .nilFunc) (by kernel_rfl) rfl
instance : ElT Try.prog 41 1 8 := ElT.mk' (z := .nilFunc) (by kernel_rfl) rfl (by decide)
instance : Sz Try.prog 42 1 := Sz.mk' (by kernel_rfl)
instance : One Try.prog 42 := One.mk' Try.underlying42 rfl
instance : Zc Try.prog 42 [(.nilFunc)] := Zc.mk' (z := .nilFunc) (by kernel_rfl) rfl
instance : ElT Try.prog 42 1 8 := ElT.mk' (z := .nilFunc) (by kernel_rfl) rfl (by decide)
instance : Sz Try.prog 43 1 := Sz.mk' (by kernel_rfl)
instance : One Try.prog 43 := One.mk' Try.underlying43 rfl
instance : Zc Try.prog 43 [(.nilFunc)] := Zc.mk' (z := .nilFunc) (by kernel_rfl) rfl
instance : ElT Try.prog 43 1 8 := ElT.mk' (z := .nilFunc) (by kernel_rfl) rfl (by decide)
instance : Sz Try.prog 44 1 := Sz.mk' (by kernel_rfl)
instance : One Try.prog 44 := One.mk' Try.underlying44 rfl
instance : Zc Try.prog 44 [(.nilFunc)] := Zc.mk' (z := .nilFunc) (by kernel_rfl) rfl
instance : ElT Try.prog 44 1 8 := ElT.mk' (z := .nilFunc) (by kernel_rfl) rfl (by decide)
instance : Sz Try.prog 45 1 := Sz.mk' (by kernel_rfl)
instance : One Try.prog 45 := One.mk' Try.underlying45 rfl
instance : Zc Try.prog 45 [(.nilFunc)] := Zc.mk' (z := .nilFunc) (by kernel_rfl) rfl
instance : ElT Try.prog 45 1 8 := ElT.mk' (z := .nilFunc) (by kernel_rfl) rfl (by decide)
instance : Sz Try.prog 46 1 := Sz.mk' (by kernel_rfl)
instance : One Try.prog 46 := One.mk' Try.underlying46 rfl
instance : Zc Try.prog 46 [(.nilFunc)] := Zc.mk' (z := .nilFunc) (by kernel_rfl) rfl
instance : ElT Try.prog 46 1 8 := ElT.mk' (z := .nilFunc) (by kernel_rfl) rfl (by decide)
instance : Sz Try.prog 47 1 := Sz.mk' (by kernel_rfl)
instance : One Try.prog 47 := One.mk' Try.underlying47 rfl
instance : Zc Try.prog 47 [(.nilFunc)] := Zc.mk' (z := .nilFunc) (by kernel_rfl) rfl
instance : ElT Try.prog 47 1 8 := ElT.mk' (z := .nilFunc) (by kernel_rfl) rfl (by decide)
instance : Sz Try.prog 48 1 := Sz.mk' (by kernel_rfl)
instance : One Try.prog 48 := One.mk' Try.underlying48 rfl
instance : Zc Try.prog 48 [(.nilFunc)] := Zc.mk' (z := .nilFunc) (by kernel_rfl) rfl
instance : ElT Try.prog 48 1 8 := ElT.mk' (z := .nilFunc) (by kernel_rfl) rfl (by decide)
instance : Sz Try.prog 49 1 := Sz.mk' (by kernel_rfl)
instance : One Try.prog 49 := One.mk' Try.underlying49 rfl
instance : Zc Try.prog 49 [(.nilFunc)] := Zc.mk' (z := .nilFunc) (by kernel_rfl) rfl
instance : ElT Try.prog 49 1 8 := ElT.mk' (z := .nilFunc) (by kernel_rfl) rfl (by decide)
instance : Sz Try.prog 50 1 := Sz.mk' (by kernel_rfl)
instance : One Try.prog 50 := One.mk' Try.underlying50 rfl
instance : Zc Try.prog 50 [(.nilFunc)] := Zc.mk' (z := .nilFunc) (by kernel_rfl) rfl
instance : ElT Try.prog 50 1 8 := ElT.mk' (z := .nilFunc) (by kernel_rfl) rfl (by decide)
instance : Sz Try.prog 51 1 := Sz.mk' (by kernel_rfl)
instance : One Try.prog 51 := One.mk' Try.underlying51 rfl
instance : Zc Try.prog 51 [(.nilFunc)] := Zc.mk' (z := .nilFunc) (by kernel_rfl) rfl
instance : ElT Try.prog 51 1 8 := ElT.mk' (z := .nilFunc) (by kernel_rfl) rfl (by decide)
instance : Sz Try.prog 52 1 := Sz.mk' (by kernel_rfl)
instance : One Try.prog 52 := One.mk' Try.underlying52 rfl
instance : Zc Try.prog 52 [(.nilFunc)] := Zc.mk' (z := .nilFunc) (by kernel_rfl) rfl
instance : ElT Try.prog 52 1 8 := ElT.mk' (z := .nilFunc) (by kernel_rfl) rfl (by decide)
instance : Sz Try.prog 53 1 := Sz.mk' (by kernel_rfl)
instance : One Try.prog 53 := One.mk' Try.underlying53 rfl
instance : Zc Try.prog 53 [(.nilFunc)] := Zc.mk' (z := .nilFunc) (by kernel_rfl) rfl
instance : ElT Try.prog 53 1 8 := ElT.mk' (z := .nilFunc) (by kernel_rfl) rfl (by decide)
instance : Sz Try.prog 54 1 := Sz.mk' (by kernel_rfl)
instance : One Try.prog 54 := One.mk' Try.underlying54 rfl
instance : Zc Try.prog 54 [(.nilFunc)] := Zc.mk' (z := .nilFunc) (by kernel_rfl) rfl
instance : ElT Try.prog 54 1 8 := ElT.mk' (z := .nilFunc) (by kernel_rfl) rfl (by decide)
instance : Sz Try.prog 55 1 := Sz.mk' (by kernel_rfl)
instance : One Try.prog 55 := One.mk' Try.underlying55 rfl
instance : Zc Try.prog 55 [(.nilFunc)] := Zc.mk' (z := .nilFunc) (by kernel_rfl) rfl
instance : ElT Try.prog 55 1 8 := ElT.mk' (z := .nilFunc) (by kernel_rfl) rfl (by decide)
instance : Sz Try.prog 56 1 := Sz.mk' (by kernel_rfl)
instance : One Try.prog 56 := One.mk' Try.underlying56 rfl
instance : Zc Try.prog 56 [(.nilFunc)] := Zc.mk' (z := .nilFunc) (by kernel_rfl) rfl
instance : ElT Try.prog 56 1 8 := ElT.mk' (z := .nilFunc) (by kernel_rfl) rfl (by decide)
instance : Sz Try.prog 57 1 := Sz.mk' (by kernel_rfl)
instance : One Try.prog 57 := One.mk' Try.underlying57 rfl
instance : Zc Try.prog 57 [(.nilFunc)] := Zc.mk' (z := .nilFunc) (by kernel_rfl) rfl
instance : ElT Try.prog 57 1 8 := ElT.mk' (z := .nilFunc) (by kernel_rfl) rfl (by decide)
instance : Sz Try.prog 58 1 := Sz.mk' (by kernel_rfl)
instance : One Try.prog 58 := One.mk' Try.underlying58 rfl
instance : Zc Try.prog 58 [(.nilFunc)] := Zc.mk' (z := .nilFunc) (by kernel_rfl) rfl
instance : ElT Try.prog 58 1 8 := ElT.mk' (z := .nilFunc) (by kernel_rfl) rfl (by decide)
instance : Sz Try.prog 59 1 := Sz.mk' (by kernel_rfl)
instance : One Try.prog 59 := One.mk' Try.underlying59 rfl
instance : Zc Try.prog 59 [(.nilFunc)] := Zc.mk' (z := .nilFunc) (by kernel_rfl) rfl
instance : ElT Try.prog 59 1 8 := ElT.mk' (z := .nilFunc) (by kernel_rfl) rfl (by decide)
instance : Sz Try.prog 60 1 := Sz.mk' (by kernel_rfl)
instance : One Try.prog 60 := One.mk' Try.underlying60 rfl
instance : Zc Try.prog 60 [(.nilFunc)] := Zc.mk' (z := .nilFunc) (by kernel_rfl) rfl
instance : ElT Try.prog 60 1 8 := ElT.mk' (z := .nilFunc) (by kernel_rfl) rfl (by decide)
instance : Sz Try.prog 61 1 := Sz.mk' (by kernel_rfl)
instance : IntT Try.prog 61 .u64 := ⟨Try.underlying61⟩
instance : One Try.prog 61 := One.mk' Try.underlying61 rfl
instance : Zc Try.prog 61 [(.int .u64 0)] := Zc.mk' (z := .int .u64 0) (by kernel_rfl) rfl
instance : ElT Try.prog 61 1 8 := ElT.mk' (z := .int .u64 0) (by kernel_rfl) rfl (by decide)
instance : Sz Try.prog 62 1 := Sz.mk' (by kernel_rfl)
instance : One Try.prog 62 := One.mk' Try.underlying62 rfl
instance : Zc Try.prog 62 [(.nilFunc)] := Zc.mk' (z := .nilFunc) (by kernel_rfl) rfl
instance : ElT Try.prog 62 1 8 := ElT.mk' (z := .nilFunc) (by kernel_rfl) rfl (by decide)
instance : Sz Try.prog 63 1 := Sz.mk' (by kernel_rfl)
instance : One Try.prog 63 := One.mk' Try.underlying63 rfl
instance : Zc Try.prog 63 [(.nilFunc)] := Zc.mk' (z := .nilFunc) (by kernel_rfl) rfl
instance : ElT Try.prog 63 1 8 := ElT.mk' (z := .nilFunc) (by kernel_rfl) rfl (by decide)
instance : Sz Try.prog 64 1 := Sz.mk' (by kernel_rfl)
instance : IntT Try.prog 64 .i64 := ⟨Try.underlying64⟩
instance : One Try.prog 64 := One.mk' Try.underlying64 rfl
instance : Zc Try.prog 64 [(.int .i64 0)] := Zc.mk' (z := .int .i64 0) (by kernel_rfl) rfl
instance : ElT Try.prog 64 1 8 := ElT.mk' (z := .int .i64 0) (by kernel_rfl) rfl (by decide)
instance : Sz Try.prog 66 1 := Sz.mk' (by kernel_rfl)
instance : One Try.prog 66 := One.mk' Try.underlying66 rfl
instance : Zc Try.prog 66 [(.nilFunc)] := Zc.mk' (z := .nilFunc) (by kernel_rfl) rfl
instance : ElT Try.prog 66 1 8 := ElT.mk' (z := .nilFunc) (by kernel_rfl) rfl (by decide)
instance : Sz Try.prog 67 1 := Sz.mk' (by kernel_rfl)
instance : One Try.prog 67 := One.mk' Try.underlying67 rfl
instance : Zc Try.prog 67 [(.nilFunc)] := Zc.mk' (z := .nilFunc) (by kernel_rfl) rfl
instance : ElT Try.prog 67 1 8 := ElT.mk' (z := .nilFunc) (by kernel_rfl) rfl (by decide)
instance : Sz Try.prog 68 1 := Sz.mk' (by kernel_rfl)
instance : One Try.prog 68 := One.mk' Try.underlying68 rfl
instance : Zc Try.prog 68 [(.nilFunc)] := Zc.mk' (z := .nilFunc) (by kernel_rfl) rfl
instance : ElT Try.prog 68 1 8 := ElT.mk' (z := .nilFunc) (by kernel_rfl) rfl (by decide)
instance : Sz Try.prog 70 1 := Sz.mk' (by kernel_rfl)
instance : One Try.prog 70 := One.mk' Try.underlying70 rfl
instance : Zc Try.prog 70 [(.nilFunc)] := Zc.mk' (z := .nilFunc) (by kernel_rfl) rfl
instance : ElT Try.prog 70 1 8 := ElT.mk' (z := .nilFunc) (by kernel_rfl) rfl (by decide)
instance : Sz Try.prog 71 1 := Sz.mk' (by kernel_rfl)
instance : One Try.prog 71 := One.mk' Try.underlying71 rfl
instance : Zc Try.prog 71 [(.nilFunc)] := Zc.mk' (z := .nilFunc) (by kernel_rfl) rfl
instance : ElT Try.prog 71 1 8 := ElT.mk' (z := .nilFunc) (by kernel_rfl) rfl (by decide)
instance : Sz Try.prog 72 1 := Sz.mk' (by kernel_rfl)
instance : IntT Try.prog 72 .u32 := ⟨Try.underlying72⟩
instance : One Try.prog 72 := One.mk' Try.underlying72 rfl
instance : Zc Try.prog 72 [(.int .u32 0)] := Zc.mk' (z := .int .u32 0) (by kernel_rfl) rfl
instance : ElT Try.prog 72 1 4 := ElT.mk' (z := .int .u32 0) (by kernel_rfl) rfl (by decide)
instance : Sz Try.prog 73 1 := Sz.mk' (by kernel_rfl)
instance : One Try.prog 73 := One.mk' Try.underlying73 rfl
instance : Zc Try.prog 73 [(.nilFunc)] := Zc.mk' (z := .nilFunc) (by kernel_rfl) rfl
instance : ElT Try.prog 73 1 8 := ElT.mk' (z := .nilFunc) (by kernel_rfl) rfl (by decide)
instance : Sz Try.prog 74 1 := Sz.mk' (by kernel_rfl)
instance : IntT Try.prog 74 .u64 := ⟨Try.underlying74⟩
instance : One Try.prog 74 := One.mk' Try.underlying74 rfl
instance : Zc Try.prog 74 [(.int .u64 0)] := Zc.mk' (z := .int .u64 0) (by kernel_rfl) rfl
instance : ElT Try.prog 74 1 8 := ElT.mk' (z := .int .u64 0) (by kernel_rfl) rfl (by decide)
instance : Sz Try.prog 75 1 := Sz.mk' (by kernel_rfl)
instance : IntT Try.prog 75 .u64 := ⟨Try.underlying75⟩
instance : One Try.prog 75 := One.mk' Try.underlying75 rfl
instance : Zc Try.prog 75 [(.int .u64 0)] := Zc.mk' (z := .int .u64 0) (by kernel_rfl) rfl
instance : ElT Try.prog 75 1 8 := ElT.mk' (z := .int .u64 0) (by kernel_rfl) rfl (by decide)
instance : Sz Try.prog 76 1 := Sz.mk' (by kernel_rfl)
instance : One Try.prog 76 := One.mk' Try.underlying76 rfl
instance : Zc Try.prog 76 [(.nilFunc)] := Zc.mk' (z := .nilFunc) (by kernel_rfl) rfl
instance : ElT Try.prog 76 1 8 := ElT.mk' (z := .nilFunc) (by kernel_rfl) rfl (by decide)
instance : Sz Try.prog 77 1 := Sz.mk' (by kernel_rfl)
instance : One Try.prog 77 := One.mk' Try.underlying77 rfl
instance : Zc Try.prog 77 [(.nilFunc)] := Zc.mk' (z := .nilFunc) (by kernel_rfl) rfl
instance : ElT Try.prog 77 1 8 := ElT.mk' (z := .nilFunc) (by kernel_rfl) rfl (by decide)
instance : Sz Try.prog 78 1 := Sz.mk' (by kernel_rfl)
instance : One Try.prog 78 := One.mk' Try.underlying78 rfl
instance : Zc Try.prog 78 [(.nilFunc)] := Zc.mk' (z := .nilFunc) (by kernel_rfl) rfl
instance : ElT Try.prog 78 1 8 := ElT.mk' (z := .nilFunc) (by kernel_rfl) rfl (by decide)
instance : Sz Try.prog 79 1 := Sz.mk' (by kernel_rfl)
instance : PtrT Try.prog 79 3 := ⟨Try.underlying79⟩
instance : One Try.prog 79 := One.mk' Try.underlying79 rfl
instance : Zc Try.prog 79 [(.pointer none)] := Zc.mk' (z := .pointer none) (by kernel_rfl) rfl
instance : ElT Try.prog 79 1 8 := ElT.mk' (z := .pointer none) (by kernel_rfl) rfl (by decide)
instance : Sz Try.prog 80 1 := Sz.mk' (by kernel_rfl)
instance : One Try.prog 80 := One.mk' Try.underlying80 rfl
instance : Zc Try.prog 80 [(.nilFunc)] := Zc.mk' (z := .nilFunc) (by kernel_rfl) rfl
instance : ElT Try.prog 80 1 8 := ElT.mk' (z := .nilFunc) (by kernel_rfl) rfl (by decide)
instance : Sz Try.prog 81 1 := Sz.mk' (by kernel_rfl)
instance : PtrT Try.prog 81 75 := ⟨Try.underlying81⟩
instance : One Try.prog 81 := One.mk' Try.underlying81 rfl
instance : Zc Try.prog 81 [(.pointer none)] := Zc.mk' (z := .pointer none) (by kernel_rfl) rfl
instance : ElT Try.prog 81 1 8 := ElT.mk' (z := .pointer none) (by kernel_rfl) rfl (by decide)
instance : Sz Try.prog 83 1 := Sz.mk' (by kernel_rfl)
instance : One Try.prog 83 := One.mk' Try.underlying83 rfl
instance : Zc Try.prog 83 [(.nilFunc)] := Zc.mk' (z := .nilFunc) (by kernel_rfl) rfl
instance : ElT Try.prog 83 1 8 := ElT.mk' (z := .nilFunc) (by kernel_rfl) rfl (by decide)
instance : Sz Try.prog 84 1 := Sz.mk' (by kernel_rfl)
instance : One Try.prog 84 := One.mk' Try.underlying84 rfl
instance : Zc Try.prog 84 [(.nilFunc)] := Zc.mk' (z := .nilFunc) (by kernel_rfl) rfl
instance : ElT Try.prog 84 1 8 := ElT.mk' (z := .nilFunc) (by kernel_rfl) rfl (by decide)
instance : Sz Try.prog 85 4 := Sz.mk' (by kernel_rfl)
instance : Ag Try.prog 85 := Ag.mk' Try.underlying85 rfl
instance : Fld Try.prog 85 0 0 17 := Fld.mk' Try.underlying85 rfl
instance : Fld Try.prog 85 1 1 17 := Fld.mk' Try.underlying85 rfl
instance : Fld Try.prog 85 2 2 17 := Fld.mk' Try.underlying85 rfl
instance : Fld Try.prog 85 3 3 9 := Fld.mk' Try.underlying85 rfl
instance : Zc Try.prog 85 [(.pointer none), (.pointer none), (.pointer none), (.string ByteArray.empty)] := Zc.mk' (z := .agg #[(.pointer none), (.pointer none), (.pointer none), (.string ByteArray.empty)]) (by kernel_rfl) rfl
instance : StT Try.prog 85 [(0, 1), (1, 1), (2, 1), (3, 1)] [(.pointer none), (.pointer none), (.pointer none), (.string ByteArray.empty)] := StT.mk' (z := .agg #[(.pointer none), (.pointer none), (.pointer none), (.string ByteArray.empty)]) Try.underlying85 (by kernel_rfl) rfl (by kernel_rfl)
instance : ElT Try.prog 85 4 40 := ElT.mk' (z := .agg #[(.pointer none), (.pointer none), (.pointer none), (.string ByteArray.empty)]) (by kernel_rfl) rfl (by decide)
instance : Sz Try.prog 86 4 := Sz.mk' (by kernel_rfl)
instance : Ag Try.prog 86 := Ag.mk' Try.underlying86 rfl
instance : Fld Try.prog 86 0 0 17 := Fld.mk' Try.underlying86 rfl
instance : Fld Try.prog 86 1 1 17 := Fld.mk' Try.underlying86 rfl
instance : Fld Try.prog 86 2 2 17 := Fld.mk' Try.underlying86 rfl
instance : Fld Try.prog 86 3 3 9 := Fld.mk' Try.underlying86 rfl
instance : Zc Try.prog 86 [(.pointer none), (.pointer none), (.pointer none), (.string ByteArray.empty)] := Zc.mk' (z := .agg #[(.pointer none), (.pointer none), (.pointer none), (.string ByteArray.empty)]) (by kernel_rfl) rfl
instance : StT Try.prog 86 [(0, 1), (1, 1), (2, 1), (3, 1)] [(.pointer none), (.pointer none), (.pointer none), (.string ByteArray.empty)] := StT.mk' (z := .agg #[(.pointer none), (.pointer none), (.pointer none), (.string ByteArray.empty)]) Try.underlying86 (by kernel_rfl) rfl (by kernel_rfl)
instance : ElT Try.prog 86 4 40 := ElT.mk' (z := .agg #[(.pointer none), (.pointer none), (.pointer none), (.string ByteArray.empty)]) (by kernel_rfl) rfl (by decide)
instance : Sz Try.prog 87 0 := Sz.mk' (by kernel_rfl)
instance : ArrT Try.prog 87 0 16 := ⟨Try.underlying87⟩
instance : Ag Try.prog 87 := Ag.mk' Try.underlying87 rfl
instance : Zc Try.prog 87 [] := Zc.mk' (z := .agg #[]) (by kernel_rfl) rfl
instance : Sz Try.prog 88 0 := Sz.mk' (by kernel_rfl)
instance : Ag Try.prog 88 := Ag.mk' Try.underlying88 rfl
instance : Fld Try.prog 88 0 0 87 := Fld.mk' Try.underlying88 rfl
instance : Zc Try.prog 88 [] := Zc.mk' (z := .agg #[]) (by kernel_rfl) rfl
instance : StT Try.prog 88 [(0, 0)] [] := StT.mk' (z := .agg #[]) Try.underlying88 (by kernel_rfl) rfl (by kernel_rfl)
instance : Sz Try.prog 89 0 := Sz.mk' (by kernel_rfl)
instance : Ag Try.prog 89 := Ag.mk' Try.underlying89 rfl
instance : Fld Try.prog 89 0 0 87 := Fld.mk' Try.underlying89 rfl
instance : Zc Try.prog 89 [] := Zc.mk' (z := .agg #[]) (by kernel_rfl) rfl
instance : StT Try.prog 89 [(0, 0)] [] := StT.mk' (z := .agg #[]) Try.underlying89 (by kernel_rfl) rfl (by kernel_rfl)
instance : Sz Try.prog 90 1 := Sz.mk' (by kernel_rfl)
instance : IntT Try.prog 90 .u8 := ⟨Try.underlying90⟩
instance : One Try.prog 90 := One.mk' Try.underlying90 rfl
instance : Zc Try.prog 90 [(.int .u8 0)] := Zc.mk' (z := .int .u8 0) (by kernel_rfl) rfl
instance : ElT Try.prog 90 1 1 := ElT.mk' (z := .int .u8 0) (by kernel_rfl) rfl (by decide)
instance : Sz Try.prog 91 1 := Sz.mk' (by kernel_rfl)
instance : IntT Try.prog 91 .u8 := ⟨Try.underlying91⟩
instance : One Try.prog 91 := One.mk' Try.underlying91 rfl
instance : Zc Try.prog 91 [(.int .u8 0)] := Zc.mk' (z := .int .u8 0) (by kernel_rfl) rfl
instance : ElT Try.prog 91 1 1 := ElT.mk' (z := .int .u8 0) (by kernel_rfl) rfl (by decide)
instance : Sz Try.prog 92 1 := Sz.mk' (by kernel_rfl)
instance : One Try.prog 92 := One.mk' Try.underlying92 rfl
instance : Zc Try.prog 92 [(.nilFunc)] := Zc.mk' (z := .nilFunc) (by kernel_rfl) rfl
instance : ElT Try.prog 92 1 8 := ElT.mk' (z := .nilFunc) (by kernel_rfl) rfl (by decide)
instance : Sz Try.prog 93 1 := Sz.mk' (by kernel_rfl)
instance : PtrT Try.prog 93 5 := ⟨Try.underlying93⟩
instance : One Try.prog 93 := One.mk' Try.underlying93 rfl
instance : Zc Try.prog 93 [(.pointer none)] := Zc.mk' (z := .pointer none) (by kernel_rfl) rfl
instance : ElT Try.prog 93 1 8 := ElT.mk' (z := .pointer none) (by kernel_rfl) rfl (by decide)
instance : Sz Try.prog 94 1 := Sz.mk' (by kernel_rfl)
instance : IntT Try.prog 94 .i32 := ⟨Try.underlying94⟩
instance : One Try.prog 94 := One.mk' Try.underlying94 rfl
instance : Zc Try.prog 94 [(.int .i32 0)] := Zc.mk' (z := .int .i32 0) (by kernel_rfl) rfl
instance : ElT Try.prog 94 1 4 := ElT.mk' (z := .int .i32 0) (by kernel_rfl) rfl (by decide)
instance : Sz Try.prog 95 1 := Sz.mk' (by kernel_rfl)
instance : IntT Try.prog 95 .i32 := ⟨Try.underlying95⟩
instance : One Try.prog 95 := One.mk' Try.underlying95 rfl
instance : Zc Try.prog 95 [(.int .i32 0)] := Zc.mk' (z := .int .i32 0) (by kernel_rfl) rfl
instance : ElT Try.prog 95 1 4 := ElT.mk' (z := .int .i32 0) (by kernel_rfl) rfl (by decide)
instance : Sz Try.prog 96 11 := Sz.mk' (by kernel_rfl)
instance : Ag Try.prog 96 := Ag.mk' Try.underlying96 rfl
instance : Fld Try.prog 96 0 0 12 := Fld.mk' Try.underlying96 rfl
instance : Fld Try.prog 96 1 1 12 := Fld.mk' Try.underlying96 rfl
instance : Fld Try.prog 96 2 2 72 := Fld.mk' Try.underlying96 rfl
instance : Fld Try.prog 96 3 3 90 := Fld.mk' Try.underlying96 rfl
instance : Fld Try.prog 96 4 4 5 := Fld.mk' Try.underlying96 rfl
instance : Fld Try.prog 96 5 5 5 := Fld.mk' Try.underlying96 rfl
instance : Fld Try.prog 96 6 6 91 := Fld.mk' Try.underlying96 rfl
instance : Fld Try.prog 96 7 7 92 := Fld.mk' Try.underlying96 rfl
instance : Fld Try.prog 96 8 8 93 := Fld.mk' Try.underlying96 rfl
instance : Fld Try.prog 96 9 9 94 := Fld.mk' Try.underlying96 rfl
instance : Fld Try.prog 96 10 10 95 := Fld.mk' Try.underlying96 rfl
instance : Zc Try.prog 96 [(.int .u64 0), (.int .u64 0), (.int .u32 0), (.int .u8 0), (.int .u8 0), (.int .u8 0), (.int .u8 0), (.nilFunc), (.pointer none), (.int .i32 0), (.int .i32 0)] := Zc.mk' (z := .agg #[(.int .u64 0), (.int .u64 0), (.int .u32 0), (.int .u8 0), (.int .u8 0), (.int .u8 0), (.int .u8 0), (.nilFunc), (.pointer none), (.int .i32 0), (.int .i32 0)]) (by kernel_rfl) rfl
instance : StT Try.prog 96 [(0, 1), (1, 1), (2, 1), (3, 1), (4, 1), (5, 1), (6, 1), (7, 1), (8, 1), (9, 1), (10, 1)] [(.int .u64 0), (.int .u64 0), (.int .u32 0), (.int .u8 0), (.int .u8 0), (.int .u8 0), (.int .u8 0), (.nilFunc), (.pointer none), (.int .i32 0), (.int .i32 0)] := StT.mk' (z := .agg #[(.int .u64 0), (.int .u64 0), (.int .u32 0), (.int .u8 0), (.int .u8 0), (.int .u8 0), (.int .u8 0), (.nilFunc), (.pointer none), (.int .i32 0), (.int .i32 0)]) Try.underlying96 (by kernel_rfl) rfl (by kernel_rfl)
instance : ElT Try.prog 96 11 48 := ElT.mk' (z := .agg #[(.int .u64 0), (.int .u64 0), (.int .u32 0), (.int .u8 0), (.int .u8 0), (.int .u8 0), (.int .u8 0), (.nilFunc), (.pointer none), (.int .i32 0), (.int .i32 0)]) (by kernel_rfl) rfl (by decide)
instance : Sz Try.prog 97 11 := Sz.mk' (by kernel_rfl)
instance : Ag Try.prog 97 := Ag.mk' Try.underlying97 rfl
instance : Fld Try.prog 97 0 0 12 := Fld.mk' Try.underlying97 rfl
instance : Fld Try.prog 97 1 1 12 := Fld.mk' Try.underlying97 rfl
instance : Fld Try.prog 97 2 2 72 := Fld.mk' Try.underlying97 rfl
instance : Fld Try.prog 97 3 3 90 := Fld.mk' Try.underlying97 rfl
instance : Fld Try.prog 97 4 4 5 := Fld.mk' Try.underlying97 rfl
instance : Fld Try.prog 97 5 5 5 := Fld.mk' Try.underlying97 rfl
instance : Fld Try.prog 97 6 6 91 := Fld.mk' Try.underlying97 rfl
instance : Fld Try.prog 97 7 7 92 := Fld.mk' Try.underlying97 rfl
instance : Fld Try.prog 97 8 8 93 := Fld.mk' Try.underlying97 rfl
instance : Fld Try.prog 97 9 9 94 := Fld.mk' Try.underlying97 rfl
instance : Fld Try.prog 97 10 10 95 := Fld.mk' Try.underlying97 rfl
instance : Zc Try.prog 97 [(.int .u64 0), (.int .u64 0), (.int .u32 0), (.int .u8 0), (.int .u8 0), (.int .u8 0), (.int .u8 0), (.nilFunc), (.pointer none), (.int .i32 0), (.int .i32 0)] := Zc.mk' (z := .agg #[(.int .u64 0), (.int .u64 0), (.int .u32 0), (.int .u8 0), (.int .u8 0), (.int .u8 0), (.int .u8 0), (.nilFunc), (.pointer none), (.int .i32 0), (.int .i32 0)]) (by kernel_rfl) rfl
instance : StT Try.prog 97 [(0, 1), (1, 1), (2, 1), (3, 1), (4, 1), (5, 1), (6, 1), (7, 1), (8, 1), (9, 1), (10, 1)] [(.int .u64 0), (.int .u64 0), (.int .u32 0), (.int .u8 0), (.int .u8 0), (.int .u8 0), (.int .u8 0), (.nilFunc), (.pointer none), (.int .i32 0), (.int .i32 0)] := StT.mk' (z := .agg #[(.int .u64 0), (.int .u64 0), (.int .u32 0), (.int .u8 0), (.int .u8 0), (.int .u8 0), (.int .u8 0), (.nilFunc), (.pointer none), (.int .i32 0), (.int .i32 0)]) Try.underlying97 (by kernel_rfl) rfl (by kernel_rfl)
instance : ElT Try.prog 97 11 48 := ElT.mk' (z := .agg #[(.int .u64 0), (.int .u64 0), (.int .u32 0), (.int .u8 0), (.int .u8 0), (.int .u8 0), (.int .u8 0), (.nilFunc), (.pointer none), (.int .i32 0), (.int .i32 0)]) (by kernel_rfl) rfl (by decide)
instance : Sz Try.prog 98 1 := Sz.mk' (by kernel_rfl)
instance : One Try.prog 98 := One.mk' Try.underlying98 rfl
instance : Zc Try.prog 98 [(.pointer none)] := Zc.mk' (z := .pointer none) (by kernel_rfl) rfl
instance : ElT Try.prog 98 1 8 := ElT.mk' (z := .pointer none) (by kernel_rfl) rfl (by decide)
instance : Enters Try.prog 3 := Enters.mk' Try.func3 (by kernel_rfl) (by kernel_rfl)
instance : Enters Try.prog 4 := Enters.mk' Try.func4 (by kernel_rfl) (by kernel_rfl)
instance : Enters Try.prog 5 := Enters.mk' Try.func5 (by kernel_rfl) (by kernel_rfl)
instance : Enters Try.prog 6 := Enters.mk' Try.func6 (by kernel_rfl) (by kernel_rfl)
instance : Enters Try.prog 7 := Enters.mk' Try.func7 (by kernel_rfl) (by kernel_rfl)
instance : Enters Try.prog 8 := Enters.mk' Try.func8 (by kernel_rfl) (by kernel_rfl)
instance : Enters Try.prog 9 := Enters.mk' Try.func9 (by kernel_rfl) (by kernel_rfl)
instance : Enters Try.prog 10 := Enters.mk' Try.func10 (by kernel_rfl) (by kernel_rfl)
instance : Enters Try.prog 11 := Enters.mk' Try.func11 (by kernel_rfl) (by kernel_rfl)
instance : Enters Try.prog 12 := Enters.mk' Try.func12 (by kernel_rfl) (by kernel_rfl)
instance : Enters Try.prog 13 := Enters.mk' Try.func13 (by kernel_rfl) (by kernel_rfl)
instance : Enters Try.prog 14 := Enters.mk' Try.func14 (by kernel_rfl) (by kernel_rfl)
instance : Enters Try.prog 15 := Enters.mk' Try.func15 (by kernel_rfl) (by kernel_rfl)
instance : Enters Try.prog 16 := Enters.mk' Try.func16 (by kernel_rfl) (by kernel_rfl)
instance : Enters Try.prog 17 := Enters.mk' Try.func17 (by kernel_rfl) (by kernel_rfl)
instance : Enters Try.prog 18 := Enters.mk' Try.func18 (by kernel_rfl) (by kernel_rfl)
instance : Enters Try.prog 19 := Enters.mk' Try.func19 (by kernel_rfl) (by kernel_rfl)
instance : Enters Try.prog 20 := Enters.mk' Try.func20 (by kernel_rfl) (by kernel_rfl)
instance : Enters Try.prog 21 := Enters.mk' Try.func21 (by kernel_rfl) (by kernel_rfl)
instance : Enters Try.prog 22 := Enters.mk' Try.func22 (by kernel_rfl) (by kernel_rfl)
instance : Enters Try.prog 23 := Enters.mk' Try.func23 (by kernel_rfl) (by kernel_rfl)
instance : Enters Try.prog 24 := Enters.mk' Try.func24 (by kernel_rfl) (by kernel_rfl)
instance : Enters Try.prog 25 := Enters.mk' Try.func25 (by kernel_rfl) (by kernel_rfl)
instance : Enters Try.prog 26 := Enters.mk' Try.func26 (by kernel_rfl) (by kernel_rfl)
instance : Enters Try.prog 27 := Enters.mk' Try.func27 (by kernel_rfl) (by kernel_rfl)
instance : Enters Try.prog 28 := Enters.mk' Try.func28 (by kernel_rfl) (by kernel_rfl)
instance : Enters Try.prog 29 := Enters.mk' Try.func29 (by kernel_rfl) (by kernel_rfl)
instance : Enters Try.prog 30 := Enters.mk' Try.func30 (by kernel_rfl) (by kernel_rfl)
instance : Enters Try.prog 31 := Enters.mk' Try.func31 (by kernel_rfl) (by kernel_rfl)
instance : Enters Try.prog 32 := Enters.mk' Try.func32 (by kernel_rfl) (by kernel_rfl)
instance : Enters Try.prog 33 := Enters.mk' Try.func33 (by kernel_rfl) (by kernel_rfl)
instance : Enters Try.prog 34 := Enters.mk' Try.func34 (by kernel_rfl) (by kernel_rfl)
instance : Enters Try.prog 35 := Enters.mk' Try.func35 (by kernel_rfl) (by kernel_rfl)
instance : Enters Try.prog 36 := Enters.mk' Try.func36 (by kernel_rfl) (by kernel_rfl)
instance : Enters Try.prog 37 := Enters.mk' Try.func37 (by kernel_rfl) (by kernel_rfl)
instance : Enters Try.prog 38 := Enters.mk' Try.func38 (by kernel_rfl) (by kernel_rfl)
instance : Enters Try.prog 39 := Enters.mk' Try.func39 (by kernel_rfl) (by kernel_rfl)
instance : Enters Try.prog 40 := Enters.mk' Try.func40 (by kernel_rfl) (by kernel_rfl)
instance : Enters Try.prog 41 := Enters.mk' Try.func41 (by kernel_rfl) (by kernel_rfl)
instance : Enters Try.prog 42 := Enters.mk' Try.func42 (by kernel_rfl) (by kernel_rfl)
instance : Enters Try.prog 43 := Enters.mk' Try.func43 (by kernel_rfl) (by kernel_rfl)
instance : Enters Try.prog 44 := Enters.mk' Try.func44 (by kernel_rfl) (by kernel_rfl)
instance : Enters Try.prog 45 := Enters.mk' Try.func45 (by kernel_rfl) (by kernel_rfl)
instance : Enters Try.prog 46 := Enters.mk' Try.func46 (by kernel_rfl) (by kernel_rfl)
instance : Enters Try.prog 47 := Enters.mk' Try.func47 (by kernel_rfl) (by kernel_rfl)
instance : Enters Try.prog 48 := Enters.mk' Try.func48 (by kernel_rfl) (by kernel_rfl)
instance : Enters Try.prog 49 := Enters.mk' Try.func49 (by kernel_rfl) (by kernel_rfl)
instance : Enters Try.prog 50 := Enters.mk' Try.func50 (by kernel_rfl) (by kernel_rfl)
instance : Enters Try.prog 51 := Enters.mk' Try.func51 (by kernel_rfl) (by kernel_rfl)
instance : Enters Try.prog 52 := Enters.mk' Try.func52 (by kernel_rfl) (by kernel_rfl)
instance : Enters Try.prog 53 := Enters.mk' Try.func53 (by kernel_rfl) (by kernel_rfl)
instance : Enters Try.prog 54 := Enters.mk' Try.func54 (by kernel_rfl) (by kernel_rfl)
instance : Enters Try.prog 55 := Enters.mk' Try.func55 (by kernel_rfl) (by kernel_rfl)
instance : Enters Try.prog 56 := Enters.mk' Try.func56 (by kernel_rfl) (by kernel_rfl)
instance : Enters Try.prog 57 := Enters.mk' Try.func57 (by kernel_rfl) (by kernel_rfl)
instance : Enters Try.prog 58 := Enters.mk' Try.func58 (by kernel_rfl) (by kernel_rfl)
instance : Enters Try.prog 59 := Enters.mk' Try.func59 (by kernel_rfl) (by kernel_rfl)
instance : Enters Try.prog 60 := Enters.mk' Try.func60 (by kernel_rfl) (by kernel_rfl)
instance : Enters Try.prog 61 := Enters.mk' Try.func61 (by kernel_rfl) (by kernel_rfl)
instance : Enters Try.prog 62 := Enters.mk' Try.func62 (by kernel_rfl) (by kernel_rfl)
theorem mixed : Try.prog.follows .mixedOrders = true := by kernel_rfl
end Go.Lx
