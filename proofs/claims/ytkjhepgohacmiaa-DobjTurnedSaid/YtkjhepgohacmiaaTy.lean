/- The types and functions of this seat's translation, as instances of the own layer's classes. Printed by gen_ty.py. -/
import Derived.Test.YtkjhepgohacmiaaProg
import Derived.Test.YtkjhepgohacmiaaXf
import Derived.KernelRfl
namespace Go.Lx
open Go.Proofs
set_option maxRecDepth 100000
instance : Sz Try.prog 1 1 := Sz.mk' (by kernel_rfl)
instance : One Try.prog 1 := One.mk' Try.underlying1 rfl
instance : Zc Try.prog 1 [(.nilFunc)] := Zc.mk' (z := .nilFunc) (by kernel_rfl) rfl
instance : ElT Try.prog 1 1 8 := ElT.mk' (z := .nilFunc) (by kernel_rfl) rfl (by decide)
instance : Sz Try.prog 2 1 := Sz.mk' (by kernel_rfl)
instance : IntT Try.prog 2 .i64 := ⟨Try.underlying2⟩
instance : One Try.prog 2 := One.mk' Try.underlying2 rfl
instance : Zc Try.prog 2 [(.int .i64 0)] := Zc.mk' (z := .int .i64 0) (by kernel_rfl) rfl
instance : ElT Try.prog 2 1 8 := ElT.mk' (z := .int .i64 0) (by kernel_rfl) rfl (by decide)
instance : Sz Try.prog 3 1 := Sz.mk' (by kernel_rfl)
instance : IntT Try.prog 3 .i64 := ⟨Try.underlying3⟩
instance : One Try.prog 3 := One.mk' Try.underlying3 rfl
instance : Zc Try.prog 3 [(.int .i64 0)] := Zc.mk' (z := .int .i64 0) (by kernel_rfl) rfl
instance : ElT Try.prog 3 1 8 := ElT.mk' (z := .int .i64 0) (by kernel_rfl) rfl (by decide)
instance : Sz Try.prog 4 1 := Sz.mk' (by kernel_rfl)
instance : BoolT Try.prog 4 := ⟨Try.underlying4⟩
instance : One Try.prog 4 := One.mk' Try.underlying4 rfl
instance : Zc Try.prog 4 [(.bool false)] := Zc.mk' (z := .bool false) (by kernel_rfl) rfl
instance : ElT Try.prog 4 1 1 := ElT.mk' (z := .bool false) (by kernel_rfl) rfl (by decide)
instance : Sz Try.prog 5 1 := Sz.mk' (by kernel_rfl)
instance : IntT Try.prog 5 .u8 := ⟨Try.underlying5⟩
instance : One Try.prog 5 := One.mk' Try.underlying5 rfl
instance : Zc Try.prog 5 [(.int .u8 0)] := Zc.mk' (z := .int .u8 0) (by kernel_rfl) rfl
instance : ElT Try.prog 5 1 1 := ElT.mk' (z := .int .u8 0) (by kernel_rfl) rfl (by decide)
instance : Sz Try.prog 6 1 := Sz.mk' (by kernel_rfl)
instance : IntT Try.prog 6 .u8 := ⟨Try.underlying6⟩
instance : One Try.prog 6 := One.mk' Try.underlying6 rfl
instance : Zc Try.prog 6 [(.int .u8 0)] := Zc.mk' (z := .int .u8 0) (by kernel_rfl) rfl
instance : ElT Try.prog 6 1 1 := ElT.mk' (z := .int .u8 0) (by kernel_rfl) rfl (by decide)
instance : Sz Try.prog 7 4 := Sz.mk' (by kernel_rfl)
instance : Ag Try.prog 7 := Ag.mk' Try.underlying7 rfl
instance : Fld Try.prog 7 0 0 2 := Fld.mk' Try.underlying7 rfl
instance : Fld Try.prog 7 1 1 3 := Fld.mk' Try.underlying7 rfl
instance : Fld Try.prog 7 2 2 4 := Fld.mk' Try.underlying7 rfl
instance : Fld Try.prog 7 3 3 6 := Fld.mk' Try.underlying7 rfl
instance : Zc Try.prog 7 [(.int .i64 0), (.int .i64 0), (.bool false), (.int .u8 0)] := Zc.mk' (z := .agg #[(.int .i64 0), (.int .i64 0), (.bool false), (.int .u8 0)]) (by kernel_rfl) rfl
instance : StT Try.prog 7 [(0, 1), (1, 1), (2, 1), (3, 1)] [(.int .i64 0), (.int .i64 0), (.bool false), (.int .u8 0)] := StT.mk' (z := .agg #[(.int .i64 0), (.int .i64 0), (.bool false), (.int .u8 0)]) Try.underlying7 (by kernel_rfl) rfl (by kernel_rfl)
instance : ElT Try.prog 7 4 24 := ElT.mk' (z := .agg #[(.int .i64 0), (.int .i64 0), (.bool false), (.int .u8 0)]) (by kernel_rfl) rfl (by decide)
instance : Sz Try.prog 8 4 := Sz.mk' (by kernel_rfl)
instance : Ag Try.prog 8 := Ag.mk' Try.underlying8 rfl
instance : Fld Try.prog 8 0 0 2 := Fld.mk' Try.underlying8 rfl
instance : Fld Try.prog 8 1 1 3 := Fld.mk' Try.underlying8 rfl
instance : Fld Try.prog 8 2 2 4 := Fld.mk' Try.underlying8 rfl
instance : Fld Try.prog 8 3 3 6 := Fld.mk' Try.underlying8 rfl
instance : Zc Try.prog 8 [(.int .i64 0), (.int .i64 0), (.bool false), (.int .u8 0)] := Zc.mk' (z := .agg #[(.int .i64 0), (.int .i64 0), (.bool false), (.int .u8 0)]) (by kernel_rfl) rfl
instance : StT Try.prog 8 [(0, 1), (1, 1), (2, 1), (3, 1)] [(.int .i64 0), (.int .i64 0), (.bool false), (.int .u8 0)] := StT.mk' (z := .agg #[(.int .i64 0), (.int .i64 0), (.bool false), (.int .u8 0)]) Try.underlying8 (by kernel_rfl) rfl (by kernel_rfl)
instance : ElT Try.prog 8 4 24 := ElT.mk' (z := .agg #[(.int .i64 0), (.int .i64 0), (.bool false), (.int .u8 0)]) (by kernel_rfl) rfl (by decide)
instance : Sz Try.prog 9 1 := Sz.mk' (by kernel_rfl)
instance : StrT Try.prog 9 := ⟨Try.underlying9⟩
instance : One Try.prog 9 := One.mk' Try.underlying9 rfl
instance : Zc Try.prog 9 [(.string ByteArray.empty)] := Zc.mk' (z := .string ByteArray.empty) (by kernel_rfl) rfl
instance : ElT Try.prog 9 1 16 := ElT.mk' (z := .string ByteArray.empty) (by kernel_rfl) rfl (by decide)
instance : Sz Try.prog 10 1 := Sz.mk' (by kernel_rfl)
instance : StrT Try.prog 10 := ⟨Try.underlying10⟩
instance : One Try.prog 10 := One.mk' Try.underlying10 rfl
instance : Zc Try.prog 10 [(.string ByteArray.empty)] := Zc.mk' (z := .string ByteArray.empty) (by kernel_rfl) rfl
instance : ElT Try.prog 10 1 16 := ElT.mk' (z := .string ByteArray.empty) (by kernel_rfl) rfl (by decide)
instance : Sz Try.prog 11 1 := Sz.mk' (by kernel_rfl)
instance : StrT Try.prog 11 := ⟨Try.underlying11⟩
instance : One Try.prog 11 := One.mk' Try.underlying11 rfl
instance : Zc Try.prog 11 [(.string ByteArray.empty)] := Zc.mk' (z := .string ByteArray.empty) (by kernel_rfl) rfl
instance : ElT Try.prog 11 1 16 := ElT.mk' (z := .string ByteArray.empty) (by kernel_rfl) rfl (by decide)
instance : Sz Try.prog 12 1 := Sz.mk' (by kernel_rfl)
instance : IntT Try.prog 12 .u64 := ⟨Try.underlying12⟩
instance : One Try.prog 12 := One.mk' Try.underlying12 rfl
instance : Zc Try.prog 12 [(.int .u64 0)] := Zc.mk' (z := .int .u64 0) (by kernel_rfl) rfl
instance : ElT Try.prog 12 1 8 := ElT.mk' (z := .int .u64 0) (by kernel_rfl) rfl (by decide)
instance : Sz Try.prog 13 2 := Sz.mk' (by kernel_rfl)
instance : Ag Try.prog 13 := Ag.mk' Try.underlying13 rfl
instance : Fld Try.prog 13 0 0 9 := Fld.mk' Try.underlying13 rfl
instance : Fld Try.prog 13 1 1 12 := Fld.mk' Try.underlying13 rfl
instance : Zc Try.prog 13 [(.string ByteArray.empty), (.int .u64 0)] := Zc.mk' (z := .agg #[(.string ByteArray.empty), (.int .u64 0)]) (by kernel_rfl) rfl
instance : StT Try.prog 13 [(0, 1), (1, 1)] [(.string ByteArray.empty), (.int .u64 0)] := StT.mk' (z := .agg #[(.string ByteArray.empty), (.int .u64 0)]) Try.underlying13 (by kernel_rfl) rfl (by kernel_rfl)
instance : ElT Try.prog 13 2 24 := ElT.mk' (z := .agg #[(.string ByteArray.empty), (.int .u64 0)]) (by kernel_rfl) rfl (by decide)
instance : Sz Try.prog 14 2 := Sz.mk' (by kernel_rfl)
instance : Ag Try.prog 14 := Ag.mk' Try.underlying14 rfl
instance : Fld Try.prog 14 0 0 9 := Fld.mk' Try.underlying14 rfl
instance : Fld Try.prog 14 1 1 12 := Fld.mk' Try.underlying14 rfl
instance : Zc Try.prog 14 [(.string ByteArray.empty), (.int .u64 0)] := Zc.mk' (z := .agg #[(.string ByteArray.empty), (.int .u64 0)]) (by kernel_rfl) rfl
instance : StT Try.prog 14 [(0, 1), (1, 1)] [(.string ByteArray.empty), (.int .u64 0)] := StT.mk' (z := .agg #[(.string ByteArray.empty), (.int .u64 0)]) Try.underlying14 (by kernel_rfl) rfl (by kernel_rfl)
instance : ElT Try.prog 14 2 24 := ElT.mk' (z := .agg #[(.string ByteArray.empty), (.int .u64 0)]) (by kernel_rfl) rfl (by decide)
instance : Sz Try.prog 15 1 := Sz.mk' (by kernel_rfl)
instance : PtrT Try.prog 15 147 := ⟨Try.underlying15⟩
instance : One Try.prog 15 := One.mk' Try.underlying15 rfl
instance : Zc Try.prog 15 [(.pointer none)] := Zc.mk' (z := .pointer none) (by kernel_rfl) rfl
instance : ElT Try.prog 15 1 8 := ElT.mk' (z := .pointer none) (by kernel_rfl) rfl (by decide)
instance : Sz Try.prog 16 1 := Sz.mk' (by kernel_rfl)
instance : PtrT Try.prog 16 150 := ⟨Try.underlying16⟩
instance : One Try.prog 16 := One.mk' Try.underlying16 rfl
instance : Zc Try.prog 16 [(.pointer none)] := Zc.mk' (z := .pointer none) (by kernel_rfl) rfl
instance : ElT Try.prog 16 1 8 := ElT.mk' (z := .pointer none) (by kernel_rfl) rfl (by decide)
instance : Sz Try.prog 17 1 := Sz.mk' (by kernel_rfl)
instance : PtrT Try.prog 17 158 := ⟨Try.underlying17⟩
instance : One Try.prog 17 := One.mk' Try.underlying17 rfl
instance : Zc Try.prog 17 [(.pointer none)] := Zc.mk' (z := .pointer none) (by kernel_rfl) rfl
instance : ElT Try.prog 17 1 8 := ElT.mk' (z := .pointer none) (by kernel_rfl) rfl (by decide)
instance : Sz Try.prog 18 1 := Sz.mk' (by kernel_rfl)
instance : Ag Try.prog 18 := Ag.mk' Try.underlying18 rfl
instance : Fld Try.prog 18 0 0 17 := Fld.mk' Try.underlying18 rfl
instance : Zc Try.prog 18 [(.pointer none)] := Zc.mk' (z := .agg #[(.pointer none)]) (by kernel_rfl) rfl
instance : StT Try.prog 18 [(0, 1)] [(.pointer none)] := StT.mk' (z := .agg #[(.pointer none)]) Try.underlying18 (by kernel_rfl) rfl (by kernel_rfl)
instance : ElT Try.prog 18 1 8 := ElT.mk' (z := .agg #[(.pointer none)]) (by kernel_rfl) rfl (by decide)
instance : Sz Try.prog 19 1 := Sz.mk' (by kernel_rfl)
instance : Ag Try.prog 19 := Ag.mk' Try.underlying19 rfl
instance : Fld Try.prog 19 0 0 17 := Fld.mk' Try.underlying19 rfl
instance : Zc Try.prog 19 [(.pointer none)] := Zc.mk' (z := .agg #[(.pointer none)]) (by kernel_rfl) rfl
instance : StT Try.prog 19 [(0, 1)] [(.pointer none)] := StT.mk' (z := .agg #[(.pointer none)]) Try.underlying19 (by kernel_rfl) rfl (by kernel_rfl)
instance : ElT Try.prog 19 1 8 := ElT.mk' (z := .agg #[(.pointer none)]) (by kernel_rfl) rfl (by decide)
instance : Sz Try.prog 20 1 := Sz.mk' (by kernel_rfl)
instance : One Try.prog 20 := One.mk' Try.underlying20 rfl
instance : Zc Try.prog 20 [(.nilIface)] := Zc.mk' (z := .nilIface) (by kernel_rfl) rfl
instance : ElT Try.prog 20 1 16 := ElT.mk' (z := .nilIface) (by kernel_rfl) rfl (by decide)
instance : Sz Try.prog 21 1 := Sz.mk' (by kernel_rfl)
instance : IntT Try.prog 21 .i32 := ⟨Try.underlying21⟩
instance : One Try.prog 21 := One.mk' Try.underlying21 rfl
instance : Zc Try.prog 21 [(.int .i32 0)] := Zc.mk' (z := .int .i32 0) (by kernel_rfl) rfl
instance : ElT Try.prog 21 1 4 := ElT.mk' (z := .int .i32 0) (by kernel_rfl) rfl (by decide)
instance : Sz Try.prog 22 1 := Sz.mk' (by kernel_rfl)
instance : IntT Try.prog 22 .u64 := ⟨Try.underlying22⟩
instance : One Try.prog 22 := One.mk' Try.underlying22 rfl
instance : Zc Try.prog 22 [(.int .u64 0)] := Zc.mk' (z := .int .u64 0) (by kernel_rfl) rfl
instance : ElT Try.prog 22 1 8 := ElT.mk' (z := .int .u64 0) (by kernel_rfl) rfl (by decide)
instance : Sz Try.prog 23 1 := Sz.mk' (by kernel_rfl)
instance : SlT Try.prog 23 56 := ⟨Try.underlying23⟩
instance : One Try.prog 23 := One.mk' Try.underlying23 rfl
instance : Zc Try.prog 23 [(.slice none 0 0)] := Zc.mk' (z := .slice none 0 0) (by kernel_rfl) rfl
instance : ElT Try.prog 23 1 24 := ElT.mk' (z := .slice none 0 0) (by kernel_rfl) rfl (by decide)
instance : Sz Try.prog 24 1 := Sz.mk' (by kernel_rfl)
instance : SlT Try.prog 24 52 := ⟨Try.underlying24⟩
instance : One Try.prog 24 := One.mk' Try.underlying24 rfl
instance : Zc Try.prog 24 [(.slice none 0 0)] := Zc.mk' (z := .slice none 0 0) (by kernel_rfl) rfl
instance : ElT Try.prog 24 1 24 := ElT.mk' (z := .slice none 0 0) (by kernel_rfl) rfl (by decide)
instance : Sz Try.prog 25 7 := Sz.mk' (by kernel_rfl)
instance : Ag Try.prog 25 := Ag.mk' Try.underlying25 rfl
instance : Fld Try.prog 25 0 0 22 := Fld.mk' Try.underlying25 rfl
instance : Fld Try.prog 25 1 1 3 := Fld.mk' Try.underlying25 rfl
instance : Fld Try.prog 25 2 2 3 := Fld.mk' Try.underlying25 rfl
instance : Fld Try.prog 25 3 3 3 := Fld.mk' Try.underlying25 rfl
instance : Fld Try.prog 25 4 4 23 := Fld.mk' Try.underlying25 rfl
instance : Fld Try.prog 25 5 5 24 := Fld.mk' Try.underlying25 rfl
instance : Fld Try.prog 25 6 6 9 := Fld.mk' Try.underlying25 rfl
instance : Zc Try.prog 25 [(.int .u64 0), (.int .i64 0), (.int .i64 0), (.int .i64 0), (.slice none 0 0), (.slice none 0 0), (.string ByteArray.empty)] := Zc.mk' (z := .agg #[(.int .u64 0), (.int .i64 0), (.int .i64 0), (.int .i64 0), (.slice none 0 0), (.slice none 0 0), (.string ByteArray.empty)]) (by kernel_rfl) rfl
instance : StT Try.prog 25 [(0, 1), (1, 1), (2, 1), (3, 1), (4, 1), (5, 1), (6, 1)] [(.int .u64 0), (.int .i64 0), (.int .i64 0), (.int .i64 0), (.slice none 0 0), (.slice none 0 0), (.string ByteArray.empty)] := StT.mk' (z := .agg #[(.int .u64 0), (.int .i64 0), (.int .i64 0), (.int .i64 0), (.slice none 0 0), (.slice none 0 0), (.string ByteArray.empty)]) Try.underlying25 (by kernel_rfl) rfl (by kernel_rfl)
instance : ElT Try.prog 25 7 96 := ElT.mk' (z := .agg #[(.int .u64 0), (.int .i64 0), (.int .i64 0), (.int .i64 0), (.slice none 0 0), (.slice none 0 0), (.string ByteArray.empty)]) (by kernel_rfl) rfl (by decide)
instance : Sz Try.prog 26 7 := Sz.mk' (by kernel_rfl)
instance : Ag Try.prog 26 := Ag.mk' Try.underlying26 rfl
instance : Fld Try.prog 26 0 0 22 := Fld.mk' Try.underlying26 rfl
instance : Fld Try.prog 26 1 1 3 := Fld.mk' Try.underlying26 rfl
instance : Fld Try.prog 26 2 2 3 := Fld.mk' Try.underlying26 rfl
instance : Fld Try.prog 26 3 3 3 := Fld.mk' Try.underlying26 rfl
instance : Fld Try.prog 26 4 4 23 := Fld.mk' Try.underlying26 rfl
instance : Fld Try.prog 26 5 5 24 := Fld.mk' Try.underlying26 rfl
instance : Fld Try.prog 26 6 6 9 := Fld.mk' Try.underlying26 rfl
instance : Zc Try.prog 26 [(.int .u64 0), (.int .i64 0), (.int .i64 0), (.int .i64 0), (.slice none 0 0), (.slice none 0 0), (.string ByteArray.empty)] := Zc.mk' (z := .agg #[(.int .u64 0), (.int .i64 0), (.int .i64 0), (.int .i64 0), (.slice none 0 0), (.slice none 0 0), (.string ByteArray.empty)]) (by kernel_rfl) rfl
instance : StT Try.prog 26 [(0, 1), (1, 1), (2, 1), (3, 1), (4, 1), (5, 1), (6, 1)] [(.int .u64 0), (.int .i64 0), (.int .i64 0), (.int .i64 0), (.slice none 0 0), (.slice none 0 0), (.string ByteArray.empty)] := StT.mk' (z := .agg #[(.int .u64 0), (.int .i64 0), (.int .i64 0), (.int .i64 0), (.slice none 0 0), (.slice none 0 0), (.string ByteArray.empty)]) Try.underlying26 (by kernel_rfl) rfl (by kernel_rfl)
instance : ElT Try.prog 26 7 96 := ElT.mk' (z := .agg #[(.int .u64 0), (.int .i64 0), (.int .i64 0), (.int .i64 0), (.slice none 0 0), (.slice none 0 0), (.string ByteArray.empty)]) (by kernel_rfl) rfl (by decide)
instance : Sz Try.prog 27 1 := Sz.mk' (by kernel_rfl)
instance : One Try.prog 27 := One.mk' Try.underlying27 rfl
instance : Zc Try.prog 27 [(.nilFunc)] := Zc.mk' (z := .nilFunc) (by kernel_rfl) rfl
instance : ElT Try.prog 27 1 8 := ElT.mk' (z := .nilFunc) (by kernel_rfl) rfl (by decide)
instance : Sz Try.prog 28 1 := Sz.mk' (by kernel_rfl)
instance : One Try.prog 28 := One.mk' Try.underlying28 rfl
instance : Zc Try.prog 28 [(.nilFunc)] := Zc.mk' (z := .nilFunc) (by kernel_rfl) rfl
instance : ElT Try.prog 28 1 8 := ElT.mk' (z := .nilFunc) (by kernel_rfl) rfl (by decide)
instance : Sz Try.prog 29 1 := Sz.mk' (by kernel_rfl)
instance : SlT Try.prog 29 62 := ⟨Try.underlying29⟩
instance : One Try.prog 29 := One.mk' Try.underlying29 rfl
instance : Zc Try.prog 29 [(.slice none 0 0)] := Zc.mk' (z := .slice none 0 0) (by kernel_rfl) rfl
instance : ElT Try.prog 29 1 24 := ElT.mk' (z := .slice none 0 0) (by kernel_rfl) rfl (by decide)
instance : Sz Try.prog 30 7 := Sz.mk' (by kernel_rfl)
instance : Ag Try.prog 30 := Ag.mk' Try.underlying30 rfl
instance : Fld Try.prog 30 0 0 22 := Fld.mk' Try.underlying30 rfl
instance : Fld Try.prog 30 1 1 3 := Fld.mk' Try.underlying30 rfl
instance : Fld Try.prog 30 2 2 3 := Fld.mk' Try.underlying30 rfl
instance : Fld Try.prog 30 3 3 3 := Fld.mk' Try.underlying30 rfl
instance : Fld Try.prog 30 4 4 29 := Fld.mk' Try.underlying30 rfl
instance : Fld Try.prog 30 5 5 24 := Fld.mk' Try.underlying30 rfl
instance : Fld Try.prog 30 6 6 9 := Fld.mk' Try.underlying30 rfl
instance : Zc Try.prog 30 [(.int .u64 0), (.int .i64 0), (.int .i64 0), (.int .i64 0), (.slice none 0 0), (.slice none 0 0), (.string ByteArray.empty)] := Zc.mk' (z := .agg #[(.int .u64 0), (.int .i64 0), (.int .i64 0), (.int .i64 0), (.slice none 0 0), (.slice none 0 0), (.string ByteArray.empty)]) (by kernel_rfl) rfl
instance : StT Try.prog 30 [(0, 1), (1, 1), (2, 1), (3, 1), (4, 1), (5, 1), (6, 1)] [(.int .u64 0), (.int .i64 0), (.int .i64 0), (.int .i64 0), (.slice none 0 0), (.slice none 0 0), (.string ByteArray.empty)] := StT.mk' (z := .agg #[(.int .u64 0), (.int .i64 0), (.int .i64 0), (.int .i64 0), (.slice none 0 0), (.slice none 0 0), (.string ByteArray.empty)]) Try.underlying30 (by kernel_rfl) rfl (by kernel_rfl)
instance : ElT Try.prog 30 7 96 := ElT.mk' (z := .agg #[(.int .u64 0), (.int .i64 0), (.int .i64 0), (.int .i64 0), (.slice none 0 0), (.slice none 0 0), (.string ByteArray.empty)]) (by kernel_rfl) rfl (by decide)
instance : Sz Try.prog 31 7 := Sz.mk' (by kernel_rfl)
instance : Ag Try.prog 31 := Ag.mk' Try.underlying31 rfl
instance : Fld Try.prog 31 0 0 22 := Fld.mk' Try.underlying31 rfl
instance : Fld Try.prog 31 1 1 3 := Fld.mk' Try.underlying31 rfl
instance : Fld Try.prog 31 2 2 3 := Fld.mk' Try.underlying31 rfl
instance : Fld Try.prog 31 3 3 3 := Fld.mk' Try.underlying31 rfl
instance : Fld Try.prog 31 4 4 29 := Fld.mk' Try.underlying31 rfl
instance : Fld Try.prog 31 5 5 24 := Fld.mk' Try.underlying31 rfl
instance : Fld Try.prog 31 6 6 9 := Fld.mk' Try.underlying31 rfl
instance : Zc Try.prog 31 [(.int .u64 0), (.int .i64 0), (.int .i64 0), (.int .i64 0), (.slice none 0 0), (.slice none 0 0), (.string ByteArray.empty)] := Zc.mk' (z := .agg #[(.int .u64 0), (.int .i64 0), (.int .i64 0), (.int .i64 0), (.slice none 0 0), (.slice none 0 0), (.string ByteArray.empty)]) (by kernel_rfl) rfl
instance : StT Try.prog 31 [(0, 1), (1, 1), (2, 1), (3, 1), (4, 1), (5, 1), (6, 1)] [(.int .u64 0), (.int .i64 0), (.int .i64 0), (.int .i64 0), (.slice none 0 0), (.slice none 0 0), (.string ByteArray.empty)] := StT.mk' (z := .agg #[(.int .u64 0), (.int .i64 0), (.int .i64 0), (.int .i64 0), (.slice none 0 0), (.slice none 0 0), (.string ByteArray.empty)]) Try.underlying31 (by kernel_rfl) rfl (by kernel_rfl)
instance : ElT Try.prog 31 7 96 := ElT.mk' (z := .agg #[(.int .u64 0), (.int .i64 0), (.int .i64 0), (.int .i64 0), (.slice none 0 0), (.slice none 0 0), (.string ByteArray.empty)]) (by kernel_rfl) rfl (by decide)
instance : Sz Try.prog 32 1 := Sz.mk' (by kernel_rfl)
instance : One Try.prog 32 := One.mk' Try.underlying32 rfl
instance : Zc Try.prog 32 [(.nilFunc)] := Zc.mk' (z := .nilFunc) (by kernel_rfl) rfl
instance : ElT Try.prog 32 1 8 := ElT.mk' (z := .nilFunc) (by kernel_rfl) rfl (by decide)
instance : Sz Try.prog 33 1 := Sz.mk' (by kernel_rfl)
instance : IntT Try.prog 33 .i64 := ⟨Try.underlying33⟩
instance : One Try.prog 33 := One.mk' Try.underlying33 rfl
instance : Zc Try.prog 33 [(.int .i64 0)] := Zc.mk' (z := .int .i64 0) (by kernel_rfl) rfl
instance : ElT Try.prog 33 1 8 := ElT.mk' (z := .int .i64 0) (by kernel_rfl) rfl (by decide)
instance : Sz Try.prog 34 1 := Sz.mk' (by kernel_rfl)
instance : One Try.prog 34 := One.mk' Try.underlying34 rfl
instance : Zc Try.prog 34 [(.nilFunc)] := Zc.mk' (z := .nilFunc) (by kernel_rfl) rfl
instance : ElT Try.prog 34 1 8 := ElT.mk' (z := .nilFunc) (by kernel_rfl) rfl (by decide)
instance : Sz Try.prog 36 1 := Sz.mk' (by kernel_rfl)
instance : One Try.prog 36 := One.mk' Try.underlying36 rfl
instance : Zc Try.prog 36 [(.nilFunc)] := Zc.mk' (z := .nilFunc) (by kernel_rfl) rfl
instance : ElT Try.prog 36 1 8 := ElT.mk' (z := .nilFunc) (by kernel_rfl) rfl (by decide)
instance : Sz Try.prog 37 1 := Sz.mk' (by kernel_rfl)
instance : One Try.prog 37 := One.mk' Try.underlying37 rfl
instance : Zc Try.prog 37 [(.nilFunc)] := Zc.mk' (z := .nilFunc) (by kernel_rfl) rfl
instance : ElT Try.prog 37 1 8 := ElT.mk' (z := .nilFunc) (by kernel_rfl) rfl (by decide)
instance : Sz Try.prog 38 1 := Sz.mk' (by kernel_rfl)
instance : One Try.prog 38 := One.mk' Try.underlying38 rfl
instance : Zc Try.prog 38 [(.nilFunc)] := Zc.mk' (z := .nilFunc) (by kernel_rfl) rfl
instance : ElT Try.prog 38 1 8 := ElT.mk' (z := .nilFunc) (by kernel_rfl) rfl (by decide)
instance : Sz Try.prog 39 1 := Sz.mk' (by kernel_rfl)
instance : One Try.prog 39 := One.mk' Try.underlying39 rfl
instance : Zc Try.prog 39 [(.nilFunc)] := Zc.mk' (z := .nilFunc) (by kernel_rfl) rfl
instance : ElT Try.prog 39 1 8 := ElT.mk' (z := .nilFunc) (by kernel_rfl) rfl (by decide)
instance : Sz Try.prog 40 1 := Sz.mk' (by kernel_rfl)
instance : One Try.prog 40 := One.mk' Try.underlying40 rfl
instance : Zc Try.prog 40 [(.nilFunc)] := Zc.mk' (z := .nilFunc) (by kernel_rfl) rfl
instance : ElT Try.prog 40 1 8 := ElT.mk' (z := .nilFunc) (by kernel_rfl) rfl (by decide)
instance : Sz Try.prog 41 1 := Sz.mk' (by kernel_rfl)
instance : One Try.prog 41 := One.mk' Try.underlying41 rfl
instance : Zc Try.prog 41 [(.nilFunc)] := Zc.mk' (z := .nilFunc) (by kernel_rfl) rfl
instance : ElT Try.prog 41 1 8 := ElT.mk' (z := .nilFunc) (by kernel_rfl) rfl (by decide)
instance : Sz Try.prog 42 1 := Sz.mk' (by kernel_rfl)
instance : SlT Try.prog 42 59 := ⟨Try.underlying42⟩
instance : One Try.prog 42 := One.mk' Try.underlying42 rfl
instance : Zc Try.prog 42 [(.slice none 0 0)] := Zc.mk' (z := .slice none 0 0) (by kernel_rfl) rfl
instance : ElT Try.prog 42 1 24 := ElT.mk' (z := .slice none 0 0) (by kernel_rfl) rfl (by decide)
instance : Sz Try.prog 43 1 := Sz.mk' (by kernel_rfl)
instance : One Try.prog 43 := One.mk' Try.underlying43 rfl
instance : Zc Try.prog 43 [(.nilFunc)] := Zc.mk' (z := .nilFunc) (by kernel_rfl) rfl
instance : ElT Try.prog 43 1 8 := ElT.mk' (z := .nilFunc) (by kernel_rfl) rfl (by decide)
instance : Sz Try.prog 44 1 := Sz.mk' (by kernel_rfl)
instance : One Try.prog 44 := One.mk' Try.underlying44 rfl
instance : Zc Try.prog 44 [(.nilFunc)] := Zc.mk' (z := .nilFunc) (by kernel_rfl) rfl
instance : ElT Try.prog 44 1 8 := ElT.mk' (z := .nilFunc) (by kernel_rfl) rfl (by decide)
instance : Sz Try.prog 46 1 := Sz.mk' (by kernel_rfl)
instance : One Try.prog 46 := One.mk' Try.underlying46 rfl
instance : Zc Try.prog 46 [(.nilFunc)] := Zc.mk' (z := .nilFunc) (by kernel_rfl) rfl
instance : ElT Try.prog 46 1 8 := ElT.mk' (z := .nilFunc) (by kernel_rfl) rfl (by decide)
instance : Sz Try.prog 47 1 := Sz.mk' (by kernel_rfl)
instance : One Try.prog 47 := One.mk' Try.underlying47 rfl
instance : Zc Try.prog 47 [(.nilFunc)] := Zc.mk' (z := .nilFunc) (by kernel_rfl) rfl
instance : ElT Try.prog 47 1 8 := ElT.mk' (z := .nilFunc) (by kernel_rfl) rfl (by decide)
instance : Sz Try.prog 48 1 := Sz.mk' (by kernel_rfl)
instance : One Try.prog 48 := One.mk' Try.underlying48 rfl
instance : Zc Try.prog 48 [(.nilFunc)] := Zc.mk' (z := .nilFunc) (by kernel_rfl) rfl
instance : ElT Try.prog 48 1 8 := ElT.mk' (z := .nilFunc) (by kernel_rfl) rfl (by decide)
instance : Sz Try.prog 49 1 := Sz.mk' (by kernel_rfl)
instance : SlT Try.prog 49 5 := ⟨Try.underlying49⟩
instance : One Try.prog 49 := One.mk' Try.underlying49 rfl
instance : Zc Try.prog 49 [(.slice none 0 0)] := Zc.mk' (z := .slice none 0 0) (by kernel_rfl) rfl
instance : ElT Try.prog 49 1 24 := ElT.mk' (z := .slice none 0 0) (by kernel_rfl) rfl (by decide)
instance : Sz Try.prog 50 1 := Sz.mk' (by kernel_rfl)
instance : One Try.prog 50 := One.mk' Try.underlying50 rfl
instance : Zc Try.prog 50 [(.nilFunc)] := Zc.mk' (z := .nilFunc) (by kernel_rfl) rfl
instance : ElT Try.prog 50 1 8 := ElT.mk' (z := .nilFunc) (by kernel_rfl) rfl (by decide)
instance : Sz Try.prog 51 2 := Sz.mk' (by kernel_rfl)
instance : Ag Try.prog 51 := Ag.mk' Try.underlying51 rfl
instance : EqS Try.prog 51 [.i64, .i64] := EqS.mk' Try.underlying51 (by kernel_rfl) (by kernel_rfl) (by kernel_rfl)
instance : Fld Try.prog 51 0 0 3 := Fld.mk' Try.underlying51 rfl
instance : Fld Try.prog 51 1 1 3 := Fld.mk' Try.underlying51 rfl
instance : Zc Try.prog 51 [(.int .i64 0), (.int .i64 0)] := Zc.mk' (z := .agg #[(.int .i64 0), (.int .i64 0)]) (by kernel_rfl) rfl
instance : StT Try.prog 51 [(0, 1), (1, 1)] [(.int .i64 0), (.int .i64 0)] := StT.mk' (z := .agg #[(.int .i64 0), (.int .i64 0)]) Try.underlying51 (by kernel_rfl) rfl (by kernel_rfl)
instance : ElT Try.prog 51 2 16 := ElT.mk' (z := .agg #[(.int .i64 0), (.int .i64 0)]) (by kernel_rfl) rfl (by decide)
instance : Sz Try.prog 52 2 := Sz.mk' (by kernel_rfl)
instance : Ag Try.prog 52 := Ag.mk' Try.underlying52 rfl
instance : EqS Try.prog 52 [.i64, .i64] := EqS.mk' Try.underlying52 (by kernel_rfl) (by kernel_rfl) (by kernel_rfl)
instance : Fld Try.prog 52 0 0 3 := Fld.mk' Try.underlying52 rfl
instance : Fld Try.prog 52 1 1 3 := Fld.mk' Try.underlying52 rfl
instance : Zc Try.prog 52 [(.int .i64 0), (.int .i64 0)] := Zc.mk' (z := .agg #[(.int .i64 0), (.int .i64 0)]) (by kernel_rfl) rfl
instance : StT Try.prog 52 [(0, 1), (1, 1)] [(.int .i64 0), (.int .i64 0)] := StT.mk' (z := .agg #[(.int .i64 0), (.int .i64 0)]) Try.underlying52 (by kernel_rfl) rfl (by kernel_rfl)
instance : ElT Try.prog 52 2 16 := ElT.mk' (z := .agg #[(.int .i64 0), (.int .i64 0)]) (by kernel_rfl) rfl (by decide)
instance : Sz Try.prog 53 2 := Sz.mk' (by kernel_rfl)
instance : Ag Try.prog 53 := Ag.mk' Try.underlying53 rfl
instance : EqS Try.prog 53 [.i64, .i64] := EqS.mk' Try.underlying53 (by kernel_rfl) (by kernel_rfl) (by kernel_rfl)
instance : Fld Try.prog 53 0 0 3 := Fld.mk' Try.underlying53 rfl
instance : Fld Try.prog 53 1 1 3 := Fld.mk' Try.underlying53 rfl
instance : Zc Try.prog 53 [(.int .i64 0), (.int .i64 0)] := Zc.mk' (z := .agg #[(.int .i64 0), (.int .i64 0)]) (by kernel_rfl) rfl
instance : StT Try.prog 53 [(0, 1), (1, 1)] [(.int .i64 0), (.int .i64 0)] := StT.mk' (z := .agg #[(.int .i64 0), (.int .i64 0)]) Try.underlying53 (by kernel_rfl) rfl (by kernel_rfl)
instance : ElT Try.prog 53 2 16 := ElT.mk' (z := .agg #[(.int .i64 0), (.int .i64 0)]) (by kernel_rfl) rfl (by decide)
instance : Sz Try.prog 54 2 := Sz.mk' (by kernel_rfl)
instance : Ag Try.prog 54 := Ag.mk' Try.underlying54 rfl
instance : EqS Try.prog 54 [.i64, .i64] := EqS.mk' Try.underlying54 (by kernel_rfl) (by kernel_rfl) (by kernel_rfl)
instance : Fld Try.prog 54 0 0 3 := Fld.mk' Try.underlying54 rfl
instance : Fld Try.prog 54 1 1 3 := Fld.mk' Try.underlying54 rfl
instance : Zc Try.prog 54 [(.int .i64 0), (.int .i64 0)] := Zc.mk' (z := .agg #[(.int .i64 0), (.int .i64 0)]) (by kernel_rfl) rfl
instance : StT Try.prog 54 [(0, 1), (1, 1)] [(.int .i64 0), (.int .i64 0)] := StT.mk' (z := .agg #[(.int .i64 0), (.int .i64 0)]) Try.underlying54 (by kernel_rfl) rfl (by kernel_rfl)
instance : ElT Try.prog 54 2 16 := ElT.mk' (z := .agg #[(.int .i64 0), (.int .i64 0)]) (by kernel_rfl) rfl (by decide)
instance : Sz Try.prog 55 4 := Sz.mk' (by kernel_rfl)
instance : Ag Try.prog 55 := Ag.mk' Try.underlying55 rfl
instance : Fld Try.prog 55 0 0 52 := Fld.mk' Try.underlying55 rfl
instance : Fld Try.prog 55 1 2 54 := Fld.mk' Try.underlying55 rfl
instance : Zc Try.prog 55 [(.int .i64 0), (.int .i64 0), (.int .i64 0), (.int .i64 0)] := Zc.mk' (z := .agg #[(.int .i64 0), (.int .i64 0), (.int .i64 0), (.int .i64 0)]) (by kernel_rfl) rfl
instance : StT Try.prog 55 [(0, 2), (2, 2)] [(.int .i64 0), (.int .i64 0), (.int .i64 0), (.int .i64 0)] := StT.mk' (z := .agg #[(.int .i64 0), (.int .i64 0), (.int .i64 0), (.int .i64 0)]) Try.underlying55 (by kernel_rfl) rfl (by kernel_rfl)
instance : ElT Try.prog 55 4 32 := ElT.mk' (z := .agg #[(.int .i64 0), (.int .i64 0), (.int .i64 0), (.int .i64 0)]) (by kernel_rfl) rfl (by decide)
instance : Sz Try.prog 56 4 := Sz.mk' (by kernel_rfl)
instance : Ag Try.prog 56 := Ag.mk' Try.underlying56 rfl
instance : Fld Try.prog 56 0 0 52 := Fld.mk' Try.underlying56 rfl
instance : Fld Try.prog 56 1 2 54 := Fld.mk' Try.underlying56 rfl
instance : Zc Try.prog 56 [(.int .i64 0), (.int .i64 0), (.int .i64 0), (.int .i64 0)] := Zc.mk' (z := .agg #[(.int .i64 0), (.int .i64 0), (.int .i64 0), (.int .i64 0)]) (by kernel_rfl) rfl
instance : StT Try.prog 56 [(0, 2), (2, 2)] [(.int .i64 0), (.int .i64 0), (.int .i64 0), (.int .i64 0)] := StT.mk' (z := .agg #[(.int .i64 0), (.int .i64 0), (.int .i64 0), (.int .i64 0)]) Try.underlying56 (by kernel_rfl) rfl (by kernel_rfl)
instance : ElT Try.prog 56 4 32 := ElT.mk' (z := .agg #[(.int .i64 0), (.int .i64 0), (.int .i64 0), (.int .i64 0)]) (by kernel_rfl) rfl (by decide)
instance : Sz Try.prog 57 1 := Sz.mk' (by kernel_rfl)
instance : One Try.prog 57 := One.mk' Try.underlying57 rfl
instance : Zc Try.prog 57 [(.nilFunc)] := Zc.mk' (z := .nilFunc) (by kernel_rfl) rfl
instance : ElT Try.prog 57 1 8 := ElT.mk' (z := .nilFunc) (by kernel_rfl) rfl (by decide)
instance : Sz Try.prog 58 4 := Sz.mk' (by kernel_rfl)
instance : Ag Try.prog 58 := Ag.mk' Try.underlying58 rfl
instance : Fld Try.prog 58 0 0 52 := Fld.mk' Try.underlying58 rfl
instance : Fld Try.prog 58 1 2 54 := Fld.mk' Try.underlying58 rfl
instance : Zc Try.prog 58 [(.int .i64 0), (.int .i64 0), (.int .i64 0), (.int .i64 0)] := Zc.mk' (z := .agg #[(.int .i64 0), (.int .i64 0), (.int .i64 0), (.int .i64 0)]) (by kernel_rfl) rfl
instance : StT Try.prog 58 [(0, 2), (2, 2)] [(.int .i64 0), (.int .i64 0), (.int .i64 0), (.int .i64 0)] := StT.mk' (z := .agg #[(.int .i64 0), (.int .i64 0), (.int .i64 0), (.int .i64 0)]) Try.underlying58 (by kernel_rfl) rfl (by kernel_rfl)
instance : ElT Try.prog 58 4 32 := ElT.mk' (z := .agg #[(.int .i64 0), (.int .i64 0), (.int .i64 0), (.int .i64 0)]) (by kernel_rfl) rfl (by decide)
instance : Sz Try.prog 59 4 := Sz.mk' (by kernel_rfl)
instance : Ag Try.prog 59 := Ag.mk' Try.underlying59 rfl
instance : Fld Try.prog 59 0 0 52 := Fld.mk' Try.underlying59 rfl
instance : Fld Try.prog 59 1 2 54 := Fld.mk' Try.underlying59 rfl
instance : Zc Try.prog 59 [(.int .i64 0), (.int .i64 0), (.int .i64 0), (.int .i64 0)] := Zc.mk' (z := .agg #[(.int .i64 0), (.int .i64 0), (.int .i64 0), (.int .i64 0)]) (by kernel_rfl) rfl
instance : StT Try.prog 59 [(0, 2), (2, 2)] [(.int .i64 0), (.int .i64 0), (.int .i64 0), (.int .i64 0)] := StT.mk' (z := .agg #[(.int .i64 0), (.int .i64 0), (.int .i64 0), (.int .i64 0)]) Try.underlying59 (by kernel_rfl) rfl (by kernel_rfl)
instance : ElT Try.prog 59 4 32 := ElT.mk' (z := .agg #[(.int .i64 0), (.int .i64 0), (.int .i64 0), (.int .i64 0)]) (by kernel_rfl) rfl (by decide)
instance : Sz Try.prog 60 1 := Sz.mk' (by kernel_rfl)
instance : One Try.prog 60 := One.mk' Try.underlying60 rfl
instance : Zc Try.prog 60 [(.nilFunc)] := Zc.mk' (z := .nilFunc) (by kernel_rfl) rfl
instance : ElT Try.prog 60 1 8 := ElT.mk' (z := .nilFunc) (by kernel_rfl) rfl (by decide)
instance : Sz Try.prog 61 4 := Sz.mk' (by kernel_rfl)
instance : Ag Try.prog 61 := Ag.mk' Try.underlying61 rfl
instance : Fld Try.prog 61 0 0 3 := Fld.mk' Try.underlying61 rfl
instance : Fld Try.prog 61 1 1 3 := Fld.mk' Try.underlying61 rfl
instance : Fld Try.prog 61 2 2 54 := Fld.mk' Try.underlying61 rfl
instance : Zc Try.prog 61 [(.int .i64 0), (.int .i64 0), (.int .i64 0), (.int .i64 0)] := Zc.mk' (z := .agg #[(.int .i64 0), (.int .i64 0), (.int .i64 0), (.int .i64 0)]) (by kernel_rfl) rfl
instance : StT Try.prog 61 [(0, 1), (1, 1), (2, 2)] [(.int .i64 0), (.int .i64 0), (.int .i64 0), (.int .i64 0)] := StT.mk' (z := .agg #[(.int .i64 0), (.int .i64 0), (.int .i64 0), (.int .i64 0)]) Try.underlying61 (by kernel_rfl) rfl (by kernel_rfl)
instance : ElT Try.prog 61 4 32 := ElT.mk' (z := .agg #[(.int .i64 0), (.int .i64 0), (.int .i64 0), (.int .i64 0)]) (by kernel_rfl) rfl (by decide)
instance : Sz Try.prog 62 4 := Sz.mk' (by kernel_rfl)
instance : Ag Try.prog 62 := Ag.mk' Try.underlying62 rfl
instance : Fld Try.prog 62 0 0 3 := Fld.mk' Try.underlying62 rfl
instance : Fld Try.prog 62 1 1 3 := Fld.mk' Try.underlying62 rfl
instance : Fld Try.prog 62 2 2 54 := Fld.mk' Try.underlying62 rfl
instance : Zc Try.prog 62 [(.int .i64 0), (.int .i64 0), (.int .i64 0), (.int .i64 0)] := Zc.mk' (z := .agg #[(.int .i64 0), (.int .i64 0), (.int .i64 0), (.int .i64 0)]) (by kernel_rfl) rfl
instance : StT Try.prog 62 [(0, 1), (1, 1), (2, 2)] [(.int .i64 0), (.int .i64 0), (.int .i64 0), (.int .i64 0)] := StT.mk' (z := .agg #[(.int .i64 0), (.int .i64 0), (.int .i64 0), (.int .i64 0)]) Try.underlying62 (by kernel_rfl) rfl (by kernel_rfl)
instance : ElT Try.prog 62 4 32 := ElT.mk' (z := .agg #[(.int .i64 0), (.int .i64 0), (.int .i64 0), (.int .i64 0)]) (by kernel_rfl) rfl (by decide)
instance : Sz Try.prog 63 1 := Sz.mk' (by kernel_rfl)
instance : One Try.prog 63 := One.mk' Try.underlying63 rfl
instance : Zc Try.prog 63 [(.nilFunc)] := Zc.mk' (z := .nilFunc) (by kernel_rfl) rfl
instance : ElT Try.prog 63 1 8 := ElT.mk' (z := .nilFunc) (by kernel_rfl) rfl (by decide)
instance : Sz Try.prog 64 1 := Sz.mk' (by kernel_rfl)
instance : One Try.prog 64 := One.mk' Try.underlying64 rfl
instance : Zc Try.prog 64 [(.nilFunc)] := Zc.mk' (z := .nilFunc) (by kernel_rfl) rfl
instance : ElT Try.prog 64 1 8 := ElT.mk' (z := .nilFunc) (by kernel_rfl) rfl (by decide)
instance : Sz Try.prog 65 1 := Sz.mk' (by kernel_rfl)
instance : One Try.prog 65 := One.mk' Try.underlying65 rfl
instance : Zc Try.prog 65 [(.nilFunc)] := Zc.mk' (z := .nilFunc) (by kernel_rfl) rfl
instance : ElT Try.prog 65 1 8 := ElT.mk' (z := .nilFunc) (by kernel_rfl) rfl (by decide)
instance : Sz Try.prog 66 1 := Sz.mk' (by kernel_rfl)
instance : One Try.prog 66 := One.mk' Try.underlying66 rfl
instance : Zc Try.prog 66 [(.nilFunc)] := Zc.mk' (z := .nilFunc) (by kernel_rfl) rfl
instance : ElT Try.prog 66 1 8 := ElT.mk' (z := .nilFunc) (by kernel_rfl) rfl (by decide)
instance : Sz Try.prog 67 1 := Sz.mk' (by kernel_rfl)
instance : One Try.prog 67 := One.mk' Try.underlying67 rfl
instance : Zc Try.prog 67 [(.nilFunc)] := Zc.mk' (z := .nilFunc) (by kernel_rfl) rfl
instance : ElT Try.prog 67 1 8 := ElT.mk' (z := .nilFunc) (by kernel_rfl) rfl (by decide)
instance : Sz Try.prog 68 1 := Sz.mk' (by kernel_rfl)
instance : One Try.prog 68 := One.mk' Try.underlying68 rfl
instance : Zc Try.prog 68 [(.nilFunc)] := Zc.mk' (z := .nilFunc) (by kernel_rfl) rfl
instance : ElT Try.prog 68 1 8 := ElT.mk' (z := .nilFunc) (by kernel_rfl) rfl (by decide)
instance : Sz Try.prog 69 1 := Sz.mk' (by kernel_rfl)
instance : IntT Try.prog 69 .u32 := ⟨Try.underlying69⟩
instance : One Try.prog 69 := One.mk' Try.underlying69 rfl
instance : Zc Try.prog 69 [(.int .u32 0)] := Zc.mk' (z := .int .u32 0) (by kernel_rfl) rfl
instance : ElT Try.prog 69 1 4 := ElT.mk' (z := .int .u32 0) (by kernel_rfl) rfl (by decide)
instance : Sz Try.prog 70 1 := Sz.mk' (by kernel_rfl)
instance : One Try.prog 70 := One.mk' Try.underlying70 rfl
instance : Zc Try.prog 70 [(.nilFunc)] := Zc.mk' (z := .nilFunc) (by kernel_rfl) rfl
instance : ElT Try.prog 70 1 8 := ElT.mk' (z := .nilFunc) (by kernel_rfl) rfl (by decide)
instance : Sz Try.prog 71 1 := Sz.mk' (by kernel_rfl)
instance : PtrT Try.prog 71 95 := ⟨Try.underlying71⟩
instance : One Try.prog 71 := One.mk' Try.underlying71 rfl
instance : Zc Try.prog 71 [(.pointer none)] := Zc.mk' (z := .pointer none) (by kernel_rfl) rfl
instance : ElT Try.prog 71 1 8 := ElT.mk' (z := .pointer none) (by kernel_rfl) rfl (by decide)
instance : Sz Try.prog 72 1 := Sz.mk' (by kernel_rfl)
instance : One Try.prog 72 := One.mk' Try.underlying72 rfl
instance : Zc Try.prog 72 [(.nilFunc)] := Zc.mk' (z := .nilFunc) (by kernel_rfl) rfl
instance : ElT Try.prog 72 1 8 := ElT.mk' (z := .nilFunc) (by kernel_rfl) rfl (by decide)
instance : Sz Try.prog 73 1 := Sz.mk' (by kernel_rfl)
instance : One Try.prog 73 := One.mk' Try.underlying73 rfl
instance : Zc Try.prog 73 [(.nilFunc)] := Zc.mk' (z := .nilFunc) (by kernel_rfl) rfl
instance : ElT Try.prog 73 1 8 := ElT.mk' (z := .nilFunc) (by kernel_rfl) rfl (by decide)
instance : Sz Try.prog 74 1 := Sz.mk' (by kernel_rfl)
instance : One Try.prog 74 := One.mk' Try.underlying74 rfl
instance : Zc Try.prog 74 [(.nilFunc)] := Zc.mk' (z := .nilFunc) (by kernel_rfl) rfl
instance : ElT Try.prog 74 1 8 := ElT.mk' (z := .nilFunc) (by kernel_rfl) rfl (by decide)
instance : Sz Try.prog 76 1 := Sz.mk' (by kernel_rfl)
instance : One Try.prog 76 := One.mk' Try.underlying76 rfl
instance : Zc Try.prog 76 [(.nilFunc)] := Zc.mk' (z := .nilFunc) (by kernel_rfl) rfl
instance : ElT Try.prog 76 1 8 := ElT.mk' (z := .nilFunc) (by kernel_rfl) rfl (by decide)
instance : Sz Try.prog 77 1 := Sz.mk' (by kernel_rfl)
instance : One Try.prog 77 := One.mk' Try.underlying77 rfl
instance : Zc Try.prog 77 [(.nilFunc)] := Zc.mk' (z := .nilFunc) (by kernel_rfl) rfl
instance : ElT Try.prog 77 1 8 := ElT.mk' (z := .nilFunc) (by kernel_rfl) rfl (by decide)
instance : Sz Try.prog 78 1 := Sz.mk' (by kernel_rfl)
instance : One Try.prog 78 := One.mk' Try.underlying78 rfl
instance : Zc Try.prog 78 [(.nilFunc)] := Zc.mk' (z := .nilFunc) (by kernel_rfl) rfl
instance : ElT Try.prog 78 1 8 := ElT.mk' (z := .nilFunc) (by kernel_rfl) rfl (by decide)
instance : Sz Try.prog 79 1 := Sz.mk' (by kernel_rfl)
instance : One Try.prog 79 := One.mk' Try.underlying79 rfl
instance : Zc Try.prog 79 [(.nilFunc)] := Zc.mk' (z := .nilFunc) (by kernel_rfl) rfl
instance : ElT Try.prog 79 1 8 := ElT.mk' (z := .nilFunc) (by kernel_rfl) rfl (by decide)
instance : Sz Try.prog 80 1 := Sz.mk' (by kernel_rfl)
instance : Ag Try.prog 80 := Ag.mk' Try.underlying80 rfl
instance : Fld Try.prog 80 0 0 49 := Fld.mk' Try.underlying80 rfl
instance : Zc Try.prog 80 [(.slice none 0 0)] := Zc.mk' (z := .agg #[(.slice none 0 0)]) (by kernel_rfl) rfl
instance : StT Try.prog 80 [(0, 1)] [(.slice none 0 0)] := StT.mk' (z := .agg #[(.slice none 0 0)]) Try.underlying80 (by kernel_rfl) rfl (by kernel_rfl)
instance : ElT Try.prog 80 1 24 := ElT.mk' (z := .agg #[(.slice none 0 0)]) (by kernel_rfl) rfl (by decide)
instance : Sz Try.prog 81 1 := Sz.mk' (by kernel_rfl)
instance : Ag Try.prog 81 := Ag.mk' Try.underlying81 rfl
instance : Fld Try.prog 81 0 0 49 := Fld.mk' Try.underlying81 rfl
instance : Zc Try.prog 81 [(.slice none 0 0)] := Zc.mk' (z := .agg #[(.slice none 0 0)]) (by kernel_rfl) rfl
instance : StT Try.prog 81 [(0, 1)] [(.slice none 0 0)] := StT.mk' (z := .agg #[(.slice none 0 0)]) Try.underlying81 (by kernel_rfl) rfl (by kernel_rfl)
instance : ElT Try.prog 81 1 24 := ElT.mk' (z := .agg #[(.slice none 0 0)]) (by kernel_rfl) rfl (by decide)
instance : Sz Try.prog 82 1 := Sz.mk' (by kernel_rfl)
instance : One Try.prog 82 := One.mk' Try.underlying82 rfl
instance : Zc Try.prog 82 [(.nilFunc)] := Zc.mk' (z := .nilFunc) (by kernel_rfl) rfl
instance : ElT Try.prog 82 1 8 := ElT.mk' (z := .nilFunc) (by kernel_rfl) rfl (by decide)
instance : Sz Try.prog 83 1 := Sz.mk' (by kernel_rfl)
instance : One Try.prog 83 := One.mk' Try.underlying83 rfl
instance : Zc Try.prog 83 [(.nilFunc)] := Zc.mk' (z := .nilFunc) (by kernel_rfl) rfl
instance : ElT Try.prog 83 1 8 := ElT.mk' (z := .nilFunc) (by kernel_rfl) rfl (by decide)
instance : Sz Try.prog 84 1 := Sz.mk' (by kernel_rfl)
instance : One Try.prog 84 := One.mk' Try.underlying84 rfl
instance : Zc Try.prog 84 [(.nilFunc)] := Zc.mk' (z := .nilFunc) (by kernel_rfl) rfl
instance : ElT Try.prog 84 1 8 := ElT.mk' (z := .nilFunc) (by kernel_rfl) rfl (by decide)
instance : Sz Try.prog 85 1 := Sz.mk' (by kernel_rfl)
instance : One Try.prog 85 := One.mk' Try.underlying85 rfl
instance : Zc Try.prog 85 [(.nilFunc)] := Zc.mk' (z := .nilFunc) (by kernel_rfl) rfl
instance : ElT Try.prog 85 1 8 := ElT.mk' (z := .nilFunc) (by kernel_rfl) rfl (by decide)
instance : Sz Try.prog 87 1 := Sz.mk' (by kernel_rfl)
instance : One Try.prog 87 := One.mk' Try.underlying87 rfl
instance : Zc Try.prog 87 [(.nilFunc)] := Zc.mk' (z := .nilFunc) (by kernel_rfl) rfl
instance : ElT Try.prog 87 1 8 := ElT.mk' (z := .nilFunc) (by kernel_rfl) rfl (by decide)
instance : Sz Try.prog 88 1 := Sz.mk' (by kernel_rfl)
instance : One Try.prog 88 := One.mk' Try.underlying88 rfl
instance : Zc Try.prog 88 [(.nilFunc)] := Zc.mk' (z := .nilFunc) (by kernel_rfl) rfl
instance : ElT Try.prog 88 1 8 := ElT.mk' (z := .nilFunc) (by kernel_rfl) rfl (by decide)
instance : Sz Try.prog 89 1 := Sz.mk' (by kernel_rfl)
instance : One Try.prog 89 := One.mk' Try.underlying89 rfl
instance : Zc Try.prog 89 [(.nilFunc)] := Zc.mk' (z := .nilFunc) (by kernel_rfl) rfl
instance : ElT Try.prog 89 1 8 := ElT.mk' (z := .nilFunc) (by kernel_rfl) rfl (by decide)
instance : Sz Try.prog 90 1 := Sz.mk' (by kernel_rfl)
instance : One Try.prog 90 := One.mk' Try.underlying90 rfl
instance : Zc Try.prog 90 [(.nilFunc)] := Zc.mk' (z := .nilFunc) (by kernel_rfl) rfl
instance : ElT Try.prog 90 1 8 := ElT.mk' (z := .nilFunc) (by kernel_rfl) rfl (by decide)
instance : Sz Try.prog 91 1 := Sz.mk' (by kernel_rfl)
instance : One Try.prog 91 := One.mk' Try.underlying91 rfl
instance : Zc Try.prog 91 [(.nilFunc)] := Zc.mk' (z := .nilFunc) (by kernel_rfl) rfl
instance : ElT Try.prog 91 1 8 := ElT.mk' (z := .nilFunc) (by kernel_rfl) rfl (by decide)
instance : Sz Try.prog 92 2 := Sz.mk' (by kernel_rfl)
instance : Ag Try.prog 92 := Ag.mk' Try.underlying92 rfl
instance : EqS Try.prog 92 [.i64, .i64] := EqS.mk' Try.underlying92 (by kernel_rfl) (by kernel_rfl) (by kernel_rfl)
instance : Fld Try.prog 92 0 0 3 := Fld.mk' Try.underlying92 rfl
instance : Fld Try.prog 92 1 1 33 := Fld.mk' Try.underlying92 rfl
instance : Zc Try.prog 92 [(.int .i64 0), (.int .i64 0)] := Zc.mk' (z := .agg #[(.int .i64 0), (.int .i64 0)]) (by kernel_rfl) rfl
instance : StT Try.prog 92 [(0, 1), (1, 1)] [(.int .i64 0), (.int .i64 0)] := StT.mk' (z := .agg #[(.int .i64 0), (.int .i64 0)]) Try.underlying92 (by kernel_rfl) rfl (by kernel_rfl)
instance : ElT Try.prog 92 2 16 := ElT.mk' (z := .agg #[(.int .i64 0), (.int .i64 0)]) (by kernel_rfl) rfl (by decide)
instance : Sz Try.prog 93 2 := Sz.mk' (by kernel_rfl)
instance : Ag Try.prog 93 := Ag.mk' Try.underlying93 rfl
instance : EqS Try.prog 93 [.i64, .i64] := EqS.mk' Try.underlying93 (by kernel_rfl) (by kernel_rfl) (by kernel_rfl)
instance : Fld Try.prog 93 0 0 3 := Fld.mk' Try.underlying93 rfl
instance : Fld Try.prog 93 1 1 33 := Fld.mk' Try.underlying93 rfl
instance : Zc Try.prog 93 [(.int .i64 0), (.int .i64 0)] := Zc.mk' (z := .agg #[(.int .i64 0), (.int .i64 0)]) (by kernel_rfl) rfl
instance : StT Try.prog 93 [(0, 1), (1, 1)] [(.int .i64 0), (.int .i64 0)] := StT.mk' (z := .agg #[(.int .i64 0), (.int .i64 0)]) Try.underlying93 (by kernel_rfl) rfl (by kernel_rfl)
instance : ElT Try.prog 93 2 16 := ElT.mk' (z := .agg #[(.int .i64 0), (.int .i64 0)]) (by kernel_rfl) rfl (by decide)
instance : Sz Try.prog 94 3 := Sz.mk' (by kernel_rfl)
instance : Ag Try.prog 94 := Ag.mk' Try.underlying94 rfl
instance : Fld Try.prog 94 0 0 93 := Fld.mk' Try.underlying94 rfl
instance : Fld Try.prog 94 1 2 9 := Fld.mk' Try.underlying94 rfl
instance : Zc Try.prog 94 [(.int .i64 0), (.int .i64 0), (.string ByteArray.empty)] := Zc.mk' (z := .agg #[(.int .i64 0), (.int .i64 0), (.string ByteArray.empty)]) (by kernel_rfl) rfl
instance : StT Try.prog 94 [(0, 2), (2, 1)] [(.int .i64 0), (.int .i64 0), (.string ByteArray.empty)] := StT.mk' (z := .agg #[(.int .i64 0), (.int .i64 0), (.string ByteArray.empty)]) Try.underlying94 (by kernel_rfl) rfl (by kernel_rfl)
instance : ElT Try.prog 94 3 32 := ElT.mk' (z := .agg #[(.int .i64 0), (.int .i64 0), (.string ByteArray.empty)]) (by kernel_rfl) rfl (by decide)
instance : Sz Try.prog 95 3 := Sz.mk' (by kernel_rfl)
instance : Ag Try.prog 95 := Ag.mk' Try.underlying95 rfl
instance : Fld Try.prog 95 0 0 93 := Fld.mk' Try.underlying95 rfl
instance : Fld Try.prog 95 1 2 9 := Fld.mk' Try.underlying95 rfl
instance : Zc Try.prog 95 [(.int .i64 0), (.int .i64 0), (.string ByteArray.empty)] := Zc.mk' (z := .agg #[(.int .i64 0), (.int .i64 0), (.string ByteArray.empty)]) (by kernel_rfl) rfl
instance : StT Try.prog 95 [(0, 2), (2, 1)] [(.int .i64 0), (.int .i64 0), (.string ByteArray.empty)] := StT.mk' (z := .agg #[(.int .i64 0), (.int .i64 0), (.string ByteArray.empty)]) Try.underlying95 (by kernel_rfl) rfl (by kernel_rfl)
instance : ElT Try.prog 95 3 32 := ElT.mk' (z := .agg #[(.int .i64 0), (.int .i64 0), (.string ByteArray.empty)]) (by kernel_rfl) rfl (by decide)
instance : Sz Try.prog 96 1 := Sz.mk' (by kernel_rfl)
instance : One Try.prog 96 := One.mk' Try.underlying96 rfl
instance : Zc Try.prog 96 [(.nilFunc)] := Zc.mk' (z := .nilFunc) (by kernel_rfl) rfl
instance : ElT Try.prog 96 1 8 := ElT.mk' (z := .nilFunc) (by kernel_rfl) rfl (by decide)
instance : Sz Try.prog 97 1 := Sz.mk' (by kernel_rfl)
instance : One Try.prog 97 := One.mk' Try.underlying97 rfl
instance : Zc Try.prog 97 [(.nilFunc)] := Zc.mk' (z := .nilFunc) (by kernel_rfl) rfl
instance : ElT Try.prog 97 1 8 := ElT.mk' (z := .nilFunc) (by kernel_rfl) rfl (by decide)
instance : Sz Try.prog 98 1 := Sz.mk' (by kernel_rfl)
instance : One Try.prog 98 := One.mk' Try.underlying98 rfl
instance : Zc Try.prog 98 [(.nilFunc)] := Zc.mk' (z := .nilFunc) (by kernel_rfl) rfl
instance : ElT Try.prog 98 1 8 := ElT.mk' (z := .nilFunc) (by kernel_rfl) rfl (by decide)
instance : Sz Try.prog 99 1 := Sz.mk' (by kernel_rfl)
instance : One Try.prog 99 := One.mk' Try.underlying99 rfl
instance : Zc Try.prog 99 [(.nilFunc)] := Zc.mk' (z := .nilFunc) (by kernel_rfl) rfl
instance : ElT Try.prog 99 1 8 := ElT.mk' (z := .nilFunc) (by kernel_rfl) rfl (by decide)
instance : Sz Try.prog 100 1 := Sz.mk' (by kernel_rfl)
instance : One Try.prog 100 := One.mk' Try.underlying100 rfl
instance : Zc Try.prog 100 [(.nilFunc)] := Zc.mk' (z := .nilFunc) (by kernel_rfl) rfl
instance : ElT Try.prog 100 1 8 := ElT.mk' (z := .nilFunc) (by kernel_rfl) rfl (by decide)
instance : Sz Try.prog 101 1 := Sz.mk' (by kernel_rfl)
instance : SlT Try.prog 101 9 := ⟨Try.underlying101⟩
instance : One Try.prog 101 := One.mk' Try.underlying101 rfl
instance : Zc Try.prog 101 [(.slice none 0 0)] := Zc.mk' (z := .slice none 0 0) (by kernel_rfl) rfl
instance : ElT Try.prog 101 1 24 := ElT.mk' (z := .slice none 0 0) (by kernel_rfl) rfl (by decide)
instance : Sz Try.prog 102 1 := Sz.mk' (by kernel_rfl)
instance : One Try.prog 102 := One.mk' Try.underlying102 rfl
instance : Zc Try.prog 102 [(.nilFunc)] := Zc.mk' (z := .nilFunc) (by kernel_rfl) rfl
instance : ElT Try.prog 102 1 8 := ElT.mk' (z := .nilFunc) (by kernel_rfl) rfl (by decide)
instance : Sz Try.prog 103 1 := Sz.mk' (by kernel_rfl)
instance : IntT Try.prog 103 .u64 := ⟨Try.underlying103⟩
instance : One Try.prog 103 := One.mk' Try.underlying103 rfl
instance : Zc Try.prog 103 [(.int .u64 0)] := Zc.mk' (z := .int .u64 0) (by kernel_rfl) rfl
instance : ElT Try.prog 103 1 8 := ElT.mk' (z := .int .u64 0) (by kernel_rfl) rfl (by decide)
instance : Sz Try.prog 104 1 := Sz.mk' (by kernel_rfl)
instance : One Try.prog 104 := One.mk' Try.underlying104 rfl
instance : Zc Try.prog 104 [(.nilFunc)] := Zc.mk' (z := .nilFunc) (by kernel_rfl) rfl
instance : ElT Try.prog 104 1 8 := ElT.mk' (z := .nilFunc) (by kernel_rfl) rfl (by decide)
instance : Sz Try.prog 105 1 := Sz.mk' (by kernel_rfl)
instance : PtrT Try.prog 105 81 := ⟨Try.underlying105⟩
instance : One Try.prog 105 := One.mk' Try.underlying105 rfl
instance : Zc Try.prog 105 [(.pointer none)] := Zc.mk' (z := .pointer none) (by kernel_rfl) rfl
instance : ElT Try.prog 105 1 8 := ElT.mk' (z := .pointer none) (by kernel_rfl) rfl (by decide)
instance : Sz Try.prog 106 1 := Sz.mk' (by kernel_rfl)
instance : One Try.prog 106 := One.mk' Try.underlying106 rfl
instance : Zc Try.prog 106 [(.nilFunc)] := Zc.mk' (z := .nilFunc) (by kernel_rfl) rfl
instance : ElT Try.prog 106 1 8 := ElT.mk' (z := .nilFunc) (by kernel_rfl) rfl (by decide)
instance : Sz Try.prog 107 1 := Sz.mk' (by kernel_rfl)
instance : One Try.prog 107 := One.mk' Try.underlying107 rfl
instance : Zc Try.prog 107 [(.nilFunc)] := Zc.mk' (z := .nilFunc) (by kernel_rfl) rfl
instance : ElT Try.prog 107 1 8 := ElT.mk' (z := .nilFunc) (by kernel_rfl) rfl (by decide)
instance : Sz Try.prog 108 1 := Sz.mk' (by kernel_rfl)
instance : One Try.prog 108 := One.mk' Try.underlying108 rfl
instance : Zc Try.prog 108 [(.nilFunc)] := Zc.mk' (z := .nilFunc) (by kernel_rfl) rfl
instance : ElT Try.prog 108 1 8 := ElT.mk' (z := .nilFunc) (by kernel_rfl) rfl (by decide)
instance : Sz Try.prog 109 1 := Sz.mk' (by kernel_rfl)
instance : One Try.prog 109 := One.mk' Try.underlying109 rfl
instance : Zc Try.prog 109 [(.nilFunc)] := Zc.mk' (z := .nilFunc) (by kernel_rfl) rfl
instance : ElT Try.prog 109 1 8 := ElT.mk' (z := .nilFunc) (by kernel_rfl) rfl (by decide)
instance : Sz Try.prog 110 1 := Sz.mk' (by kernel_rfl)
instance : One Try.prog 110 := One.mk' Try.underlying110 rfl
instance : Zc Try.prog 110 [(.nilFunc)] := Zc.mk' (z := .nilFunc) (by kernel_rfl) rfl
instance : ElT Try.prog 110 1 8 := ElT.mk' (z := .nilFunc) (by kernel_rfl) rfl (by decide)
instance : Sz Try.prog 111 1 := Sz.mk' (by kernel_rfl)
instance : One Try.prog 111 := One.mk' Try.underlying111 rfl
instance : Zc Try.prog 111 [(.nilFunc)] := Zc.mk' (z := .nilFunc) (by kernel_rfl) rfl
instance : ElT Try.prog 111 1 8 := ElT.mk' (z := .nilFunc) (by kernel_rfl) rfl (by decide)
instance : Sz Try.prog 112 1 := Sz.mk' (by kernel_rfl)
instance : PtrT Try.prog 112 93 := ⟨Try.underlying112⟩
instance : One Try.prog 112 := One.mk' Try.underlying112 rfl
instance : Zc Try.prog 112 [(.pointer none)] := Zc.mk' (z := .pointer none) (by kernel_rfl) rfl
instance : ElT Try.prog 112 1 8 := ElT.mk' (z := .pointer none) (by kernel_rfl) rfl (by decide)
instance : Sz Try.prog 113 1 := Sz.mk' (by kernel_rfl)
instance : One Try.prog 113 := One.mk' Try.underlying113 rfl
instance : Zc Try.prog 113 [(.nilFunc)] := Zc.mk' (z := .nilFunc) (by kernel_rfl) rfl
instance : ElT Try.prog 113 1 8 := ElT.mk' (z := .nilFunc) (by kernel_rfl) rfl (by decide)
instance : Sz Try.prog 114 1 := Sz.mk' (by kernel_rfl)
instance : One Try.prog 114 := One.mk' Try.underlying114 rfl
instance : Zc Try.prog 114 [(.nilFunc)] := Zc.mk' (z := .nilFunc) (by kernel_rfl) rfl
instance : ElT Try.prog 114 1 8 := ElT.mk' (z := .nilFunc) (by kernel_rfl) rfl (by decide)
instance : Sz Try.prog 115 1 := Sz.mk' (by kernel_rfl)
instance : SlT Try.prog 115 3 := ⟨Try.underlying115⟩
instance : One Try.prog 115 := One.mk' Try.underlying115 rfl
instance : Zc Try.prog 115 [(.slice none 0 0)] := Zc.mk' (z := .slice none 0 0) (by kernel_rfl) rfl
instance : ElT Try.prog 115 1 24 := ElT.mk' (z := .slice none 0 0) (by kernel_rfl) rfl (by decide)
instance : Sz Try.prog 116 1 := Sz.mk' (by kernel_rfl)
instance : One Try.prog 116 := One.mk' Try.underlying116 rfl
instance : Zc Try.prog 116 [(.nilFunc)] := Zc.mk' (z := .nilFunc) (by kernel_rfl) rfl
instance : ElT Try.prog 116 1 8 := ElT.mk' (z := .nilFunc) (by kernel_rfl) rfl (by decide)
instance : Sz Try.prog 117 1 := Sz.mk' (by kernel_rfl)
instance : One Try.prog 117 := One.mk' Try.underlying117 rfl
instance : Zc Try.prog 117 [(.nilFunc)] := Zc.mk' (z := .nilFunc) (by kernel_rfl) rfl
instance : ElT Try.prog 117 1 8 := ElT.mk' (z := .nilFunc) (by kernel_rfl) rfl (by decide)
instance : Sz Try.prog 118 1 := Sz.mk' (by kernel_rfl)
instance : One Try.prog 118 := One.mk' Try.underlying118 rfl
instance : Zc Try.prog 118 [(.nilFunc)] := Zc.mk' (z := .nilFunc) (by kernel_rfl) rfl
instance : ElT Try.prog 118 1 8 := ElT.mk' (z := .nilFunc) (by kernel_rfl) rfl (by decide)
instance : Sz Try.prog 119 1 := Sz.mk' (by kernel_rfl)
instance : One Try.prog 119 := One.mk' Try.underlying119 rfl
instance : Zc Try.prog 119 [(.nilFunc)] := Zc.mk' (z := .nilFunc) (by kernel_rfl) rfl
instance : ElT Try.prog 119 1 8 := ElT.mk' (z := .nilFunc) (by kernel_rfl) rfl (by decide)
instance : Sz Try.prog 120 1 := Sz.mk' (by kernel_rfl)
instance : One Try.prog 120 := One.mk' Try.underlying120 rfl
instance : Zc Try.prog 120 [(.nilFunc)] := Zc.mk' (z := .nilFunc) (by kernel_rfl) rfl
instance : ElT Try.prog 120 1 8 := ElT.mk' (z := .nilFunc) (by kernel_rfl) rfl (by decide)
instance : Sz Try.prog 121 1 := Sz.mk' (by kernel_rfl)
instance : One Try.prog 121 := One.mk' Try.underlying121 rfl
instance : Zc Try.prog 121 [(.nilFunc)] := Zc.mk' (z := .nilFunc) (by kernel_rfl) rfl
instance : ElT Try.prog 121 1 8 := ElT.mk' (z := .nilFunc) (by kernel_rfl) rfl (by decide)
instance : Sz Try.prog 122 1 := Sz.mk' (by kernel_rfl)
instance : One Try.prog 122 := One.mk' Try.underlying122 rfl
instance : Zc Try.prog 122 [(.nilFunc)] := Zc.mk' (z := .nilFunc) (by kernel_rfl) rfl
instance : ElT Try.prog 122 1 8 := ElT.mk' (z := .nilFunc) (by kernel_rfl) rfl (by decide)
instance : Sz Try.prog 123 1 := Sz.mk' (by kernel_rfl)
instance : One Try.prog 123 := One.mk' Try.underlying123 rfl
instance : Zc Try.prog 123 [(.nilFunc)] := Zc.mk' (z := .nilFunc) (by kernel_rfl) rfl
instance : ElT Try.prog 123 1 8 := ElT.mk' (z := .nilFunc) (by kernel_rfl) rfl (by decide)
instance : Sz Try.prog 124 1 := Sz.mk' (by kernel_rfl)
instance : One Try.prog 124 := One.mk' Try.underlying124 rfl
instance : Zc Try.prog 124 [(.nilFunc)] := Zc.mk' (z := .nilFunc) (by kernel_rfl) rfl
instance : ElT Try.prog 124 1 8 := ElT.mk' (z := .nilFunc) (by kernel_rfl) rfl (by decide)
instance : Sz Try.prog 125 1 := Sz.mk' (by kernel_rfl)
instance : SlT Try.prog 125 22 := ⟨Try.underlying125⟩
instance : One Try.prog 125 := One.mk' Try.underlying125 rfl
instance : Zc Try.prog 125 [(.slice none 0 0)] := Zc.mk' (z := .slice none 0 0) (by kernel_rfl) rfl
instance : ElT Try.prog 125 1 24 := ElT.mk' (z := .slice none 0 0) (by kernel_rfl) rfl (by decide)
instance : Sz Try.prog 126 1 := Sz.mk' (by kernel_rfl)
instance : One Try.prog 126 := One.mk' Try.underlying126 rfl
instance : Zc Try.prog 126 [(.nilFunc)] := Zc.mk' (z := .nilFunc) (by kernel_rfl) rfl
instance : ElT Try.prog 126 1 8 := ElT.mk' (z := .nilFunc) (by kernel_rfl) rfl (by decide)
instance : Sz Try.prog 127 1 := Sz.mk' (by kernel_rfl)
instance : One Try.prog 127 := One.mk' Try.underlying127 rfl
instance : Zc Try.prog 127 [(.nilFunc)] := Zc.mk' (z := .nilFunc) (by kernel_rfl) rfl
instance : ElT Try.prog 127 1 8 := ElT.mk' (z := .nilFunc) (by kernel_rfl) rfl (by decide)
instance : Sz Try.prog 128 1 := Sz.mk' (by kernel_rfl)
instance : One Try.prog 128 := One.mk' Try.underlying128 rfl
instance : Zc Try.prog 128 [(.nilFunc)] := Zc.mk' (z := .nilFunc) (by kernel_rfl) rfl
instance : ElT Try.prog 128 1 8 := ElT.mk' (z := .nilFunc) (by kernel_rfl) rfl (by decide)
instance : Sz Try.prog 129 1 := Sz.mk' (by kernel_rfl)
instance : One Try.prog 129 := One.mk' Try.underlying129 rfl
instance : Zc Try.prog 129 [(.nilFunc)] := Zc.mk' (z := .nilFunc) (by kernel_rfl) rfl
instance : ElT Try.prog 129 1 8 := ElT.mk' (z := .nilFunc) (by kernel_rfl) rfl (by decide)
instance : Sz Try.prog 130 1 := Sz.mk' (by kernel_rfl)
instance : IntT Try.prog 130 .i64 := ⟨Try.underlying130⟩
instance : One Try.prog 130 := One.mk' Try.underlying130 rfl
instance : Zc Try.prog 130 [(.int .i64 0)] := Zc.mk' (z := .int .i64 0) (by kernel_rfl) rfl
instance : ElT Try.prog 130 1 8 := ElT.mk' (z := .int .i64 0) (by kernel_rfl) rfl (by decide)
instance : Sz Try.prog 132 1 := Sz.mk' (by kernel_rfl)
instance : One Try.prog 132 := One.mk' Try.underlying132 rfl
instance : Zc Try.prog 132 [(.nilFunc)] := Zc.mk' (z := .nilFunc) (by kernel_rfl) rfl
instance : ElT Try.prog 132 1 8 := ElT.mk' (z := .nilFunc) (by kernel_rfl) rfl (by decide)
instance : Sz Try.prog 133 1 := Sz.mk' (by kernel_rfl)
instance : One Try.prog 133 := One.mk' Try.underlying133 rfl
instance : Zc Try.prog 133 [(.nilFunc)] := Zc.mk' (z := .nilFunc) (by kernel_rfl) rfl
instance : ElT Try.prog 133 1 8 := ElT.mk' (z := .nilFunc) (by kernel_rfl) rfl (by decide)
instance : Sz Try.prog 134 1 := Sz.mk' (by kernel_rfl)
instance : One Try.prog 134 := One.mk' Try.underlying134 rfl
instance : Zc Try.prog 134 [(.nilFunc)] := Zc.mk' (z := .nilFunc) (by kernel_rfl) rfl
instance : ElT Try.prog 134 1 8 := ElT.mk' (z := .nilFunc) (by kernel_rfl) rfl (by decide)
instance : Sz Try.prog 136 1 := Sz.mk' (by kernel_rfl)
instance : One Try.prog 136 := One.mk' Try.underlying136 rfl
instance : Zc Try.prog 136 [(.nilFunc)] := Zc.mk' (z := .nilFunc) (by kernel_rfl) rfl
instance : ElT Try.prog 136 1 8 := ElT.mk' (z := .nilFunc) (by kernel_rfl) rfl (by decide)
instance : Sz Try.prog 137 1 := Sz.mk' (by kernel_rfl)
instance : One Try.prog 137 := One.mk' Try.underlying137 rfl
instance : Zc Try.prog 137 [(.nilFunc)] := Zc.mk' (z := .nilFunc) (by kernel_rfl) rfl
instance : ElT Try.prog 137 1 8 := ElT.mk' (z := .nilFunc) (by kernel_rfl) rfl (by decide)
instance : Sz Try.prog 138 1 := Sz.mk' (by kernel_rfl)
instance : IntT Try.prog 138 .u64 := ⟨Try.underlying138⟩
instance : One Try.prog 138 := One.mk' Try.underlying138 rfl
instance : Zc Try.prog 138 [(.int .u64 0)] := Zc.mk' (z := .int .u64 0) (by kernel_rfl) rfl
instance : ElT Try.prog 138 1 8 := ElT.mk' (z := .int .u64 0) (by kernel_rfl) rfl (by decide)
instance : Sz Try.prog 139 1 := Sz.mk' (by kernel_rfl)
instance : One Try.prog 139 := One.mk' Try.underlying139 rfl
instance : Zc Try.prog 139 [(.nilFunc)] := Zc.mk' (z := .nilFunc) (by kernel_rfl) rfl
instance : ElT Try.prog 139 1 8 := ElT.mk' (z := .nilFunc) (by kernel_rfl) rfl (by decide)
instance : Sz Try.prog 140 1 := Sz.mk' (by kernel_rfl)
instance : One Try.prog 140 := One.mk' Try.underlying140 rfl
instance : Zc Try.prog 140 [(.nilFunc)] := Zc.mk' (z := .nilFunc) (by kernel_rfl) rfl
instance : ElT Try.prog 140 1 8 := ElT.mk' (z := .nilFunc) (by kernel_rfl) rfl (by decide)
instance : Sz Try.prog 141 1 := Sz.mk' (by kernel_rfl)
instance : PtrT Try.prog 141 3 := ⟨Try.underlying141⟩
instance : One Try.prog 141 := One.mk' Try.underlying141 rfl
instance : Zc Try.prog 141 [(.pointer none)] := Zc.mk' (z := .pointer none) (by kernel_rfl) rfl
instance : ElT Try.prog 141 1 8 := ElT.mk' (z := .pointer none) (by kernel_rfl) rfl (by decide)
instance : Sz Try.prog 142 1 := Sz.mk' (by kernel_rfl)
instance : One Try.prog 142 := One.mk' Try.underlying142 rfl
instance : Zc Try.prog 142 [(.nilFunc)] := Zc.mk' (z := .nilFunc) (by kernel_rfl) rfl
instance : ElT Try.prog 142 1 8 := ElT.mk' (z := .nilFunc) (by kernel_rfl) rfl (by decide)
instance : Sz Try.prog 143 1 := Sz.mk' (by kernel_rfl)
instance : PtrT Try.prog 143 138 := ⟨Try.underlying143⟩
instance : One Try.prog 143 := One.mk' Try.underlying143 rfl
instance : Zc Try.prog 143 [(.pointer none)] := Zc.mk' (z := .pointer none) (by kernel_rfl) rfl
instance : ElT Try.prog 143 1 8 := ElT.mk' (z := .pointer none) (by kernel_rfl) rfl (by decide)
instance : Sz Try.prog 145 1 := Sz.mk' (by kernel_rfl)
instance : One Try.prog 145 := One.mk' Try.underlying145 rfl
instance : Zc Try.prog 145 [(.nilFunc)] := Zc.mk' (z := .nilFunc) (by kernel_rfl) rfl
instance : ElT Try.prog 145 1 8 := ElT.mk' (z := .nilFunc) (by kernel_rfl) rfl (by decide)
instance : Sz Try.prog 146 4 := Sz.mk' (by kernel_rfl)
instance : Ag Try.prog 146 := Ag.mk' Try.underlying146 rfl
instance : Fld Try.prog 146 0 0 17 := Fld.mk' Try.underlying146 rfl
instance : Fld Try.prog 146 1 1 17 := Fld.mk' Try.underlying146 rfl
instance : Fld Try.prog 146 2 2 17 := Fld.mk' Try.underlying146 rfl
instance : Fld Try.prog 146 3 3 9 := Fld.mk' Try.underlying146 rfl
instance : Zc Try.prog 146 [(.pointer none), (.pointer none), (.pointer none), (.string ByteArray.empty)] := Zc.mk' (z := .agg #[(.pointer none), (.pointer none), (.pointer none), (.string ByteArray.empty)]) (by kernel_rfl) rfl
instance : StT Try.prog 146 [(0, 1), (1, 1), (2, 1), (3, 1)] [(.pointer none), (.pointer none), (.pointer none), (.string ByteArray.empty)] := StT.mk' (z := .agg #[(.pointer none), (.pointer none), (.pointer none), (.string ByteArray.empty)]) Try.underlying146 (by kernel_rfl) rfl (by kernel_rfl)
instance : ElT Try.prog 146 4 40 := ElT.mk' (z := .agg #[(.pointer none), (.pointer none), (.pointer none), (.string ByteArray.empty)]) (by kernel_rfl) rfl (by decide)
instance : Sz Try.prog 147 4 := Sz.mk' (by kernel_rfl)
instance : Ag Try.prog 147 := Ag.mk' Try.underlying147 rfl
instance : Fld Try.prog 147 0 0 17 := Fld.mk' Try.underlying147 rfl
instance : Fld Try.prog 147 1 1 17 := Fld.mk' Try.underlying147 rfl
instance : Fld Try.prog 147 2 2 17 := Fld.mk' Try.underlying147 rfl
instance : Fld Try.prog 147 3 3 9 := Fld.mk' Try.underlying147 rfl
instance : Zc Try.prog 147 [(.pointer none), (.pointer none), (.pointer none), (.string ByteArray.empty)] := Zc.mk' (z := .agg #[(.pointer none), (.pointer none), (.pointer none), (.string ByteArray.empty)]) (by kernel_rfl) rfl
instance : StT Try.prog 147 [(0, 1), (1, 1), (2, 1), (3, 1)] [(.pointer none), (.pointer none), (.pointer none), (.string ByteArray.empty)] := StT.mk' (z := .agg #[(.pointer none), (.pointer none), (.pointer none), (.string ByteArray.empty)]) Try.underlying147 (by kernel_rfl) rfl (by kernel_rfl)
instance : ElT Try.prog 147 4 40 := ElT.mk' (z := .agg #[(.pointer none), (.pointer none), (.pointer none), (.string ByteArray.empty)]) (by kernel_rfl) rfl (by decide)
instance : Sz Try.prog 148 0 := Sz.mk' (by kernel_rfl)
instance : ArrT Try.prog 148 0 16 := ⟨Try.underlying148⟩
instance : Ag Try.prog 148 := Ag.mk' Try.underlying148 rfl
instance : Zc Try.prog 148 [] := Zc.mk' (z := .agg #[]) (by kernel_rfl) rfl
instance : Sz Try.prog 149 0 := Sz.mk' (by kernel_rfl)
instance : Ag Try.prog 149 := Ag.mk' Try.underlying149 rfl
instance : Fld Try.prog 149 0 0 148 := Fld.mk' Try.underlying149 rfl
instance : Zc Try.prog 149 [] := Zc.mk' (z := .agg #[]) (by kernel_rfl) rfl
instance : StT Try.prog 149 [(0, 0)] [] := StT.mk' (z := .agg #[]) Try.underlying149 (by kernel_rfl) rfl (by kernel_rfl)
instance : Sz Try.prog 150 0 := Sz.mk' (by kernel_rfl)
instance : Ag Try.prog 150 := Ag.mk' Try.underlying150 rfl
instance : Fld Try.prog 150 0 0 148 := Fld.mk' Try.underlying150 rfl
instance : Zc Try.prog 150 [] := Zc.mk' (z := .agg #[]) (by kernel_rfl) rfl
instance : StT Try.prog 150 [(0, 0)] [] := StT.mk' (z := .agg #[]) Try.underlying150 (by kernel_rfl) rfl (by kernel_rfl)
instance : Sz Try.prog 151 1 := Sz.mk' (by kernel_rfl)
instance : IntT Try.prog 151 .u8 := ⟨Try.underlying151⟩
instance : One Try.prog 151 := One.mk' Try.underlying151 rfl
instance : Zc Try.prog 151 [(.int .u8 0)] := Zc.mk' (z := .int .u8 0) (by kernel_rfl) rfl
instance : ElT Try.prog 151 1 1 := ElT.mk' (z := .int .u8 0) (by kernel_rfl) rfl (by decide)
instance : Sz Try.prog 152 1 := Sz.mk' (by kernel_rfl)
instance : IntT Try.prog 152 .u8 := ⟨Try.underlying152⟩
instance : One Try.prog 152 := One.mk' Try.underlying152 rfl
instance : Zc Try.prog 152 [(.int .u8 0)] := Zc.mk' (z := .int .u8 0) (by kernel_rfl) rfl
instance : ElT Try.prog 152 1 1 := ElT.mk' (z := .int .u8 0) (by kernel_rfl) rfl (by decide)
instance : Sz Try.prog 153 1 := Sz.mk' (by kernel_rfl)
instance : One Try.prog 153 := One.mk' Try.underlying153 rfl
instance : Zc Try.prog 153 [(.nilFunc)] := Zc.mk' (z := .nilFunc) (by kernel_rfl) rfl
instance : ElT Try.prog 153 1 8 := ElT.mk' (z := .nilFunc) (by kernel_rfl) rfl (by decide)
instance : Sz Try.prog 154 1 := Sz.mk' (by kernel_rfl)
instance : PtrT Try.prog 154 5 := ⟨Try.underlying154⟩
instance : One Try.prog 154 := One.mk' Try.underlying154 rfl
instance : Zc Try.prog 154 [(.pointer none)] := Zc.mk' (z := .pointer none) (by kernel_rfl) rfl
instance : ElT Try.prog 154 1 8 := ElT.mk' (z := .pointer none) (by kernel_rfl) rfl (by decide)
instance : Sz Try.prog 155 1 := Sz.mk' (by kernel_rfl)
instance : IntT Try.prog 155 .i32 := ⟨Try.underlying155⟩
instance : One Try.prog 155 := One.mk' Try.underlying155 rfl
instance : Zc Try.prog 155 [(.int .i32 0)] := Zc.mk' (z := .int .i32 0) (by kernel_rfl) rfl
instance : ElT Try.prog 155 1 4 := ElT.mk' (z := .int .i32 0) (by kernel_rfl) rfl (by decide)
instance : Sz Try.prog 156 1 := Sz.mk' (by kernel_rfl)
instance : IntT Try.prog 156 .i32 := ⟨Try.underlying156⟩
instance : One Try.prog 156 := One.mk' Try.underlying156 rfl
instance : Zc Try.prog 156 [(.int .i32 0)] := Zc.mk' (z := .int .i32 0) (by kernel_rfl) rfl
instance : ElT Try.prog 156 1 4 := ElT.mk' (z := .int .i32 0) (by kernel_rfl) rfl (by decide)
instance : Sz Try.prog 157 11 := Sz.mk' (by kernel_rfl)
instance : Ag Try.prog 157 := Ag.mk' Try.underlying157 rfl
instance : Fld Try.prog 157 0 0 12 := Fld.mk' Try.underlying157 rfl
instance : Fld Try.prog 157 1 1 12 := Fld.mk' Try.underlying157 rfl
instance : Fld Try.prog 157 2 2 69 := Fld.mk' Try.underlying157 rfl
instance : Fld Try.prog 157 3 3 151 := Fld.mk' Try.underlying157 rfl
instance : Fld Try.prog 157 4 4 5 := Fld.mk' Try.underlying157 rfl
instance : Fld Try.prog 157 5 5 5 := Fld.mk' Try.underlying157 rfl
instance : Fld Try.prog 157 6 6 152 := Fld.mk' Try.underlying157 rfl
instance : Fld Try.prog 157 7 7 153 := Fld.mk' Try.underlying157 rfl
instance : Fld Try.prog 157 8 8 154 := Fld.mk' Try.underlying157 rfl
instance : Fld Try.prog 157 9 9 155 := Fld.mk' Try.underlying157 rfl
instance : Fld Try.prog 157 10 10 156 := Fld.mk' Try.underlying157 rfl
instance : Zc Try.prog 157 [(.int .u64 0), (.int .u64 0), (.int .u32 0), (.int .u8 0), (.int .u8 0), (.int .u8 0), (.int .u8 0), (.nilFunc), (.pointer none), (.int .i32 0), (.int .i32 0)] := Zc.mk' (z := .agg #[(.int .u64 0), (.int .u64 0), (.int .u32 0), (.int .u8 0), (.int .u8 0), (.int .u8 0), (.int .u8 0), (.nilFunc), (.pointer none), (.int .i32 0), (.int .i32 0)]) (by kernel_rfl) rfl
instance : StT Try.prog 157 [(0, 1), (1, 1), (2, 1), (3, 1), (4, 1), (5, 1), (6, 1), (7, 1), (8, 1), (9, 1), (10, 1)] [(.int .u64 0), (.int .u64 0), (.int .u32 0), (.int .u8 0), (.int .u8 0), (.int .u8 0), (.int .u8 0), (.nilFunc), (.pointer none), (.int .i32 0), (.int .i32 0)] := StT.mk' (z := .agg #[(.int .u64 0), (.int .u64 0), (.int .u32 0), (.int .u8 0), (.int .u8 0), (.int .u8 0), (.int .u8 0), (.nilFunc), (.pointer none), (.int .i32 0), (.int .i32 0)]) Try.underlying157 (by kernel_rfl) rfl (by kernel_rfl)
instance : ElT Try.prog 157 11 48 := ElT.mk' (z := .agg #[(.int .u64 0), (.int .u64 0), (.int .u32 0), (.int .u8 0), (.int .u8 0), (.int .u8 0), (.int .u8 0), (.nilFunc), (.pointer none), (.int .i32 0), (.int .i32 0)]) (by kernel_rfl) rfl (by decide)
instance : Sz Try.prog 158 11 := Sz.mk' (by kernel_rfl)
instance : Ag Try.prog 158 := Ag.mk' Try.underlying158 rfl
instance : Fld Try.prog 158 0 0 12 := Fld.mk' Try.underlying158 rfl
instance : Fld Try.prog 158 1 1 12 := Fld.mk' Try.underlying158 rfl
instance : Fld Try.prog 158 2 2 69 := Fld.mk' Try.underlying158 rfl
instance : Fld Try.prog 158 3 3 151 := Fld.mk' Try.underlying158 rfl
instance : Fld Try.prog 158 4 4 5 := Fld.mk' Try.underlying158 rfl
instance : Fld Try.prog 158 5 5 5 := Fld.mk' Try.underlying158 rfl
instance : Fld Try.prog 158 6 6 152 := Fld.mk' Try.underlying158 rfl
instance : Fld Try.prog 158 7 7 153 := Fld.mk' Try.underlying158 rfl
instance : Fld Try.prog 158 8 8 154 := Fld.mk' Try.underlying158 rfl
instance : Fld Try.prog 158 9 9 155 := Fld.mk' Try.underlying158 rfl
instance : Fld Try.prog 158 10 10 156 := Fld.mk' Try.underlying158 rfl
instance : Zc Try.prog 158 [(.int .u64 0), (.int .u64 0), (.int .u32 0), (.int .u8 0), (.int .u8 0), (.int .u8 0), (.int .u8 0), (.nilFunc), (.pointer none), (.int .i32 0), (.int .i32 0)] := Zc.mk' (z := .agg #[(.int .u64 0), (.int .u64 0), (.int .u32 0), (.int .u8 0), (.int .u8 0), (.int .u8 0), (.int .u8 0), (.nilFunc), (.pointer none), (.int .i32 0), (.int .i32 0)]) (by kernel_rfl) rfl
instance : StT Try.prog 158 [(0, 1), (1, 1), (2, 1), (3, 1), (4, 1), (5, 1), (6, 1), (7, 1), (8, 1), (9, 1), (10, 1)] [(.int .u64 0), (.int .u64 0), (.int .u32 0), (.int .u8 0), (.int .u8 0), (.int .u8 0), (.int .u8 0), (.nilFunc), (.pointer none), (.int .i32 0), (.int .i32 0)] := StT.mk' (z := .agg #[(.int .u64 0), (.int .u64 0), (.int .u32 0), (.int .u8 0), (.int .u8 0), (.int .u8 0), (.int .u8 0), (.nilFunc), (.pointer none), (.int .i32 0), (.int .i32 0)]) Try.underlying158 (by kernel_rfl) rfl (by kernel_rfl)
instance : ElT Try.prog 158 11 48 := ElT.mk' (z := .agg #[(.int .u64 0), (.int .u64 0), (.int .u32 0), (.int .u8 0), (.int .u8 0), (.int .u8 0), (.int .u8 0), (.nilFunc), (.pointer none), (.int .i32 0), (.int .i32 0)]) (by kernel_rfl) rfl (by decide)
instance : Sz Try.prog 159 1 := Sz.mk' (by kernel_rfl)
instance : One Try.prog 159 := One.mk' Try.underlying159 rfl
instance : Zc Try.prog 159 [(.pointer none)] := Zc.mk' (z := .pointer none) (by kernel_rfl) rfl
instance : ElT Try.prog 159 1 8 := ElT.mk' (z := .pointer none) (by kernel_rfl) rfl (by decide)
instance : Enters Try.prog 3 := Enters.mk' Try.func3 (by kernel_rfl) (by kernel_rfl)
instance : Enters Try.prog 4 := Enters.mk' Try.func4 (by kernel_rfl) (by kernel_rfl)
instance : Enters Try.prog 5 := Enters.mk' Try.func5 (by kernel_rfl) (by kernel_rfl)
instance : Enters Try.prog 6 := Enters.mk' Try.func6 (by kernel_rfl) (by kernel_rfl)
instance : Enters Try.prog 7 := Enters.mk' Try.func7 (by kernel_rfl) (by kernel_rfl)
instance : Enters Try.prog 8 := Enters.mk' Try.func8 (by kernel_rfl) (by kernel_rfl)
instance : Enters Try.prog 9 := Enters.mk' Try.func9 (by kernel_rfl) (by kernel_rfl)
instance : Enters Try.prog 10 := Enters.mk' Try.func10 (by kernel_rfl) (by kernel_rfl)
instance : Enters Try.prog 11 := Enters.mk' Try.func11 (by kernel_rfl) (by kernel_rfl)
instance : Enters Try.prog 12 := Enters.mk' Try.func12 (by kernel_rfl) (by kernel_rfl)
instance : Enters Try.prog 13 := Enters.mk' Try.func13 (by kernel_rfl) (by kernel_rfl)
instance : Enters Try.prog 14 := Enters.mk' Try.func14 (by kernel_rfl) (by kernel_rfl)
instance : Enters Try.prog 15 := Enters.mk' Try.func15 (by kernel_rfl) (by kernel_rfl)
instance : Enters Try.prog 16 := Enters.mk' Try.func16 (by kernel_rfl) (by kernel_rfl)
instance : Enters Try.prog 17 := Enters.mk' Try.func17 (by kernel_rfl) (by kernel_rfl)
instance : Enters Try.prog 18 := Enters.mk' Try.func18 (by kernel_rfl) (by kernel_rfl)
instance : Enters Try.prog 19 := Enters.mk' Try.func19 (by kernel_rfl) (by kernel_rfl)
instance : Enters Try.prog 20 := Enters.mk' Try.func20 (by kernel_rfl) (by kernel_rfl)
instance : Enters Try.prog 21 := Enters.mk' Try.func21 (by kernel_rfl) (by kernel_rfl)
instance : Enters Try.prog 22 := Enters.mk' Try.func22 (by kernel_rfl) (by kernel_rfl)
instance : Enters Try.prog 23 := Enters.mk' Try.func23 (by kernel_rfl) (by kernel_rfl)
instance : Enters Try.prog 24 := Enters.mk' Try.func24 (by kernel_rfl) (by kernel_rfl)
instance : Enters Try.prog 25 := Enters.mk' Try.func25 (by kernel_rfl) (by kernel_rfl)
instance : Enters Try.prog 26 := Enters.mk' Try.func26 (by kernel_rfl) (by kernel_rfl)
instance : Enters Try.prog 27 := Enters.mk' Try.func27 (by kernel_rfl) (by kernel_rfl)
instance : Enters Try.prog 28 := Enters.mk' Try.func28 (by kernel_rfl) (by kernel_rfl)
instance : Enters Try.prog 29 := Enters.mk' Try.func29 (by kernel_rfl) (by kernel_rfl)
instance : Enters Try.prog 30 := Enters.mk' Try.func30 (by kernel_rfl) (by kernel_rfl)
instance : Enters Try.prog 31 := Enters.mk' Try.func31 (by kernel_rfl) (by kernel_rfl)
instance : Enters Try.prog 32 := Enters.mk' Try.func32 (by kernel_rfl) (by kernel_rfl)
instance : Enters Try.prog 33 := Enters.mk' Try.func33 (by kernel_rfl) (by kernel_rfl)
instance : Enters Try.prog 34 := Enters.mk' Try.func34 (by kernel_rfl) (by kernel_rfl)
instance : Enters Try.prog 35 := Enters.mk' Try.func35 (by kernel_rfl) (by kernel_rfl)
instance : Enters Try.prog 36 := Enters.mk' Try.func36 (by kernel_rfl) (by kernel_rfl)
instance : Enters Try.prog 37 := Enters.mk' Try.func37 (by kernel_rfl) (by kernel_rfl)
instance : Enters Try.prog 38 := Enters.mk' Try.func38 (by kernel_rfl) (by kernel_rfl)
instance : Enters Try.prog 39 := Enters.mk' Try.func39 (by kernel_rfl) (by kernel_rfl)
instance : Enters Try.prog 40 := Enters.mk' Try.func40 (by kernel_rfl) (by kernel_rfl)
instance : Enters Try.prog 41 := Enters.mk' Try.func41 (by kernel_rfl) (by kernel_rfl)
instance : Enters Try.prog 42 := Enters.mk' Try.func42 (by kernel_rfl) (by kernel_rfl)
instance : Enters Try.prog 43 := Enters.mk' Try.func43 (by kernel_rfl) (by kernel_rfl)
instance : Enters Try.prog 44 := Enters.mk' Try.func44 (by kernel_rfl) (by kernel_rfl)
instance : Enters Try.prog 45 := Enters.mk' Try.func45 (by kernel_rfl) (by kernel_rfl)
instance : Enters Try.prog 46 := Enters.mk' Try.func46 (by kernel_rfl) (by kernel_rfl)
instance : Enters Try.prog 47 := Enters.mk' Try.func47 (by kernel_rfl) (by kernel_rfl)
instance : Enters Try.prog 48 := Enters.mk' Try.func48 (by kernel_rfl) (by kernel_rfl)
instance : Enters Try.prog 49 := Enters.mk' Try.func49 (by kernel_rfl) (by kernel_rfl)
instance : Enters Try.prog 50 := Enters.mk' Try.func50 (by kernel_rfl) (by kernel_rfl)
instance : Enters Try.prog 51 := Enters.mk' Try.func51 (by kernel_rfl) (by kernel_rfl)
instance : Enters Try.prog 52 := Enters.mk' Try.func52 (by kernel_rfl) (by kernel_rfl)
instance : Enters Try.prog 53 := Enters.mk' Try.func53 (by kernel_rfl) (by kernel_rfl)
instance : Enters Try.prog 54 := Enters.mk' Try.func54 (by kernel_rfl) (by kernel_rfl)
instance : Enters Try.prog 55 := Enters.mk' Try.func55 (by kernel_rfl) (by kernel_rfl)
instance : Enters Try.prog 56 := Enters.mk' Try.func56 (by kernel_rfl) (by kernel_rfl)
instance : Enters Try.prog 57 := Enters.mk' Try.func57 (by kernel_rfl) (by kernel_rfl)
instance : Enters Try.prog 58 := Enters.mk' Try.func58 (by kernel_rfl) (by kernel_rfl)
instance : Enters Try.prog 59 := Enters.mk' Try.func59 (by kernel_rfl) (by kernel_rfl)
instance : Enters Try.prog 60 := Enters.mk' Try.func60 (by kernel_rfl) (by kernel_rfl)
instance : Enters Try.prog 61 := Enters.mk' Try.func61 (by kernel_rfl) (by kernel_rfl)
instance : Enters Try.prog 62 := Enters.mk' Try.func62 (by kernel_rfl) (by kernel_rfl)
instance : Enters Try.prog 63 := Enters.mk' Try.func63 (by kernel_rfl) (by kernel_rfl)
instance : Enters Try.prog 64 := Enters.mk' Try.func64 (by kernel_rfl) (by kernel_rfl)
instance : Enters Try.prog 65 := Enters.mk' Try.func65 (by kernel_rfl) (by kernel_rfl)
instance : Enters Try.prog 66 := Enters.mk' Try.func66 (by kernel_rfl) (by kernel_rfl)
instance : Enters Try.prog 67 := Enters.mk' Try.func67 (by kernel_rfl) (by kernel_rfl)
instance : Enters Try.prog 68 := Enters.mk' Try.func68 (by kernel_rfl) (by kernel_rfl)
instance : Enters Try.prog 69 := Enters.mk' Try.func69 (by kernel_rfl) (by kernel_rfl)
instance : Enters Try.prog 70 := Enters.mk' Try.func70 (by kernel_rfl) (by kernel_rfl)
instance : Enters Try.prog 71 := Enters.mk' Try.func71 (by kernel_rfl) (by kernel_rfl)
instance : Enters Try.prog 72 := Enters.mk' Try.func72 (by kernel_rfl) (by kernel_rfl)
instance : Enters Try.prog 73 := Enters.mk' Try.func73 (by kernel_rfl) (by kernel_rfl)
instance : Enters Try.prog 74 := Enters.mk' Try.func74 (by kernel_rfl) (by kernel_rfl)
instance : Enters Try.prog 75 := Enters.mk' Try.func75 (by kernel_rfl) (by kernel_rfl)
instance : Enters Try.prog 76 := Enters.mk' Try.func76 (by kernel_rfl) (by kernel_rfl)
instance : Enters Try.prog 77 := Enters.mk' Try.func77 (by kernel_rfl) (by kernel_rfl)
instance : Enters Try.prog 78 := Enters.mk' Try.func78 (by kernel_rfl) (by kernel_rfl)
instance : Enters Try.prog 79 := Enters.mk' Try.func79 (by kernel_rfl) (by kernel_rfl)
instance : Enters Try.prog 80 := Enters.mk' Try.func80 (by kernel_rfl) (by kernel_rfl)
instance : Enters Try.prog 81 := Enters.mk' Try.func81 (by kernel_rfl) (by kernel_rfl)
instance : Enters Try.prog 82 := Enters.mk' Try.func82 (by kernel_rfl) (by kernel_rfl)
instance : Enters Try.prog 83 := Enters.mk' Try.func83 (by kernel_rfl) (by kernel_rfl)
instance : Enters Try.prog 84 := Enters.mk' Try.func84 (by kernel_rfl) (by kernel_rfl)
instance : Enters Try.prog 85 := Enters.mk' Try.func85 (by kernel_rfl) (by kernel_rfl)
instance : Enters Try.prog 86 := Enters.mk' Try.func86 (by kernel_rfl) (by kernel_rfl)
instance : Enters Try.prog 87 := Enters.mk' Try.func87 (by kernel_rfl) (by kernel_rfl)
instance : Enters Try.prog 88 := Enters.mk' Try.func88 (by kernel_rfl) (by kernel_rfl)
instance : Enters Try.prog 89 := Enters.mk' Try.func89 (by kernel_rfl) (by kernel_rfl)
instance : Enters Try.prog 90 := Enters.mk' Try.func90 (by kernel_rfl) (by kernel_rfl)
instance : Enters Try.prog 91 := Enters.mk' Try.func91 (by kernel_rfl) (by kernel_rfl)
instance : Enters Try.prog 92 := Enters.mk' Try.func92 (by kernel_rfl) (by kernel_rfl)
instance : Enters Try.prog 93 := Enters.mk' Try.func93 (by kernel_rfl) (by kernel_rfl)
instance : Enters Try.prog 94 := Enters.mk' Try.func94 (by kernel_rfl) (by kernel_rfl)
instance : Enters Try.prog 95 := Enters.mk' Try.func95 (by kernel_rfl) (by kernel_rfl)
instance : Enters Try.prog 96 := Enters.mk' Try.func96 (by kernel_rfl) (by kernel_rfl)
instance : Enters Try.prog 97 := Enters.mk' Try.func97 (by kernel_rfl) (by kernel_rfl)
instance : Enters Try.prog 98 := Enters.mk' Try.func98 (by kernel_rfl) (by kernel_rfl)
instance : Enters Try.prog 99 := Enters.mk' Try.func99 (by kernel_rfl) (by kernel_rfl)
instance : Enters Try.prog 100 := Enters.mk' Try.func100 (by kernel_rfl) (by kernel_rfl)
instance : Enters Try.prog 101 := Enters.mk' Try.func101 (by kernel_rfl) (by kernel_rfl)
instance : Enters Try.prog 102 := Enters.mk' Try.func102 (by kernel_rfl) (by kernel_rfl)
instance : Enters Try.prog 103 := Enters.mk' Try.func103 (by kernel_rfl) (by kernel_rfl)
instance : Enters Try.prog 104 := Enters.mk' Try.func104 (by kernel_rfl) (by kernel_rfl)
instance : Enters Try.prog 105 := Enters.mk' Try.func105 (by kernel_rfl) (by kernel_rfl)
theorem mixed : Try.prog.follows .mixedOrders = true := by kernel_rfl
end Go.Lx
