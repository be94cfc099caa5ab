/- The types and functions of this seat's translation, as instances of the own layer's classes. Printed by gen_ty.py. -/
import Derived.Test.YtkjhepgohacmiaaGreatProg
import Derived.Test.YtkjhepgohacmiaaGreatXf
import Derived.KernelRfl
namespace Go.Lx
open Go.Proofs
set_option maxRecDepth 100000
instance : Sz Tryz.prog 1 1 := Sz.mk' (by kernel_rfl)
instance : One Tryz.prog 1 := One.mk' Tryz.underlying1 rfl
instance : Zc Tryz.prog 1 [(.nilFunc)] := Zc.mk' (z := .nilFunc) (by kernel_rfl) rfl
instance : ElT Tryz.prog 1 1 8 := ElT.mk' (z := .nilFunc) (by kernel_rfl) rfl (by decide)
instance : Sz Tryz.prog 2 1 := Sz.mk' (by kernel_rfl)
instance : IntT Tryz.prog 2 .i64 := ⟨Tryz.underlying2⟩
instance : One Tryz.prog 2 := One.mk' Tryz.underlying2 rfl
instance : Zc Tryz.prog 2 [(.int .i64 0)] := Zc.mk' (z := .int .i64 0) (by kernel_rfl) rfl
instance : ElT Tryz.prog 2 1 8 := ElT.mk' (z := .int .i64 0) (by kernel_rfl) rfl (by decide)
instance : Sz Tryz.prog 3 1 := Sz.mk' (by kernel_rfl)
instance : IntT Tryz.prog 3 .i64 := ⟨Tryz.underlying3⟩
instance : One Tryz.prog 3 := One.mk' Tryz.underlying3 rfl
instance : Zc Tryz.prog 3 [(.int .i64 0)] := Zc.mk' (z := .int .i64 0) (by kernel_rfl) rfl
instance : ElT Tryz.prog 3 1 8 := ElT.mk' (z := .int .i64 0) (by kernel_rfl) rfl (by decide)
instance : Sz Tryz.prog 4 1 := Sz.mk' (by kernel_rfl)
instance : BoolT Tryz.prog 4 := ⟨Tryz.underlying4⟩
instance : One Tryz.prog 4 := One.mk' Tryz.underlying4 rfl
instance : Zc Tryz.prog 4 [(.bool false)] := Zc.mk' (z := .bool false) (by kernel_rfl) rfl
instance : ElT Tryz.prog 4 1 1 := ElT.mk' (z := .bool false) (by kernel_rfl) rfl (by decide)
instance : Sz Tryz.prog 5 1 := Sz.mk' (by kernel_rfl)
instance : IntT Tryz.prog 5 .u8 := ⟨Tryz.underlying5⟩
instance : One Tryz.prog 5 := One.mk' Tryz.underlying5 rfl
instance : Zc Tryz.prog 5 [(.int .u8 0)] := Zc.mk' (z := .int .u8 0) (by kernel_rfl) rfl
instance : ElT Tryz.prog 5 1 1 := ElT.mk' (z := .int .u8 0) (by kernel_rfl) rfl (by decide)
instance : Sz Tryz.prog 6 1 := Sz.mk' (by kernel_rfl)
instance : IntT Tryz.prog 6 .u8 := ⟨Tryz.underlying6⟩
instance : One Tryz.prog 6 := One.mk' Tryz.underlying6 rfl
instance : Zc Tryz.prog 6 [(.int .u8 0)] := Zc.mk' (z := .int .u8 0) (by kernel_rfl) rfl
instance : ElT Tryz.prog 6 1 1 := ElT.mk' (z := .int .u8 0) (by kernel_rfl) rfl (by decide)
instance : Sz Tryz.prog 7 4 := Sz.mk' (by kernel_rfl)
instance : Ag Tryz.prog 7 := Ag.mk' Tryz.underlying7 rfl
instance : Fld Tryz.prog 7 0 0 2 := Fld.mk' Tryz.underlying7 rfl
instance : Fld Tryz.prog 7 1 1 3 := Fld.mk' Tryz.underlying7 rfl
instance : Fld Tryz.prog 7 2 2 4 := Fld.mk' Tryz.underlying7 rfl
instance : Fld Tryz.prog 7 3 3 6 := Fld.mk' Tryz.underlying7 rfl
instance : Zc Tryz.prog 7 [(.int .i64 0), (.int .i64 0), (.bool false), (.int .u8 0)] := Zc.mk' (z := .agg #[(.int .i64 0), (.int .i64 0), (.bool false), (.int .u8 0)]) (by kernel_rfl) rfl
instance : StT Tryz.prog 7 [(0, 1), (1, 1), (2, 1), (3, 1)] [(.int .i64 0), (.int .i64 0), (.bool false), (.int .u8 0)] := StT.mk' (z := .agg #[(.int .i64 0), (.int .i64 0), (.bool false), (.int .u8 0)]) Tryz.underlying7 (by kernel_rfl) rfl (by kernel_rfl)
instance : ElT Tryz.prog 7 4 24 := ElT.mk' (z := .agg #[(.int .i64 0), (.int .i64 0), (.bool false), (.int .u8 0)]) (by kernel_rfl) rfl (by decide)
instance : Sz Tryz.prog 8 4 := Sz.mk' (by kernel_rfl)
instance : Ag Tryz.prog 8 := Ag.mk' Tryz.underlying8 rfl
instance : Fld Tryz.prog 8 0 0 2 := Fld.mk' Tryz.underlying8 rfl
instance : Fld Tryz.prog 8 1 1 3 := Fld.mk' Tryz.underlying8 rfl
instance : Fld Tryz.prog 8 2 2 4 := Fld.mk' Tryz.underlying8 rfl
instance : Fld Tryz.prog 8 3 3 6 := Fld.mk' Tryz.underlying8 rfl
instance : Zc Tryz.prog 8 [(.int .i64 0), (.int .i64 0), (.bool false), (.int .u8 0)] := Zc.mk' (z := .agg #[(.int .i64 0), (.int .i64 0), (.bool false), (.int .u8 0)]) (by kernel_rfl) rfl
instance : StT Tryz.prog 8 [(0, 1), (1, 1), (2, 1), (3, 1)] [(.int .i64 0), (.int .i64 0), (.bool false), (.int .u8 0)] := StT.mk' (z := .agg #[(.int .i64 0), (.int .i64 0), (.bool false), (.int .u8 0)]) Tryz.underlying8 (by kernel_rfl) rfl (by kernel_rfl)
instance : ElT Tryz.prog 8 4 24 := ElT.mk' (z := .agg #[(.int .i64 0), (.int .i64 0), (.bool false), (.int .u8 0)]) (by kernel_rfl) rfl (by decide)
instance : Sz Tryz.prog 9 1 := Sz.mk' (by kernel_rfl)
instance : StrT Tryz.prog 9 := ⟨Tryz.underlying9⟩
instance : One Tryz.prog 9 := One.mk' Tryz.underlying9 rfl
instance : Zc Tryz.prog 9 [(.string ByteArray.empty)] := Zc.mk' (z := .string ByteArray.empty) (by kernel_rfl) rfl
instance : ElT Tryz.prog 9 1 16 := ElT.mk' (z := .string ByteArray.empty) (by kernel_rfl) rfl (by decide)
instance : Sz Tryz.prog 10 1 := Sz.mk' (by kernel_rfl)
instance : StrT Tryz.prog 10 := ⟨Tryz.underlying10⟩
instance : One Tryz.prog 10 := One.mk' Tryz.underlying10 rfl
instance : Zc Tryz.prog 10 [(.string ByteArray.empty)] := Zc.mk' (z := .string ByteArray.empty) (by kernel_rfl) rfl
instance : ElT Tryz.prog 10 1 16 := ElT.mk' (z := .string ByteArray.empty) (by kernel_rfl) rfl (by decide)
instance : Sz Tryz.prog 11 1 := Sz.mk' (by kernel_rfl)
instance : StrT Tryz.prog 11 := ⟨Tryz.underlying11⟩
instance : One Tryz.prog 11 := One.mk' Tryz.underlying11 rfl
instance : Zc Tryz.prog 11 [(.string ByteArray.empty)] := Zc.mk' (z := .string ByteArray.empty) (by kernel_rfl) rfl
instance : ElT Tryz.prog 11 1 16 := ElT.mk' (z := .string ByteArray.empty) (by kernel_rfl) rfl (by decide)
instance : Sz Tryz.prog 12 1 := Sz.mk' (by kernel_rfl)
instance : IntT Tryz.prog 12 .u64 := ⟨Tryz.underlying12⟩
instance : One Tryz.prog 12 := One.mk' Tryz.underlying12 rfl
instance : Zc Tryz.prog 12 [(.int .u64 0)] := Zc.mk' (z := .int .u64 0) (by kernel_rfl) rfl
instance : ElT Tryz.prog 12 1 8 := ElT.mk' (z := .int .u64 0) (by kernel_rfl) rfl (by decide)
instance : Sz Tryz.prog 13 2 := Sz.mk' (by kernel_rfl)
instance : Ag Tryz.prog 13 := Ag.mk' Tryz.underlying13 rfl
instance : Fld Tryz.prog 13 0 0 9 := Fld.mk' Tryz.underlying13 rfl
instance : Fld Tryz.prog 13 1 1 12 := Fld.mk' Tryz.underlying13 rfl
instance : Zc Tryz.prog 13 [(.string ByteArray.empty), (.int .u64 0)] := Zc.mk' (z := .agg #[(.string ByteArray.empty), (.int .u64 0)]) (by kernel_rfl) rfl
instance : StT Tryz.prog 13 [(0, 1), (1, 1)] [(.string ByteArray.empty), (.int .u64 0)] := StT.mk' (z := .agg #[(.string ByteArray.empty), (.int .u64 0)]) Tryz.underlying13 (by kernel_rfl) rfl (by kernel_rfl)
instance : ElT Tryz.prog 13 2 24 := ElT.mk' (z := .agg #[(.string ByteArray.empty), (.int .u64 0)]) (by kernel_rfl) rfl (by decide)
instance : Sz Tryz.prog 14 2 := Sz.mk' (by kernel_rfl)
instance : Ag Tryz.prog 14 := Ag.mk' Tryz.underlying14 rfl
instance : Fld Tryz.prog 14 0 0 9 := Fld.mk' Tryz.underlying14 rfl
instance : Fld Tryz.prog 14 1 1 12 := Fld.mk' Tryz.underlying14 rfl
instance : Zc Tryz.prog 14 [(.string ByteArray.empty), (.int .u64 0)] := Zc.mk' (z := .agg #[(.string ByteArray.empty), (.int .u64 0)]) (by kernel_rfl) rfl
instance : StT Tryz.prog 14 [(0, 1), (1, 1)] [(.string ByteArray.empty), (.int .u64 0)] := StT.mk' (z := .agg #[(.string ByteArray.empty), (.int .u64 0)]) Tryz.underlying14 (by kernel_rfl) rfl (by kernel_rfl)
instance : ElT Tryz.prog 14 2 24 := ElT.mk' (z := .agg #[(.string ByteArray.empty), (.int .u64 0)]) (by kernel_rfl) rfl (by decide)
instance : Sz Tryz.prog 15 1 := Sz.mk' (by kernel_rfl)
instance : PtrT Tryz.prog 15 208 := ⟨Tryz.underlying15⟩
instance : One Tryz.prog 15 := One.mk' Tryz.underlying15 rfl
instance : Zc Tryz.prog 15 [(.pointer none)] := Zc.mk' (z := .pointer none) (by kernel_rfl) rfl
instance : ElT Tryz.prog 15 1 8 := ElT.mk' (z := .pointer none) (by kernel_rfl) rfl (by decide)
instance : Sz Tryz.prog 16 1 := Sz.mk' (by kernel_rfl)
instance : PtrT Tryz.prog 16 211 := ⟨Tryz.underlying16⟩
instance : One Tryz.prog 16 := One.mk' Tryz.underlying16 rfl
instance : Zc Tryz.prog 16 [(.pointer none)] := Zc.mk' (z := .pointer none) (by kernel_rfl) rfl
instance : ElT Tryz.prog 16 1 8 := ElT.mk' (z := .pointer none) (by kernel_rfl) rfl (by decide)
instance : Sz Tryz.prog 17 1 := Sz.mk' (by kernel_rfl)
instance : PtrT Tryz.prog 17 219 := ⟨Tryz.underlying17⟩
instance : One Tryz.prog 17 := One.mk' Tryz.underlying17 rfl
instance : Zc Tryz.prog 17 [(.pointer none)] := Zc.mk' (z := .pointer none) (by kernel_rfl) rfl
instance : ElT Tryz.prog 17 1 8 := ElT.mk' (z := .pointer none) (by kernel_rfl) rfl (by decide)
instance : Sz Tryz.prog 18 1 := Sz.mk' (by kernel_rfl)
instance : Ag Tryz.prog 18 := Ag.mk' Tryz.underlying18 rfl
instance : Fld Tryz.prog 18 0 0 17 := Fld.mk' Tryz.underlying18 rfl
instance : Zc Tryz.prog 18 [(.pointer none)] := Zc.mk' (z := .agg #[(.pointer none)]) (by kernel_rfl) rfl
instance : StT Tryz.prog 18 [(0, 1)] [(.pointer none)] := StT.mk' (z := .agg #[(.pointer none)]) Tryz.underlying18 (by kernel_rfl) rfl (by kernel_rfl)
instance : ElT Tryz.prog 18 1 8 := ElT.mk' (z := .agg #[(.pointer none)]) (by kernel_rfl) rfl (by decide)
instance : Sz Tryz.prog 19 1 := Sz.mk' (by kernel_rfl)
instance : Ag Tryz.prog 19 := Ag.mk' Tryz.underlying19 rfl
instance : Fld Tryz.prog 19 0 0 17 := Fld.mk' Tryz.underlying19 rfl
instance : Zc Tryz.prog 19 [(.pointer none)] := Zc.mk' (z := .agg #[(.pointer none)]) (by kernel_rfl) rfl
instance : StT Tryz.prog 19 [(0, 1)] [(.pointer none)] := StT.mk' (z := .agg #[(.pointer none)]) Tryz.underlying19 (by kernel_rfl) rfl (by kernel_rfl)
instance : ElT Tryz.prog 19 1 8 := ElT.mk' (z := .agg #[(.pointer none)]) (by kernel_rfl) rfl (by decide)
instance : Sz Tryz.prog 20 1 := Sz.mk' (by kernel_rfl)
instance : One Tryz.prog 20 := One.mk' Tryz.underlying20 rfl
instance : Zc Tryz.prog 20 [(.nilIface)] := Zc.mk' (z := .nilIface) (by kernel_rfl) rfl
instance : ElT Tryz.prog 20 1 16 := ElT.mk' (z := .nilIface) (by kernel_rfl) rfl (by decide)
instance : Sz Tryz.prog 21 1 := Sz.mk' (by kernel_rfl)
instance : IntT Tryz.prog 21 .i32 := ⟨Tryz.underlying21⟩
instance : One Tryz.prog 21 := One.mk' Tryz.underlying21 rfl
instance : Zc Tryz.prog 21 [(.int .i32 0)] := Zc.mk' (z := .int .i32 0) (by kernel_rfl) rfl
instance : ElT Tryz.prog 21 1 4 := ElT.mk' (z := .int .i32 0) (by kernel_rfl) rfl (by decide)
instance : Sz Tryz.prog 22 1 := Sz.mk' (by kernel_rfl)
instance : One Tryz.prog 22 := One.mk' Tryz.underlying22 rfl
instance : Zc Tryz.prog 22 [(.nilFunc)] := Zc.mk' (z := .nilFunc) (by kernel_rfl) rfl
instance : ElT Tryz.prog 22 1 8 := ElT.mk' (z := .nilFunc) (by kernel_rfl) rfl (by decide)
instance : Sz Tryz.prog 23 1 := Sz.mk' (by kernel_rfl)
instance : IntT Tryz.prog 23 .u64 := ⟨Tryz.underlying23⟩
instance : One Tryz.prog 23 := One.mk' Tryz.underlying23 rfl
instance : Zc Tryz.prog 23 [(.int .u64 0)] := Zc.mk' (z := .int .u64 0) (by kernel_rfl) rfl
instance : ElT Tryz.prog 23 1 8 := ElT.mk' (z := .int .u64 0) (by kernel_rfl) rfl (by decide)
instance : Sz Tryz.prog 24 1 := Sz.mk' (by kernel_rfl)
instance : SlT Tryz.prog 24 64 := ⟨Tryz.underlying24⟩
instance : One Tryz.prog 24 := One.mk' Tryz.underlying24 rfl
instance : Zc Tryz.prog 24 [(.slice none 0 0)] := Zc.mk' (z := .slice none 0 0) (by kernel_rfl) rfl
instance : ElT Tryz.prog 24 1 24 := ElT.mk' (z := .slice none 0 0) (by kernel_rfl) rfl (by decide)
instance : Sz Tryz.prog 25 1 := Sz.mk' (by kernel_rfl)
instance : SlT Tryz.prog 25 62 := ⟨Tryz.underlying25⟩
instance : One Tryz.prog 25 := One.mk' Tryz.underlying25 rfl
instance : Zc Tryz.prog 25 [(.slice none 0 0)] := Zc.mk' (z := .slice none 0 0) (by kernel_rfl) rfl
instance : ElT Tryz.prog 25 1 24 := ElT.mk' (z := .slice none 0 0) (by kernel_rfl) rfl (by decide)
instance : Sz Tryz.prog 26 7 := Sz.mk' (by kernel_rfl)
instance : Ag Tryz.prog 26 := Ag.mk' Tryz.underlying26 rfl
instance : Fld Tryz.prog 26 0 0 23 := Fld.mk' Tryz.underlying26 rfl
instance : Fld Tryz.prog 26 1 1 3 := Fld.mk' Tryz.underlying26 rfl
instance : Fld Tryz.prog 26 2 2 3 := Fld.mk' Tryz.underlying26 rfl
instance : Fld Tryz.prog 26 3 3 3 := Fld.mk' Tryz.underlying26 rfl
instance : Fld Tryz.prog 26 4 4 24 := Fld.mk' Tryz.underlying26 rfl
instance : Fld Tryz.prog 26 5 5 25 := Fld.mk' Tryz.underlying26 rfl
instance : Fld Tryz.prog 26 6 6 9 := Fld.mk' Tryz.underlying26 rfl
instance : Zc Tryz.prog 26 [(.int .u64 0), (.int .i64 0), (.int .i64 0), (.int .i64 0), (.slice none 0 0), (.slice none 0 0), (.string ByteArray.empty)] := Zc.mk' (z := .agg #[(.int .u64 0), (.int .i64 0), (.int .i64 0), (.int .i64 0), (.slice none 0 0), (.slice none 0 0), (.string ByteArray.empty)]) (by kernel_rfl) rfl
instance : StT Tryz.prog 26 [(0, 1), (1, 1), (2, 1), (3, 1), (4, 1), (5, 1), (6, 1)] [(.int .u64 0), (.int .i64 0), (.int .i64 0), (.int .i64 0), (.slice none 0 0), (.slice none 0 0), (.string ByteArray.empty)] := StT.mk' (z := .agg #[(.int .u64 0), (.int .i64 0), (.int .i64 0), (.int .i64 0), (.slice none 0 0), (.slice none 0 0), (.string ByteArray.empty)]) Tryz.underlying26 (by kernel_rfl) rfl (by kernel_rfl)
instance : ElT Tryz.prog 26 7 96 := ElT.mk' (z := .agg #[(.int .u64 0), (.int .i64 0), (.int .i64 0), (.int .i64 0), (.slice none 0 0), (.slice none 0 0), (.string ByteArray.empty)]) (by kernel_rfl) rfl (by decide)
instance : Sz Tryz.prog 27 7 := Sz.mk' (by kernel_rfl)
instance : Ag Tryz.prog 27 := Ag.mk' Tryz.underlying27 rfl
instance : Fld Tryz.prog 27 0 0 23 := Fld.mk' Tryz.underlying27 rfl
instance : Fld Tryz.prog 27 1 1 3 := Fld.mk' Tryz.underlying27 rfl
instance : Fld Tryz.prog 27 2 2 3 := Fld.mk' Tryz.underlying27 rfl
instance : Fld Tryz.prog 27 3 3 3 := Fld.mk' Tryz.underlying27 rfl
instance : Fld Tryz.prog 27 4 4 24 := Fld.mk' Tryz.underlying27 rfl
instance : Fld Tryz.prog 27 5 5 25 := Fld.mk' Tryz.underlying27 rfl
instance : Fld Tryz.prog 27 6 6 9 := Fld.mk' Tryz.underlying27 rfl
instance : Zc Tryz.prog 27 [(.int .u64 0), (.int .i64 0), (.int .i64 0), (.int .i64 0), (.slice none 0 0), (.slice none 0 0), (.string ByteArray.empty)] := Zc.mk' (z := .agg #[(.int .u64 0), (.int .i64 0), (.int .i64 0), (.int .i64 0), (.slice none 0 0), (.slice none 0 0), (.string ByteArray.empty)]) (by kernel_rfl) rfl
instance : StT Tryz.prog 27 [(0, 1), (1, 1), (2, 1), (3, 1), (4, 1), (5, 1), (6, 1)] [(.int .u64 0), (.int .i64 0), (.int .i64 0), (.int .i64 0), (.slice none 0 0), (.slice none 0 0), (.string ByteArray.empty)] := StT.mk' (z := .agg #[(.int .u64 0), (.int .i64 0), (.int .i64 0), (.int .i64 0), (.slice none 0 0), (.slice none 0 0), (.string ByteArray.empty)]) Tryz.underlying27 (by kernel_rfl) rfl (by kernel_rfl)
instance : ElT Tryz.prog 27 7 96 := ElT.mk' (z := .agg #[(.int .u64 0), (.int .i64 0), (.int .i64 0), (.int .i64 0), (.slice none 0 0), (.slice none 0 0), (.string ByteArray.empty)]) (by kernel_rfl) rfl (by decide)
instance : Sz Tryz.prog 28 1 := Sz.mk' (by kernel_rfl)
instance : IntT Tryz.prog 28 .i64 := ⟨Tryz.underlying28⟩
instance : One Tryz.prog 28 := One.mk' Tryz.underlying28 rfl
instance : Zc Tryz.prog 28 [(.int .i64 0)] := Zc.mk' (z := .int .i64 0) (by kernel_rfl) rfl
instance : ElT Tryz.prog 28 1 8 := ElT.mk' (z := .int .i64 0) (by kernel_rfl) rfl (by decide)
instance : Sz Tryz.prog 30 1 := Sz.mk' (by kernel_rfl)
instance : One Tryz.prog 30 := One.mk' Tryz.underlying30 rfl
instance : Zc Tryz.prog 30 [(.nilFunc)] := Zc.mk' (z := .nilFunc) (by kernel_rfl) rfl
instance : ElT Tryz.prog 30 1 8 := ElT.mk' (z := .nilFunc) (by kernel_rfl) rfl (by decide)
instance : Sz Tryz.prog 31 1 := Sz.mk' (by kernel_rfl)
instance : SlT Tryz.prog 31 90 := ⟨Tryz.underlying31⟩
instance : One Tryz.prog 31 := One.mk' Tryz.underlying31 rfl
instance : Zc Tryz.prog 31 [(.slice none 0 0)] := Zc.mk' (z := .slice none 0 0) (by kernel_rfl) rfl
instance : ElT Tryz.prog 31 1 24 := ElT.mk' (z := .slice none 0 0) (by kernel_rfl) rfl (by decide)
instance : Sz Tryz.prog 32 7 := Sz.mk' (by kernel_rfl)
instance : Ag Tryz.prog 32 := Ag.mk' Tryz.underlying32 rfl
instance : Fld Tryz.prog 32 0 0 23 := Fld.mk' Tryz.underlying32 rfl
instance : Fld Tryz.prog 32 1 1 3 := Fld.mk' Tryz.underlying32 rfl
instance : Fld Tryz.prog 32 2 2 3 := Fld.mk' Tryz.underlying32 rfl
instance : Fld Tryz.prog 32 3 3 3 := Fld.mk' Tryz.underlying32 rfl
instance : Fld Tryz.prog 32 4 4 31 := Fld.mk' Tryz.underlying32 rfl
instance : Fld Tryz.prog 32 5 5 25 := Fld.mk' Tryz.underlying32 rfl
instance : Fld Tryz.prog 32 6 6 9 := Fld.mk' Tryz.underlying32 rfl
instance : Zc Tryz.prog 32 [(.int .u64 0), (.int .i64 0), (.int .i64 0), (.int .i64 0), (.slice none 0 0), (.slice none 0 0), (.string ByteArray.empty)] := Zc.mk' (z := .agg #[(.int .u64 0), (.int .i64 0), (.int .i64 0), (.int .i64 0), (.slice none 0 0), (.slice none 0 0), (.string ByteArray.empty)]) (by kernel_rfl) rfl
instance : StT Tryz.prog 32 [(0, 1), (1, 1), (2, 1), (3, 1), (4, 1), (5, 1), (6, 1)] [(.int .u64 0), (.int .i64 0), (.int .i64 0), (.int .i64 0), (.slice none 0 0), (.slice none 0 0), (.string ByteArray.empty)] := StT.mk' (z := .agg #[(.int .u64 0), (.int .i64 0), (.int .i64 0), (.int .i64 0), (.slice none 0 0), (.slice none 0 0), (.string ByteArray.empty)]) Tryz.underlying32 (by kernel_rfl) rfl (by kernel_rfl)
instance : ElT Tryz.prog 32 7 96 := ElT.mk' (z := .agg #[(.int .u64 0), (.int .i64 0), (.int .i64 0), (.int .i64 0), (.slice none 0 0), (.slice none 0 0), (.string ByteArray.empty)]) (by kernel_rfl) rfl (by decide)
instance : Sz Tryz.prog 33 7 := Sz.mk' (by kernel_rfl)
instance : Ag Tryz.prog 33 := Ag.mk' Tryz.underlying33 rfl
instance : Fld Tryz.prog 33 0 0 23 := Fld.mk' Tryz.underlying33 rfl
instance : Fld Tryz.prog 33 1 1 3 := Fld.mk' Tryz.underlying33 rfl
instance : Fld Tryz.prog 33 2 2 3 := Fld.mk' Tryz.underlying33 rfl
instance : Fld Tryz.prog 33 3 3 3 := Fld.mk' Tryz.underlying33 rfl
instance : Fld Tryz.prog 33 4 4 31 := Fld.mk' Tryz.underlying33 rfl
instance : Fld Tryz.prog 33 5 5 25 := Fld.mk' Tryz.underlying33 rfl
instance : Fld Tryz.prog 33 6 6 9 := Fld.mk' Tryz.underlying33 rfl
instance : Zc Tryz.prog 33 [(.int .u64 0), (.int .i64 0), (.int .i64 0), (.int .i64 0), (.slice none 0 0), (.slice none 0 0), (.string ByteArray.empty)] := Zc.mk' (z := .agg #[(.int .u64 0), (.int .i64 0), (.int .i64 0), (.int .i64 0), (.slice none 0 0), (.slice none 0 0), (.string ByteArray.empty)]) (by kernel_rfl) rfl
instance : StT Tryz.prog 33 [(0, 1), (1, 1), (2, 1), (3, 1), (4, 1), (5, 1), (6, 1)] [(.int .u64 0), (.int .i64 0), (.int .i64 0), (.int .i64 0), (.slice none 0 0), (.slice none 0 0), (.string ByteArray.empty)] := StT.mk' (z := .agg #[(.int .u64 0), (.int .i64 0), (.int .i64 0), (.int .i64 0), (.slice none 0 0), (.slice none 0 0), (.string ByteArray.empty)]) Tryz.underlying33 (by kernel_rfl) rfl (by kernel_rfl)
instance : ElT Tryz.prog 33 7 96 := ElT.mk' (z := .agg #[(.int .u64 0), (.int .i64 0), (.int .i64 0), (.int .i64 0), (.slice none 0 0), (.slice none 0 0), (.string ByteArray.empty)]) (by kernel_rfl) rfl (by decide)
instance : Sz Tryz.prog 35 1 := Sz.mk' (by kernel_rfl)
instance : One Tryz.prog 35 := One.mk' Tryz.underlying35 rfl
instance : Zc Tryz.prog 35 [(.nilFunc)] := Zc.mk' (z := .nilFunc) (by kernel_rfl) rfl
instance : ElT Tryz.prog 35 1 8 := ElT.mk' (z := .nilFunc) (by kernel_rfl) rfl (by decide)
instance : Sz Tryz.prog 36 1 := Sz.mk' (by kernel_rfl)
instance : One Tryz.prog 36 := One.mk' Tryz.underlying36 rfl
instance : Zc Tryz.prog 36 [(.nilFunc)] := Zc.mk' (z := .nilFunc) (by kernel_rfl) rfl
instance : ElT Tryz.prog 36 1 8 := ElT.mk' (z := .nilFunc) (by kernel_rfl) rfl (by decide)
instance : Sz Tryz.prog 37 1 := Sz.mk' (by kernel_rfl)
instance : One Tryz.prog 37 := One.mk' Tryz.underlying37 rfl
instance : Zc Tryz.prog 37 [(.nilFunc)] := Zc.mk' (z := .nilFunc) (by kernel_rfl) rfl
instance : ElT Tryz.prog 37 1 8 := ElT.mk' (z := .nilFunc) (by kernel_rfl) rfl (by decide)
instance : Sz Tryz.prog 38 1 := Sz.mk' (by kernel_rfl)
instance : One Tryz.prog 38 := One.mk' Tryz.underlying38 rfl
instance : Zc Tryz.prog 38 [(.nilFunc)] := Zc.mk' (z := .nilFunc) (by kernel_rfl) rfl
instance : ElT Tryz.prog 38 1 8 := ElT.mk' (z := .nilFunc) (by kernel_rfl) rfl (by decide)
instance : Sz Tryz.prog 39 1 := Sz.mk' (by kernel_rfl)
instance : SlT Tryz.prog 39 51 := ⟨Tryz.underlying39⟩
instance : One Tryz.prog 39 := One.mk' Tryz.underlying39 rfl
instance : Zc Tryz.prog 39 [(.slice none 0 0)] := Zc.mk' (z := .slice none 0 0) (by kernel_rfl) rfl
instance : ElT Tryz.prog 39 1 24 := ElT.mk' (z := .slice none 0 0) (by kernel_rfl) rfl (by decide)
instance : Sz Tryz.prog 40 1 := Sz.mk' (by kernel_rfl)
instance : PtrT Tryz.prog 40 94 := ⟨Tryz.underlying40⟩
instance : One Tryz.prog 40 := One.mk' Tryz.underlying40 rfl
instance : Zc Tryz.prog 40 [(.pointer none)] := Zc.mk' (z := .pointer none) (by kernel_rfl) rfl
instance : ElT Tryz.prog 40 1 8 := ElT.mk' (z := .pointer none) (by kernel_rfl) rfl (by decide)
instance : Sz Tryz.prog 41 1 := Sz.mk' (by kernel_rfl)
instance : One Tryz.prog 41 := One.mk' Tryz.underlying41 rfl
instance : Zc Tryz.prog 41 [(.nilFunc)] := Zc.mk' (z := .nilFunc) (by kernel_rfl) rfl
instance : ElT Tryz.prog 41 1 8 := ElT.mk' (z := .nilFunc) (by kernel_rfl) rfl (by decide)
instance : Sz Tryz.prog 42 1 := Sz.mk' (by kernel_rfl)
instance : One Tryz.prog 42 := One.mk' Tryz.underlying42 rfl
instance : Zc Tryz.prog 42 [(.nilFunc)] := Zc.mk' (z := .nilFunc) (by kernel_rfl) rfl
instance : ElT Tryz.prog 42 1 8 := ElT.mk' (z := .nilFunc) (by kernel_rfl) rfl (by decide)
instance : Sz Tryz.prog 43 1 := Sz.mk' (by kernel_rfl)
instance : One Tryz.prog 43 := One.mk' Tryz.underlying43 rfl
instance : Zc Tryz.prog 43 [(.nilFunc)] := Zc.mk' (z := .nilFunc) (by kernel_rfl) rfl
instance : ElT Tryz.prog 43 1 8 := ElT.mk' (z := .nilFunc) (by kernel_rfl) rfl (by decide)
instance : Sz Tryz.prog 44 1 := Sz.mk' (by kernel_rfl)
instance : PtrT Tryz.prog 44 99 := ⟨Tryz.underlying44⟩
instance : One Tryz.prog 44 := One.mk' Tryz.underlying44 rfl
instance : Zc Tryz.prog 44 [(.pointer none)] := Zc.mk' (z := .pointer none) (by kernel_rfl) rfl
instance : ElT Tryz.prog 44 1 8 := ElT.mk' (z := .pointer none) (by kernel_rfl) rfl (by decide)
instance : Sz Tryz.prog 45 1 := Sz.mk' (by kernel_rfl)
instance : One Tryz.prog 45 := One.mk' Tryz.underlying45 rfl
instance : Zc Tryz.prog 45 [(.nilFunc)] := Zc.mk' (z := .nilFunc) (by kernel_rfl) rfl
instance : ElT Tryz.prog 45 1 8 := ElT.mk' (z := .nilFunc) (by kernel_rfl) rfl (by decide)
instance : Sz Tryz.prog 46 1 := Sz.mk' (by kernel_rfl)
instance : One Tryz.prog 46 := One.mk' Tryz.underlying46 rfl
instance : Zc Tryz.prog 46 [(.nilFunc)] := Zc.mk' (z := .nilFunc) (by kernel_rfl) rfl
instance : ElT Tryz.prog 46 1 8 := ElT.mk' (z := .nilFunc) (by kernel_rfl) rfl (by decide)
instance : Sz Tryz.prog 47 1 := Sz.mk' (by kernel_rfl)
instance : SlT Tryz.prog 47 73 := ⟨Tryz.underlying47⟩
instance : One Tryz.prog 47 := One.mk' Tryz.underlying47 rfl
instance : Zc Tryz.prog 47 [(.slice none 0 0)] := Zc.mk' (z := .slice none 0 0) (by kernel_rfl) rfl
instance : ElT Tryz.prog 47 1 24 := ElT.mk' (z := .slice none 0 0) (by kernel_rfl) rfl (by decide)
instance : Sz Tryz.prog 48 2 := Sz.mk' (by kernel_rfl)
instance : Ag Tryz.prog 48 := Ag.mk' Tryz.underlying48 rfl
instance : EqS Tryz.prog 48 [.i64, .i64] := EqS.mk' Tryz.underlying48 (by kernel_rfl) (by kernel_rfl) (by kernel_rfl)
instance : Fld Tryz.prog 48 0 0 3 := Fld.mk' Tryz.underlying48 rfl
instance : Fld Tryz.prog 48 1 1 3 := Fld.mk' Tryz.underlying48 rfl
instance : Zc Tryz.prog 48 [(.int .i64 0), (.int .i64 0)] := Zc.mk' (z := .agg #[(.int .i64 0), (.int .i64 0)]) (by kernel_rfl) rfl
instance : StT Tryz.prog 48 [(0, 1), (1, 1)] [(.int .i64 0), (.int .i64 0)] := StT.mk' (z := .agg #[(.int .i64 0), (.int .i64 0)]) Tryz.underlying48 (by kernel_rfl) rfl (by kernel_rfl)
instance : ElT Tryz.prog 48 2 16 := ElT.mk' (z := .agg #[(.int .i64 0), (.int .i64 0)]) (by kernel_rfl) rfl (by decide)
instance : Sz Tryz.prog 49 2 := Sz.mk' (by kernel_rfl)
instance : Ag Tryz.prog 49 := Ag.mk' Tryz.underlying49 rfl
instance : EqS Tryz.prog 49 [.i64, .i64] := EqS.mk' Tryz.underlying49 (by kernel_rfl) (by kernel_rfl) (by kernel_rfl)
instance : Fld Tryz.prog 49 0 0 3 := Fld.mk' Tryz.underlying49 rfl
instance : Fld Tryz.prog 49 1 1 3 := Fld.mk' Tryz.underlying49 rfl
instance : Zc Tryz.prog 49 [(.int .i64 0), (.int .i64 0)] := Zc.mk' (z := .agg #[(.int .i64 0), (.int .i64 0)]) (by kernel_rfl) rfl
instance : StT Tryz.prog 49 [(0, 1), (1, 1)] [(.int .i64 0), (.int .i64 0)] := StT.mk' (z := .agg #[(.int .i64 0), (.int .i64 0)]) Tryz.underlying49 (by kernel_rfl) rfl (by kernel_rfl)
instance : ElT Tryz.prog 49 2 16 := ElT.mk' (z := .agg #[(.int .i64 0), (.int .i64 0)]) (by kernel_rfl) rfl (by decide)
instance : Sz Tryz.prog 50 4 := Sz.mk' (by kernel_rfl)
instance : Ag Tryz.prog 50 := Ag.mk' Tryz.underlying50 rfl
instance : Fld Tryz.prog 50 0 0 3 := Fld.mk' Tryz.underlying50 rfl
instance : Fld Tryz.prog 50 1 1 47 := Fld.mk' Tryz.underlying50 rfl
instance : Fld Tryz.prog 50 2 2 49 := Fld.mk' Tryz.underlying50 rfl
instance : Zc Tryz.prog 50 [(.int .i64 0), (.slice none 0 0), (.int .i64 0), (.int .i64 0)] := Zc.mk' (z := .agg #[(.int .i64 0), (.slice none 0 0), (.int .i64 0), (.int .i64 0)]) (by kernel_rfl) rfl
instance : StT Tryz.prog 50 [(0, 1), (1, 1), (2, 2)] [(.int .i64 0), (.slice none 0 0), (.int .i64 0), (.int .i64 0)] := StT.mk' (z := .agg #[(.int .i64 0), (.slice none 0 0), (.int .i64 0), (.int .i64 0)]) Tryz.underlying50 (by kernel_rfl) rfl (by kernel_rfl)
instance : ElT Tryz.prog 50 4 48 := ElT.mk' (z := .agg #[(.int .i64 0), (.slice none 0 0), (.int .i64 0), (.int .i64 0)]) (by kernel_rfl) rfl (by decide)
instance : Sz Tryz.prog 51 4 := Sz.mk' (by kernel_rfl)
instance : Ag Tryz.prog 51 := Ag.mk' Tryz.underlying51 rfl
instance : Fld Tryz.prog 51 0 0 3 := Fld.mk' Tryz.underlying51 rfl
instance : Fld Tryz.prog 51 1 1 47 := Fld.mk' Tryz.underlying51 rfl
instance : Fld Tryz.prog 51 2 2 49 := Fld.mk' Tryz.underlying51 rfl
instance : Zc Tryz.prog 51 [(.int .i64 0), (.slice none 0 0), (.int .i64 0), (.int .i64 0)] := Zc.mk' (z := .agg #[(.int .i64 0), (.slice none 0 0), (.int .i64 0), (.int .i64 0)]) (by kernel_rfl) rfl
instance : StT Tryz.prog 51 [(0, 1), (1, 1), (2, 2)] [(.int .i64 0), (.slice none 0 0), (.int .i64 0), (.int .i64 0)] := StT.mk' (z := .agg #[(.int .i64 0), (.slice none 0 0), (.int .i64 0), (.int .i64 0)]) Tryz.underlying51 (by kernel_rfl) rfl (by kernel_rfl)
instance : ElT Tryz.prog 51 4 48 := ElT.mk' (z := .agg #[(.int .i64 0), (.slice none 0 0), (.int .i64 0), (.int .i64 0)]) (by kernel_rfl) rfl (by decide)
instance : Sz Tryz.prog 52 1 := Sz.mk' (by kernel_rfl)
instance : One Tryz.prog 52 := One.mk' Tryz.underlying52 rfl
instance : Zc Tryz.prog 52 [(.nilFunc)] := Zc.mk' (z := .nilFunc) (by kernel_rfl) rfl
instance : ElT Tryz.prog 52 1 8 := ElT.mk' (z := .nilFunc) (by kernel_rfl) rfl (by decide)
instance : Sz Tryz.prog 54 1 := Sz.mk' (by kernel_rfl)
instance : One Tryz.prog 54 := One.mk' Tryz.underlying54 rfl
instance : Zc Tryz.prog 54 [(.nilFunc)] := Zc.mk' (z := .nilFunc) (by kernel_rfl) rfl
instance : ElT Tryz.prog 54 1 8 := ElT.mk' (z := .nilFunc) (by kernel_rfl) rfl (by decide)
instance : Sz Tryz.prog 55 1 := Sz.mk' (by kernel_rfl)
instance : One Tryz.prog 55 := One.mk' Tryz.underlying55 rfl
instance : Zc Tryz.prog 55 [(.nilFunc)] := Zc.mk' (z := .nilFunc) (by kernel_rfl) rfl
instance : ElT Tryz.prog 55 1 8 := ElT.mk' (z := .nilFunc) (by kernel_rfl) rfl (by decide)
instance : Sz Tryz.prog 56 1 := Sz.mk' (by kernel_rfl)
instance : One Tryz.prog 56 := One.mk' Tryz.underlying56 rfl
instance : Zc Tryz.prog 56 [(.nilFunc)] := Zc.mk' (z := .nilFunc) (by kernel_rfl) rfl
instance : ElT Tryz.prog 56 1 8 := ElT.mk' (z := .nilFunc) (by kernel_rfl) rfl (by decide)
instance : Sz Tryz.prog 57 1 := Sz.mk' (by kernel_rfl)
instance : One Tryz.prog 57 := One.mk' Tryz.underlying57 rfl
instance : Zc Tryz.prog 57 [(.nilFunc)] := Zc.mk' (z := .nilFunc) (by kernel_rfl) rfl
instance : ElT Tryz.prog 57 1 8 := ElT.mk' (z := .nilFunc) (by kernel_rfl) rfl (by decide)
instance : Sz Tryz.prog 58 1 := Sz.mk' (by kernel_rfl)
instance : One Tryz.prog 58 := One.mk' Tryz.underlying58 rfl
instance : Zc Tryz.prog 58 [(.nilFunc)] := Zc.mk' (z := .nilFunc) (by kernel_rfl) rfl
instance : ElT Tryz.prog 58 1 8 := ElT.mk' (z := .nilFunc) (by kernel_rfl) rfl (by decide)
instance : Sz Tryz.prog 59 1 := Sz.mk' (by kernel_rfl)
instance : One Tryz.prog 59 := One.mk' Tryz.underlying59 rfl
instance : Zc Tryz.prog 59 [(.nilFunc)] := Zc.mk' (z := .nilFunc) (by kernel_rfl) rfl
instance : ElT Tryz.prog 59 1 8 := ElT.mk' (z := .nilFunc) (by kernel_rfl) rfl (by decide)
instance : Sz Tryz.prog 60 1 := Sz.mk' (by kernel_rfl)
instance : One Tryz.prog 60 := One.mk' Tryz.underlying60 rfl
instance : Zc Tryz.prog 60 [(.nilFunc)] := Zc.mk' (z := .nilFunc) (by kernel_rfl) rfl
instance : ElT Tryz.prog 60 1 8 := ElT.mk' (z := .nilFunc) (by kernel_rfl) rfl (by decide)
instance : Sz Tryz.prog 61 2 := Sz.mk' (by kernel_rfl)
instance : Ag Tryz.prog 61 := Ag.mk' Tryz.underlying61 rfl
instance : EqS Tryz.prog 61 [.i64, .i64] := EqS.mk' Tryz.underlying61 (by kernel_rfl) (by kernel_rfl) (by kernel_rfl)
instance : Fld Tryz.prog 61 0 0 3 := Fld.mk' Tryz.underlying61 rfl
instance : Fld Tryz.prog 61 1 1 3 := Fld.mk' Tryz.underlying61 rfl
instance : Zc Tryz.prog 61 [(.int .i64 0), (.int .i64 0)] := Zc.mk' (z := .agg #[(.int .i64 0), (.int .i64 0)]) (by kernel_rfl) rfl
instance : StT Tryz.prog 61 [(0, 1), (1, 1)] [(.int .i64 0), (.int .i64 0)] := StT.mk' (z := .agg #[(.int .i64 0), (.int .i64 0)]) Tryz.underlying61 (by kernel_rfl) rfl (by kernel_rfl)
instance : ElT Tryz.prog 61 2 16 := ElT.mk' (z := .agg #[(.int .i64 0), (.int .i64 0)]) (by kernel_rfl) rfl (by decide)
instance : Sz Tryz.prog 62 2 := Sz.mk' (by kernel_rfl)
instance : Ag Tryz.prog 62 := Ag.mk' Tryz.underlying62 rfl
instance : EqS Tryz.prog 62 [.i64, .i64] := EqS.mk' Tryz.underlying62 (by kernel_rfl) (by kernel_rfl) (by kernel_rfl)
instance : Fld Tryz.prog 62 0 0 3 := Fld.mk' Tryz.underlying62 rfl
instance : Fld Tryz.prog 62 1 1 3 := Fld.mk' Tryz.underlying62 rfl
instance : Zc Tryz.prog 62 [(.int .i64 0), (.int .i64 0)] := Zc.mk' (z := .agg #[(.int .i64 0), (.int .i64 0)]) (by kernel_rfl) rfl
instance : StT Tryz.prog 62 [(0, 1), (1, 1)] [(.int .i64 0), (.int .i64 0)] := StT.mk' (z := .agg #[(.int .i64 0), (.int .i64 0)]) Tryz.underlying62 (by kernel_rfl) rfl (by kernel_rfl)
instance : ElT Tryz.prog 62 2 16 := ElT.mk' (z := .agg #[(.int .i64 0), (.int .i64 0)]) (by kernel_rfl) rfl (by decide)
instance : Sz Tryz.prog 63 4 := Sz.mk' (by kernel_rfl)
instance : Ag Tryz.prog 63 := Ag.mk' Tryz.underlying63 rfl
instance : Fld Tryz.prog 63 0 0 62 := Fld.mk' Tryz.underlying63 rfl
instance : Fld Tryz.prog 63 1 2 49 := Fld.mk' Tryz.underlying63 rfl
instance : Zc Tryz.prog 63 [(.int .i64 0), (.int .i64 0), (.int .i64 0), (.int .i64 0)] := Zc.mk' (z := .agg #[(.int .i64 0), (.int .i64 0), (.int .i64 0), (.int .i64 0)]) (by kernel_rfl) rfl
instance : StT Tryz.prog 63 [(0, 2), (2, 2)] [(.int .i64 0), (.int .i64 0), (.int .i64 0), (.int .i64 0)] := StT.mk' (z := .agg #[(.int .i64 0), (.int .i64 0), (.int .i64 0), (.int .i64 0)]) Tryz.underlying63 (by kernel_rfl) rfl (by kernel_rfl)
instance : ElT Tryz.prog 63 4 32 := ElT.mk' (z := .agg #[(.int .i64 0), (.int .i64 0), (.int .i64 0), (.int .i64 0)]) (by kernel_rfl) rfl (by decide)
instance : Sz Tryz.prog 64 4 := Sz.mk' (by kernel_rfl)
instance : Ag Tryz.prog 64 := Ag.mk' Tryz.underlying64 rfl
instance : Fld Tryz.prog 64 0 0 62 := Fld.mk' Tryz.underlying64 rfl
instance : Fld Tryz.prog 64 1 2 49 := Fld.mk' Tryz.underlying64 rfl
instance : Zc Tryz.prog 64 [(.int .i64 0), (.int .i64 0), (.int .i64 0), (.int .i64 0)] := Zc.mk' (z := .agg #[(.int .i64 0), (.int .i64 0), (.int .i64 0), (.int .i64 0)]) (by kernel_rfl) rfl
instance : StT Tryz.prog 64 [(0, 2), (2, 2)] [(.int .i64 0), (.int .i64 0), (.int .i64 0), (.int .i64 0)] := StT.mk' (z := .agg #[(.int .i64 0), (.int .i64 0), (.int .i64 0), (.int .i64 0)]) Tryz.underlying64 (by kernel_rfl) rfl (by kernel_rfl)
instance : ElT Tryz.prog 64 4 32 := ElT.mk' (z := .agg #[(.int .i64 0), (.int .i64 0), (.int .i64 0), (.int .i64 0)]) (by kernel_rfl) rfl (by decide)
instance : Sz Tryz.prog 65 1 := Sz.mk' (by kernel_rfl)
instance : One Tryz.prog 65 := One.mk' Tryz.underlying65 rfl
instance : Zc Tryz.prog 65 [(.nilFunc)] := Zc.mk' (z := .nilFunc) (by kernel_rfl) rfl
instance : ElT Tryz.prog 65 1 8 := ElT.mk' (z := .nilFunc) (by kernel_rfl) rfl (by decide)
instance : Sz Tryz.prog 66 1 := Sz.mk' (by kernel_rfl)
instance : SlT Tryz.prog 66 5 := ⟨Tryz.underlying66⟩
instance : One Tryz.prog 66 := One.mk' Tryz.underlying66 rfl
instance : Zc Tryz.prog 66 [(.slice none 0 0)] := Zc.mk' (z := .slice none 0 0) (by kernel_rfl) rfl
instance : ElT Tryz.prog 66 1 24 := ElT.mk' (z := .slice none 0 0) (by kernel_rfl) rfl (by decide)
instance : Sz Tryz.prog 67 1 := Sz.mk' (by kernel_rfl)
instance : One Tryz.prog 67 := One.mk' Tryz.underlying67 rfl
instance : Zc Tryz.prog 67 [(.nilFunc)] := Zc.mk' (z := .nilFunc) (by kernel_rfl) rfl
instance : ElT Tryz.prog 67 1 8 := ElT.mk' (z := .nilFunc) (by kernel_rfl) rfl (by decide)
instance : Sz Tryz.prog 69 1 := Sz.mk' (by kernel_rfl)
instance : One Tryz.prog 69 := One.mk' Tryz.underlying69 rfl
instance : Zc Tryz.prog 69 [(.nilFunc)] := Zc.mk' (z := .nilFunc) (by kernel_rfl) rfl
instance : ElT Tryz.prog 69 1 8 := ElT.mk' (z := .nilFunc) (by kernel_rfl) rfl (by decide)
instance : Sz Tryz.prog 70 1 := Sz.mk' (by kernel_rfl)
instance : One Tryz.prog 70 := One.mk' Tryz.underlying70 rfl
instance : Zc Tryz.prog 70 [(.nilFunc)] := Zc.mk' (z := .nilFunc) (by kernel_rfl) rfl
instance : ElT Tryz.prog 70 1 8 := ElT.mk' (z := .nilFunc) (by kernel_rfl) rfl (by decide)
instance : Sz Tryz.prog 71 1 := Sz.mk' (by kernel_rfl)
instance : One Tryz.prog 71 := One.mk' Tryz.underlying71 rfl
instance : Zc Tryz.prog 71 [(.nilFunc)] := Zc.mk' (z := .nilFunc) (by kernel_rfl) rfl
instance : ElT Tryz.prog 71 1 8 := ElT.mk' (z := .nilFunc) (by kernel_rfl) rfl (by decide)
instance : Sz Tryz.prog 72 4 := Sz.mk' (by kernel_rfl)
instance : Ag Tryz.prog 72 := Ag.mk' Tryz.underlying72 rfl
instance : Fld Tryz.prog 72 0 0 62 := Fld.mk' Tryz.underlying72 rfl
instance : Fld Tryz.prog 72 1 2 49 := Fld.mk' Tryz.underlying72 rfl
instance : Zc Tryz.prog 72 [(.int .i64 0), (.int .i64 0), (.int .i64 0), (.int .i64 0)] := Zc.mk' (z := .agg #[(.int .i64 0), (.int .i64 0), (.int .i64 0), (.int .i64 0)]) (by kernel_rfl) rfl
instance : StT Tryz.prog 72 [(0, 2), (2, 2)] [(.int .i64 0), (.int .i64 0), (.int .i64 0), (.int .i64 0)] := StT.mk' (z := .agg #[(.int .i64 0), (.int .i64 0), (.int .i64 0), (.int .i64 0)]) Tryz.underlying72 (by kernel_rfl) rfl (by kernel_rfl)
instance : ElT Tryz.prog 72 4 32 := ElT.mk' (z := .agg #[(.int .i64 0), (.int .i64 0), (.int .i64 0), (.int .i64 0)]) (by kernel_rfl) rfl (by decide)
instance : Sz Tryz.prog 73 4 := Sz.mk' (by kernel_rfl)
instance : Ag Tryz.prog 73 := Ag.mk' Tryz.underlying73 rfl
instance : Fld Tryz.prog 73 0 0 62 := Fld.mk' Tryz.underlying73 rfl
instance : Fld Tryz.prog 73 1 2 49 := Fld.mk' Tryz.underlying73 rfl
instance : Zc Tryz.prog 73 [(.int .i64 0), (.int .i64 0), (.int .i64 0), (.int .i64 0)] := Zc.mk' (z := .agg #[(.int .i64 0), (.int .i64 0), (.int .i64 0), (.int .i64 0)]) (by kernel_rfl) rfl
instance : StT Tryz.prog 73 [(0, 2), (2, 2)] [(.int .i64 0), (.int .i64 0), (.int .i64 0), (.int .i64 0)] := StT.mk' (z := .agg #[(.int .i64 0), (.int .i64 0), (.int .i64 0), (.int .i64 0)]) Tryz.underlying73 (by kernel_rfl) rfl (by kernel_rfl)
instance : ElT Tryz.prog 73 4 32 := ElT.mk' (z := .agg #[(.int .i64 0), (.int .i64 0), (.int .i64 0), (.int .i64 0)]) (by kernel_rfl) rfl (by decide)
instance : Sz Tryz.prog 74 1 := Sz.mk' (by kernel_rfl)
instance : One Tryz.prog 74 := One.mk' Tryz.underlying74 rfl
instance : Zc Tryz.prog 74 [(.nilFunc)] := Zc.mk' (z := .nilFunc) (by kernel_rfl) rfl
instance : ElT Tryz.prog 74 1 8 := ElT.mk' (z := .nilFunc) (by kernel_rfl) rfl (by decide)
instance : Sz Tryz.prog 75 1 := Sz.mk' (by kernel_rfl)
instance : PtrT Tryz.prog 75 121 := ⟨Tryz.underlying75⟩
instance : One Tryz.prog 75 := One.mk' Tryz.underlying75 rfl
instance : Zc Tryz.prog 75 [(.pointer none)] := Zc.mk' (z := .pointer none) (by kernel_rfl) rfl
instance : ElT Tryz.prog 75 1 8 := ElT.mk' (z := .pointer none) (by kernel_rfl) rfl (by decide)
instance : Sz Tryz.prog 76 1 := Sz.mk' (by kernel_rfl)
instance : One Tryz.prog 76 := One.mk' Tryz.underlying76 rfl
instance : Zc Tryz.prog 76 [(.nilFunc)] := Zc.mk' (z := .nilFunc) (by kernel_rfl) rfl
instance : ElT Tryz.prog 76 1 8 := ElT.mk' (z := .nilFunc) (by kernel_rfl) rfl (by decide)
instance : Sz Tryz.prog 77 1 := Sz.mk' (by kernel_rfl)
instance : One Tryz.prog 77 := One.mk' Tryz.underlying77 rfl
instance : Zc Tryz.prog 77 [(.nilFunc)] := Zc.mk' (z := .nilFunc) (by kernel_rfl) rfl
instance : ElT Tryz.prog 77 1 8 := ElT.mk' (z := .nilFunc) (by kernel_rfl) rfl (by decide)
instance : Sz Tryz.prog 78 1 := Sz.mk' (by kernel_rfl)
instance : One Tryz.prog 78 := One.mk' Tryz.underlying78 rfl
instance : Zc Tryz.prog 78 [(.nilFunc)] := Zc.mk' (z := .nilFunc) (by kernel_rfl) rfl
instance : ElT Tryz.prog 78 1 8 := ElT.mk' (z := .nilFunc) (by kernel_rfl) rfl (by decide)
instance : Sz Tryz.prog 79 1 := Sz.mk' (by kernel_rfl)
instance : IntT Tryz.prog 79 .u32 := ⟨Tryz.underlying79⟩
instance : One Tryz.prog 79 := One.mk' Tryz.underlying79 rfl
instance : Zc Tryz.prog 79 [(.int .u32 0)] := Zc.mk' (z := .int .u32 0) (by kernel_rfl) rfl
instance : ElT Tryz.prog 79 1 4 := ElT.mk' (z := .int .u32 0) (by kernel_rfl) rfl (by decide)
instance : Sz Tryz.prog 81 1 := Sz.mk' (by kernel_rfl)
instance : One Tryz.prog 81 := One.mk' Tryz.underlying81 rfl
instance : Zc Tryz.prog 81 [(.nilFunc)] := Zc.mk' (z := .nilFunc) (by kernel_rfl) rfl
instance : ElT Tryz.prog 81 1 8 := ElT.mk' (z := .nilFunc) (by kernel_rfl) rfl (by decide)
instance : Sz Tryz.prog 82 1 := Sz.mk' (by kernel_rfl)
instance : One Tryz.prog 82 := One.mk' Tryz.underlying82 rfl
instance : Zc Tryz.prog 82 [(.nilFunc)] := Zc.mk' (z := .nilFunc) (by kernel_rfl) rfl
instance : ElT Tryz.prog 82 1 8 := ElT.mk' (z := .nilFunc) (by kernel_rfl) rfl (by decide)
instance : Sz Tryz.prog 84 1 := Sz.mk' (by kernel_rfl)
instance : One Tryz.prog 84 := One.mk' Tryz.underlying84 rfl
instance : Zc Tryz.prog 84 [(.nilFunc)] := Zc.mk' (z := .nilFunc) (by kernel_rfl) rfl
instance : ElT Tryz.prog 84 1 8 := ElT.mk' (z := .nilFunc) (by kernel_rfl) rfl (by decide)
instance : Sz Tryz.prog 85 1 := Sz.mk' (by kernel_rfl)
instance : PtrT Tryz.prog 85 87 := ⟨Tryz.underlying85⟩
instance : One Tryz.prog 85 := One.mk' Tryz.underlying85 rfl
instance : Zc Tryz.prog 85 [(.pointer none)] := Zc.mk' (z := .pointer none) (by kernel_rfl) rfl
instance : ElT Tryz.prog 85 1 8 := ElT.mk' (z := .pointer none) (by kernel_rfl) rfl (by decide)
instance : Sz Tryz.prog 86 2 := Sz.mk' (by kernel_rfl)
instance : Ag Tryz.prog 86 := Ag.mk' Tryz.underlying86 rfl
instance : Fld Tryz.prog 86 0 0 9 := Fld.mk' Tryz.underlying86 rfl
instance : Fld Tryz.prog 86 1 1 4 := Fld.mk' Tryz.underlying86 rfl
instance : Zc Tryz.prog 86 [(.string ByteArray.empty), (.bool false)] := Zc.mk' (z := .agg #[(.string ByteArray.empty), (.bool false)]) (by kernel_rfl) rfl
instance : StT Tryz.prog 86 [(0, 1), (1, 1)] [(.string ByteArray.empty), (.bool false)] := StT.mk' (z := .agg #[(.string ByteArray.empty), (.bool false)]) Tryz.underlying86 (by kernel_rfl) rfl (by kernel_rfl)
instance : ElT Tryz.prog 86 2 24 := ElT.mk' (z := .agg #[(.string ByteArray.empty), (.bool false)]) (by kernel_rfl) rfl (by decide)
instance : Sz Tryz.prog 87 2 := Sz.mk' (by kernel_rfl)
instance : Ag Tryz.prog 87 := Ag.mk' Tryz.underlying87 rfl
instance : Fld Tryz.prog 87 0 0 9 := Fld.mk' Tryz.underlying87 rfl
instance : Fld Tryz.prog 87 1 1 4 := Fld.mk' Tryz.underlying87 rfl
instance : Zc Tryz.prog 87 [(.string ByteArray.empty), (.bool false)] := Zc.mk' (z := .agg #[(.string ByteArray.empty), (.bool false)]) (by kernel_rfl) rfl
instance : StT Tryz.prog 87 [(0, 1), (1, 1)] [(.string ByteArray.empty), (.bool false)] := StT.mk' (z := .agg #[(.string ByteArray.empty), (.bool false)]) Tryz.underlying87 (by kernel_rfl) rfl (by kernel_rfl)
instance : ElT Tryz.prog 87 2 24 := ElT.mk' (z := .agg #[(.string ByteArray.empty), (.bool false)]) (by kernel_rfl) rfl (by decide)
instance : Sz Tryz.prog 88 1 := Sz.mk' (by kernel_rfl)
instance : One Tryz.prog 88 := One.mk' Tryz.underlying88 rfl
instance : Zc Tryz.prog 88 [(.nilFunc)] := Zc.mk' (z := .nilFunc) (by kernel_rfl) rfl
instance : ElT Tryz.prog 88 1 8 := ElT.mk' (z := .nilFunc) (by kernel_rfl) rfl (by decide)
instance : Sz Tryz.prog 89 4 := Sz.mk' (by kernel_rfl)
instance : Ag Tryz.prog 89 := Ag.mk' Tryz.underlying89 rfl
instance : Fld Tryz.prog 89 0 0 3 := Fld.mk' Tryz.underlying89 rfl
instance : Fld Tryz.prog 89 1 1 3 := Fld.mk' Tryz.underlying89 rfl
instance : Fld Tryz.prog 89 2 2 49 := Fld.mk' Tryz.underlying89 rfl
instance : Zc Tryz.prog 89 [(.int .i64 0), (.int .i64 0), (.int .i64 0), (.int .i64 0)] := Zc.mk' (z := .agg #[(.int .i64 0), (.int .i64 0), (.int .i64 0), (.int .i64 0)]) (by kernel_rfl) rfl
instance : StT Tryz.prog 89 [(0, 1), (1, 1), (2, 2)] [(.int .i64 0), (.int .i64 0), (.int .i64 0), (.int .i64 0)] := StT.mk' (z := .agg #[(.int .i64 0), (.int .i64 0), (.int .i64 0), (.int .i64 0)]) Tryz.underlying89 (by kernel_rfl) rfl (by kernel_rfl)
instance : ElT Tryz.prog 89 4 32 := ElT.mk' (z := .agg #[(.int .i64 0), (.int .i64 0), (.int .i64 0), (.int .i64 0)]) (by kernel_rfl) rfl (by decide)
instance : Sz Tryz.prog 90 4 := Sz.mk' (by kernel_rfl)
instance : Ag Tryz.prog 90 := Ag.mk' Tryz.underlying90 rfl
instance : Fld Tryz.prog 90 0 0 3 := Fld.mk' Tryz.underlying90 rfl
instance : Fld Tryz.prog 90 1 1 3 := Fld.mk' Tryz.underlying90 rfl
instance : Fld Tryz.prog 90 2 2 49 := Fld.mk' Tryz.underlying90 rfl
instance : Zc Tryz.prog 90 [(.int .i64 0), (.int .i64 0), (.int .i64 0), (.int .i64 0)] := Zc.mk' (z := .agg #[(.int .i64 0), (.int .i64 0), (.int .i64 0), (.int .i64 0)]) (by kernel_rfl) rfl
instance : StT Tryz.prog 90 [(0, 1), (1, 1), (2, 2)] [(.int .i64 0), (.int .i64 0), (.int .i64 0), (.int .i64 0)] := StT.mk' (z := .agg #[(.int .i64 0), (.int .i64 0), (.int .i64 0), (.int .i64 0)]) Tryz.underlying90 (by kernel_rfl) rfl (by kernel_rfl)
instance : ElT Tryz.prog 90 4 32 := ElT.mk' (z := .agg #[(.int .i64 0), (.int .i64 0), (.int .i64 0), (.int .i64 0)]) (by kernel_rfl) rfl (by decide)
instance : Sz Tryz.prog 91 1 := Sz.mk' (by kernel_rfl)
instance : One Tryz.prog 91 := One.mk' Tryz.underlying91 rfl
instance : Zc Tryz.prog 91 [(.nilFunc)] := Zc.mk' (z := .nilFunc) (by kernel_rfl) rfl
instance : ElT Tryz.prog 91 1 8 := ElT.mk' (z := .nilFunc) (by kernel_rfl) rfl (by decide)
instance : Sz Tryz.prog 92 1 := Sz.mk' (by kernel_rfl)
instance : One Tryz.prog 92 := One.mk' Tryz.underlying92 rfl
instance : Zc Tryz.prog 92 [(.nilFunc)] := Zc.mk' (z := .nilFunc) (by kernel_rfl) rfl
instance : ElT Tryz.prog 92 1 8 := ElT.mk' (z := .nilFunc) (by kernel_rfl) rfl (by decide)
instance : Sz Tryz.prog 93 1 := Sz.mk' (by kernel_rfl)
instance : Ag Tryz.prog 93 := Ag.mk' Tryz.underlying93 rfl
instance : Fld Tryz.prog 93 0 0 47 := Fld.mk' Tryz.underlying93 rfl
instance : Zc Tryz.prog 93 [(.slice none 0 0)] := Zc.mk' (z := .agg #[(.slice none 0 0)]) (by kernel_rfl) rfl
instance : StT Tryz.prog 93 [(0, 1)] [(.slice none 0 0)] := StT.mk' (z := .agg #[(.slice none 0 0)]) Tryz.underlying93 (by kernel_rfl) rfl (by kernel_rfl)
instance : ElT Tryz.prog 93 1 24 := ElT.mk' (z := .agg #[(.slice none 0 0)]) (by kernel_rfl) rfl (by decide)
instance : Sz Tryz.prog 94 1 := Sz.mk' (by kernel_rfl)
instance : Ag Tryz.prog 94 := Ag.mk' Tryz.underlying94 rfl
instance : Fld Tryz.prog 94 0 0 47 := Fld.mk' Tryz.underlying94 rfl
instance : Zc Tryz.prog 94 [(.slice none 0 0)] := Zc.mk' (z := .agg #[(.slice none 0 0)]) (by kernel_rfl) rfl
instance : StT Tryz.prog 94 [(0, 1)] [(.slice none 0 0)] := StT.mk' (z := .agg #[(.slice none 0 0)]) Tryz.underlying94 (by kernel_rfl) rfl (by kernel_rfl)
instance : ElT Tryz.prog 94 1 24 := ElT.mk' (z := .agg #[(.slice none 0 0)]) (by kernel_rfl) rfl (by decide)
instance : Sz Tryz.prog 95 1 := Sz.mk' (by kernel_rfl)
instance : One Tryz.prog 95 := One.mk' Tryz.underlying95 rfl
instance : Zc Tryz.prog 95 [(.nilFunc)] := Zc.mk' (z := .nilFunc) (by kernel_rfl) rfl
instance : ElT Tryz.prog 95 1 8 := ElT.mk' (z := .nilFunc) (by kernel_rfl) rfl (by decide)
instance : Sz Tryz.prog 96 1 := Sz.mk' (by kernel_rfl)
instance : SlT Tryz.prog 96 4 := ⟨Tryz.underlying96⟩
instance : One Tryz.prog 96 := One.mk' Tryz.underlying96 rfl
instance : Zc Tryz.prog 96 [(.slice none 0 0)] := Zc.mk' (z := .slice none 0 0) (by kernel_rfl) rfl
instance : ElT Tryz.prog 96 1 24 := ElT.mk' (z := .slice none 0 0) (by kernel_rfl) rfl (by decide)
instance : Sz Tryz.prog 97 1 := Sz.mk' (by kernel_rfl)
instance : SlT Tryz.prog 97 49 := ⟨Tryz.underlying97⟩
instance : One Tryz.prog 97 := One.mk' Tryz.underlying97 rfl
instance : Zc Tryz.prog 97 [(.slice none 0 0)] := Zc.mk' (z := .slice none 0 0) (by kernel_rfl) rfl
instance : ElT Tryz.prog 97 1 24 := ElT.mk' (z := .slice none 0 0) (by kernel_rfl) rfl (by decide)
instance : Sz Tryz.prog 98 2 := Sz.mk' (by kernel_rfl)
instance : Ag Tryz.prog 98 := Ag.mk' Tryz.underlying98 rfl
instance : Fld Tryz.prog 98 0 0 96 := Fld.mk' Tryz.underlying98 rfl
instance : Fld Tryz.prog 98 1 1 97 := Fld.mk' Tryz.underlying98 rfl
instance : Zc Tryz.prog 98 [(.slice none 0 0), (.slice none 0 0)] := Zc.mk' (z := .agg #[(.slice none 0 0), (.slice none 0 0)]) (by kernel_rfl) rfl
instance : StT Tryz.prog 98 [(0, 1), (1, 1)] [(.slice none 0 0), (.slice none 0 0)] := StT.mk' (z := .agg #[(.slice none 0 0), (.slice none 0 0)]) Tryz.underlying98 (by kernel_rfl) rfl (by kernel_rfl)
instance : ElT Tryz.prog 98 2 48 := ElT.mk' (z := .agg #[(.slice none 0 0), (.slice none 0 0)]) (by kernel_rfl) rfl (by decide)
instance : Sz Tryz.prog 99 2 := Sz.mk' (by kernel_rfl)
instance : Ag Tryz.prog 99 := Ag.mk' Tryz.underlying99 rfl
instance : Fld Tryz.prog 99 0 0 96 := Fld.mk' Tryz.underlying99 rfl
instance : Fld Tryz.prog 99 1 1 97 := Fld.mk' Tryz.underlying99 rfl
instance : Zc Tryz.prog 99 [(.slice none 0 0), (.slice none 0 0)] := Zc.mk' (z := .agg #[(.slice none 0 0), (.slice none 0 0)]) (by kernel_rfl) rfl
instance : StT Tryz.prog 99 [(0, 1), (1, 1)] [(.slice none 0 0), (.slice none 0 0)] := StT.mk' (z := .agg #[(.slice none 0 0), (.slice none 0 0)]) Tryz.underlying99 (by kernel_rfl) rfl (by kernel_rfl)
instance : ElT Tryz.prog 99 2 48 := ElT.mk' (z := .agg #[(.slice none 0 0), (.slice none 0 0)]) (by kernel_rfl) rfl (by decide)
instance : Sz Tryz.prog 101 1 := Sz.mk' (by kernel_rfl)
instance : One Tryz.prog 101 := One.mk' Tryz.underlying101 rfl
instance : Zc Tryz.prog 101 [(.nilFunc)] := Zc.mk' (z := .nilFunc) (by kernel_rfl) rfl
instance : ElT Tryz.prog 101 1 8 := ElT.mk' (z := .nilFunc) (by kernel_rfl) rfl (by decide)
instance : Sz Tryz.prog 102 1 := Sz.mk' (by kernel_rfl)
instance : One Tryz.prog 102 := One.mk' Tryz.underlying102 rfl
instance : Zc Tryz.prog 102 [(.nilFunc)] := Zc.mk' (z := .nilFunc) (by kernel_rfl) rfl
instance : ElT Tryz.prog 102 1 8 := ElT.mk' (z := .nilFunc) (by kernel_rfl) rfl (by decide)
instance : Sz Tryz.prog 103 1 := Sz.mk' (by kernel_rfl)
instance : One Tryz.prog 103 := One.mk' Tryz.underlying103 rfl
instance : Zc Tryz.prog 103 [(.nilFunc)] := Zc.mk' (z := .nilFunc) (by kernel_rfl) rfl
instance : ElT Tryz.prog 103 1 8 := ElT.mk' (z := .nilFunc) (by kernel_rfl) rfl (by decide)
instance : Sz Tryz.prog 104 1 := Sz.mk' (by kernel_rfl)
instance : One Tryz.prog 104 := One.mk' Tryz.underlying104 rfl
instance : Zc Tryz.prog 104 [(.nilFunc)] := Zc.mk' (z := .nilFunc) (by kernel_rfl) rfl
instance : ElT Tryz.prog 104 1 8 := ElT.mk' (z := .nilFunc) (by kernel_rfl) rfl (by decide)
instance : Sz Tryz.prog 106 1 := Sz.mk' (by kernel_rfl)
instance : One Tryz.prog 106 := One.mk' Tryz.underlying106 rfl
instance : Zc Tryz.prog 106 [(.nilFunc)] := Zc.mk' (z := .nilFunc) (by kernel_rfl) rfl
instance : ElT Tryz.prog 106 1 8 := ElT.mk' (z := .nilFunc) (by kernel_rfl) rfl (by decide)
instance : Sz Tryz.prog 107 1 := Sz.mk' (by kernel_rfl)
instance : One Tryz.prog 107 := One.mk' Tryz.underlying107 rfl
instance : Zc Tryz.prog 107 [(.nilFunc)] := Zc.mk' (z := .nilFunc) (by kernel_rfl) rfl
instance : ElT Tryz.prog 107 1 8 := ElT.mk' (z := .nilFunc) (by kernel_rfl) rfl (by decide)
instance : Sz Tryz.prog 108 1 := Sz.mk' (by kernel_rfl)
instance : One Tryz.prog 108 := One.mk' Tryz.underlying108 rfl
instance : Zc Tryz.prog 108 [(.nilFunc)] := Zc.mk' (z := .nilFunc) (by kernel_rfl) rfl
instance : ElT Tryz.prog 108 1 8 := ElT.mk' (z := .nilFunc) (by kernel_rfl) rfl (by decide)
instance : Sz Tryz.prog 109 1 := Sz.mk' (by kernel_rfl)
instance : One Tryz.prog 109 := One.mk' Tryz.underlying109 rfl
instance : Zc Tryz.prog 109 [(.nilFunc)] := Zc.mk' (z := .nilFunc) (by kernel_rfl) rfl
instance : ElT Tryz.prog 109 1 8 := ElT.mk' (z := .nilFunc) (by kernel_rfl) rfl (by decide)
instance : Sz Tryz.prog 110 1 := Sz.mk' (by kernel_rfl)
instance : One Tryz.prog 110 := One.mk' Tryz.underlying110 rfl
instance : Zc Tryz.prog 110 [(.nilFunc)] := Zc.mk' (z := .nilFunc) (by kernel_rfl) rfl
instance : ElT Tryz.prog 110 1 8 := ElT.mk' (z := .nilFunc) (by kernel_rfl) rfl (by decide)
instance : Sz Tryz.prog 111 1 := Sz.mk' (by kernel_rfl)
instance : One Tryz.prog 111 := One.mk' Tryz.underlying111 rfl
instance : Zc Tryz.prog 111 [(.nilFunc)] := Zc.mk' (z := .nilFunc) (by kernel_rfl) rfl
instance : ElT Tryz.prog 111 1 8 := ElT.mk' (z := .nilFunc) (by kernel_rfl) rfl (by decide)
instance : Sz Tryz.prog 112 1 := Sz.mk' (by kernel_rfl)
instance : One Tryz.prog 112 := One.mk' Tryz.underlying112 rfl
instance : Zc Tryz.prog 112 [(.nilFunc)] := Zc.mk' (z := .nilFunc) (by kernel_rfl) rfl
instance : ElT Tryz.prog 112 1 8 := ElT.mk' (z := .nilFunc) (by kernel_rfl) rfl (by decide)
instance : Sz Tryz.prog 113 1 := Sz.mk' (by kernel_rfl)
instance : One Tryz.prog 113 := One.mk' Tryz.underlying113 rfl
instance : Zc Tryz.prog 113 [(.nilFunc)] := Zc.mk' (z := .nilFunc) (by kernel_rfl) rfl
instance : ElT Tryz.prog 113 1 8 := ElT.mk' (z := .nilFunc) (by kernel_rfl) rfl (by decide)
instance : Sz Tryz.prog 114 1 := Sz.mk' (by kernel_rfl)
instance : One Tryz.prog 114 := One.mk' Tryz.underlying114 rfl
instance : Zc Tryz.prog 114 [(.nilFunc)] := Zc.mk' (z := .nilFunc) (by kernel_rfl) rfl
instance : ElT Tryz.prog 114 1 8 := ElT.mk' (z := .nilFunc) (by kernel_rfl) rfl (by decide)
instance : Sz Tryz.prog 115 1 := Sz.mk' (by kernel_rfl)
instance : One Tryz.prog 115 := One.mk' Tryz.underlying115 rfl
instance : Zc Tryz.prog 115 [(.nilFunc)] := Zc.mk' (z := .nilFunc) (by kernel_rfl) rfl
instance : ElT Tryz.prog 115 1 8 := ElT.mk' (z := .nilFunc) (by kernel_rfl) rfl (by decide)
instance : Sz Tryz.prog 116 1 := Sz.mk' (by kernel_rfl)
instance : One Tryz.prog 116 := One.mk' Tryz.underlying116 rfl
instance : Zc Tryz.prog 116 [(.nilFunc)] := Zc.mk' (z := .nilFunc) (by kernel_rfl) rfl
instance : ElT Tryz.prog 116 1 8 := ElT.mk' (z := .nilFunc) (by kernel_rfl) rfl (by decide)
instance : Sz Tryz.prog 117 1 := Sz.mk' (by kernel_rfl)
instance : One Tryz.prog 117 := One.mk' Tryz.underlying117 rfl
instance : Zc Tryz.prog 117 [(.nilFunc)] := Zc.mk' (z := .nilFunc) (by kernel_rfl) rfl
instance : ElT Tryz.prog 117 1 8 := ElT.mk' (z := .nilFunc) (by kernel_rfl) rfl (by decide)
instance : Sz Tryz.prog 118 2 := Sz.mk' (by kernel_rfl)
instance : Ag Tryz.prog 118 := Ag.mk' Tryz.underlying118 rfl
instance : EqS Tryz.prog 118 [.i64, .i64] := EqS.mk' Tryz.underlying118 (by kernel_rfl) (by kernel_rfl) (by kernel_rfl)
instance : Fld Tryz.prog 118 0 0 3 := Fld.mk' Tryz.underlying118 rfl
instance : Fld Tryz.prog 118 1 1 28 := Fld.mk' Tryz.underlying118 rfl
instance : Zc Tryz.prog 118 [(.int .i64 0), (.int .i64 0)] := Zc.mk' (z := .agg #[(.int .i64 0), (.int .i64 0)]) (by kernel_rfl) rfl
instance : StT Tryz.prog 118 [(0, 1), (1, 1)] [(.int .i64 0), (.int .i64 0)] := StT.mk' (z := .agg #[(.int .i64 0), (.int .i64 0)]) Tryz.underlying118 (by kernel_rfl) rfl (by kernel_rfl)
instance : ElT Tryz.prog 118 2 16 := ElT.mk' (z := .agg #[(.int .i64 0), (.int .i64 0)]) (by kernel_rfl) rfl (by decide)
instance : Sz Tryz.prog 119 2 := Sz.mk' (by kernel_rfl)
instance : Ag Tryz.prog 119 := Ag.mk' Tryz.underlying119 rfl
instance : EqS Tryz.prog 119 [.i64, .i64] := EqS.mk' Tryz.underlying119 (by kernel_rfl) (by kernel_rfl) (by kernel_rfl)
instance : Fld Tryz.prog 119 0 0 3 := Fld.mk' Tryz.underlying119 rfl
instance : Fld Tryz.prog 119 1 1 28 := Fld.mk' Tryz.underlying119 rfl
instance : Zc Tryz.prog 119 [(.int .i64 0), (.int .i64 0)] := Zc.mk' (z := .agg #[(.int .i64 0), (.int .i64 0)]) (by kernel_rfl) rfl
instance : StT Tryz.prog 119 [(0, 1), (1, 1)] [(.int .i64 0), (.int .i64 0)] := StT.mk' (z := .agg #[(.int .i64 0), (.int .i64 0)]) Tryz.underlying119 (by kernel_rfl) rfl (by kernel_rfl)
instance : ElT Tryz.prog 119 2 16 := ElT.mk' (z := .agg #[(.int .i64 0), (.int .i64 0)]) (by kernel_rfl) rfl (by decide)
instance : Sz Tryz.prog 120 3 := Sz.mk' (by kernel_rfl)
instance : Ag Tryz.prog 120 := Ag.mk' Tryz.underlying120 rfl
instance : Fld Tryz.prog 120 0 0 119 := Fld.mk' Tryz.underlying120 rfl
instance : Fld Tryz.prog 120 1 2 9 := Fld.mk' Tryz.underlying120 rfl
instance : Zc Tryz.prog 120 [(.int .i64 0), (.int .i64 0), (.string ByteArray.empty)] := Zc.mk' (z := .agg #[(.int .i64 0), (.int .i64 0), (.string ByteArray.empty)]) (by kernel_rfl) rfl
instance : StT Tryz.prog 120 [(0, 2), (2, 1)] [(.int .i64 0), (.int .i64 0), (.string ByteArray.empty)] := StT.mk' (z := .agg #[(.int .i64 0), (.int .i64 0), (.string ByteArray.empty)]) Tryz.underlying120 (by kernel_rfl) rfl (by kernel_rfl)
instance : ElT Tryz.prog 120 3 32 := ElT.mk' (z := .agg #[(.int .i64 0), (.int .i64 0), (.string ByteArray.empty)]) (by kernel_rfl) rfl (by decide)
instance : Sz Tryz.prog 121 3 := Sz.mk' (by kernel_rfl)
instance : Ag Tryz.prog 121 := Ag.mk' Tryz.underlying121 rfl
instance : Fld Tryz.prog 121 0 0 119 := Fld.mk' Tryz.underlying121 rfl
instance : Fld Tryz.prog 121 1 2 9 := Fld.mk' Tryz.underlying121 rfl
instance : Zc Tryz.prog 121 [(.int .i64 0), (.int .i64 0), (.string ByteArray.empty)] := Zc.mk' (z := .agg #[(.int .i64 0), (.int .i64 0), (.string ByteArray.empty)]) (by kernel_rfl) rfl
instance : StT Tryz.prog 121 [(0, 2), (2, 1)] [(.int .i64 0), (.int .i64 0), (.string ByteArray.empty)] := StT.mk' (z := .agg #[(.int .i64 0), (.int .i64 0), (.string ByteArray.empty)]) Tryz.underlying121 (by kernel_rfl) rfl (by kernel_rfl)
instance : ElT Tryz.prog 121 3 32 := ElT.mk' (z := .agg #[(.int .i64 0), (.int .i64 0), (.string ByteArray.empty)]) (by kernel_rfl) rfl (by decide)
instance : Sz Tryz.prog 122 1 := Sz.mk' (by kernel_rfl)
instance : One Tryz.prog 122 := One.mk' Tryz.underlying122 rfl
instance : Zc Tryz.prog 122 [(.nilFunc)] := Zc.mk' (z := .nilFunc) (by kernel_rfl) rfl
instance : ElT Tryz.prog 122 1 8 := ElT.mk' (z := .nilFunc) (by kernel_rfl) rfl (by decide)
instance : Sz Tryz.prog 123 1 := Sz.mk' (by kernel_rfl)
instance : One Tryz.prog 123 := One.mk' Tryz.underlying123 rfl
instance : Zc Tryz.prog 123 [(.nilFunc)] := Zc.mk' (z := .nilFunc) (by kernel_rfl) rfl
instance : ElT Tryz.prog 123 1 8 := ElT.mk' (z := .nilFunc) (by kernel_rfl) rfl (by decide)
instance : Sz Tryz.prog 124 1 := Sz.mk' (by kernel_rfl)
instance : One Tryz.prog 124 := One.mk' Tryz.underlying124 rfl
instance : Zc Tryz.prog 124 [(.nilFunc)] := Zc.mk' (z := .nilFunc) (by kernel_rfl) rfl
instance : ElT Tryz.prog 124 1 8 := ElT.mk' (z := .nilFunc) (by kernel_rfl) rfl (by decide)
instance : Sz Tryz.prog 125 1 := Sz.mk' (by kernel_rfl)
instance : One Tryz.prog 125 := One.mk' Tryz.underlying125 rfl
instance : Zc Tryz.prog 125 [(.nilFunc)] := Zc.mk' (z := .nilFunc) (by kernel_rfl) rfl
instance : ElT Tryz.prog 125 1 8 := ElT.mk' (z := .nilFunc) (by kernel_rfl) rfl (by decide)
instance : Sz Tryz.prog 126 1 := Sz.mk' (by kernel_rfl)
instance : One Tryz.prog 126 := One.mk' Tryz.underlying126 rfl
instance : Zc Tryz.prog 126 [(.nilFunc)] := Zc.mk' (z := .nilFunc) (by kernel_rfl) rfl
instance : ElT Tryz.prog 126 1 8 := ElT.mk' (z := .nilFunc) (by kernel_rfl) rfl (by decide)
instance : Sz Tryz.prog 127 1 := Sz.mk' (by kernel_rfl)
instance : One Tryz.prog 127 := One.mk' Tryz.underlying127 rfl
instance : Zc Tryz.prog 127 [(.nilFunc)] := Zc.mk' (z := .nilFunc) (by kernel_rfl) rfl
instance : ElT Tryz.prog 127 1 8 := ElT.mk' (z := .nilFunc) (by kernel_rfl) rfl (by decide)
instance : Sz Tryz.prog 128 1 := Sz.mk' (by kernel_rfl)
instance : SlT Tryz.prog 128 9 := ⟨Tryz.underlying128⟩
instance : One Tryz.prog 128 := One.mk' Tryz.underlying128 rfl
instance : Zc Tryz.prog 128 [(.slice none 0 0)] := Zc.mk' (z := .slice none 0 0) (by kernel_rfl) rfl
instance : ElT Tryz.prog 128 1 24 := ElT.mk' (z := .slice none 0 0) (by kernel_rfl) rfl (by decide)
instance : Sz Tryz.prog 129 1 := Sz.mk' (by kernel_rfl)
instance : One Tryz.prog 129 := One.mk' Tryz.underlying129 rfl
instance : Zc Tryz.prog 129 [(.nilFunc)] := Zc.mk' (z := .nilFunc) (by kernel_rfl) rfl
instance : ElT Tryz.prog 129 1 8 := ElT.mk' (z := .nilFunc) (by kernel_rfl) rfl (by decide)
instance : Sz Tryz.prog 130 1 := Sz.mk' (by kernel_rfl)
instance : One Tryz.prog 130 := One.mk' Tryz.underlying130 rfl
instance : Zc Tryz.prog 130 [(.nilFunc)] := Zc.mk' (z := .nilFunc) (by kernel_rfl) rfl
instance : ElT Tryz.prog 130 1 8 := ElT.mk' (z := .nilFunc) (by kernel_rfl) rfl (by decide)
instance : Sz Tryz.prog 131 1 := Sz.mk' (by kernel_rfl)
instance : One Tryz.prog 131 := One.mk' Tryz.underlying131 rfl
instance : Zc Tryz.prog 131 [(.nilFunc)] := Zc.mk' (z := .nilFunc) (by kernel_rfl) rfl
instance : ElT Tryz.prog 131 1 8 := ElT.mk' (z := .nilFunc) (by kernel_rfl) rfl (by decide)
instance : Sz Tryz.prog 132 1 := Sz.mk' (by kernel_rfl)
instance : One Tryz.prog 132 := One.mk' Tryz.underlying132 rfl
instance : Zc Tryz.prog 132 [(.nilFunc)] := Zc.mk' (z := .nilFunc) (by kernel_rfl) rfl
instance : ElT Tryz.prog 132 1 8 := ElT.mk' (z := .nilFunc) (by kernel_rfl) rfl (by decide)
instance : Sz Tryz.prog 133 1 := Sz.mk' (by kernel_rfl)
instance : One Tryz.prog 133 := One.mk' Tryz.underlying133 rfl
instance : Zc Tryz.prog 133 [(.nilFunc)] := Zc.mk' (z := .nilFunc) (by kernel_rfl) rfl
instance : ElT Tryz.prog 133 1 8 := ElT.mk' (z := .nilFunc) (by kernel_rfl) rfl (by decide)
instance : Sz Tryz.prog 134 1 := Sz.mk' (by kernel_rfl)
instance : One Tryz.prog 134 := One.mk' Tryz.underlying134 rfl
instance : Zc Tryz.prog 134 [(.nilFunc)] := Zc.mk' (z := .nilFunc) (by kernel_rfl) rfl
instance : ElT Tryz.prog 134 1 8 := ElT.mk' (z := .nilFunc) (by kernel_rfl) rfl (by decide)
instance : Sz Tryz.prog 135 1 := Sz.mk' (by kernel_rfl)
instance : One Tryz.prog 135 := One.mk' Tryz.underlying135 rfl
instance : Zc Tryz.prog 135 [(.nilFunc)] := Zc.mk' (z := .nilFunc) (by kernel_rfl) rfl
instance : ElT Tryz.prog 135 1 8 := ElT.mk' (z := .nilFunc) (by kernel_rfl) rfl (by decide)
instance : Sz Tryz.prog 136 1 := Sz.mk' (by kernel_rfl)
instance : One Tryz.prog 136 := One.mk' Tryz.underlying136 rfl
instance : Zc Tryz.prog 136 [(.nilFunc)] := Zc.mk' (z := .nilFunc) (by kernel_rfl) rfl
instance : ElT Tryz.prog 136 1 8 := ElT.mk' (z := .nilFunc) (by kernel_rfl) rfl (by decide)
instance : Sz Tryz.prog 137 1 := Sz.mk' (by kernel_rfl)
instance : One Tryz.prog 137 := One.mk' Tryz.underlying137 rfl
instance : Zc Tryz.prog 137 [(.nilFunc)] := Zc.mk' (z := .nilFunc) (by kernel_rfl) rfl
instance : ElT Tryz.prog 137 1 8 := ElT.mk' (z := .nilFunc) (by kernel_rfl) rfl (by decide)
instance : Sz Tryz.prog 138 1 := Sz.mk' (by kernel_rfl)
instance : One Tryz.prog 138 := One.mk' Tryz.underlying138 rfl
instance : Zc Tryz.prog 138 [(.nilFunc)] := Zc.mk' (z := .nilFunc) (by kernel_rfl) rfl
instance : ElT Tryz.prog 138 1 8 := ElT.mk' (z := .nilFunc) (by kernel_rfl) rfl (by decide)
instance : Sz Tryz.prog 139 1 := Sz.mk' (by kernel_rfl)
instance : One Tryz.prog 139 := One.mk' Tryz.underlying139 rfl
instance : Zc Tryz.prog 139 [(.nilFunc)] := Zc.mk' (z := .nilFunc) (by kernel_rfl) rfl
instance : ElT Tryz.prog 139 1 8 := ElT.mk' (z := .nilFunc) (by kernel_rfl) rfl (by decide)
instance : Sz Tryz.prog 141 1 := Sz.mk' (by kernel_rfl)
instance : One Tryz.prog 141 := One.mk' Tryz.underlying141 rfl
instance : Zc Tryz.prog 141 [(.nilFunc)] := Zc.mk' (z := .nilFunc) (by kernel_rfl) rfl
instance : ElT Tryz.prog 141 1 8 := ElT.mk' (z := .nilFunc) (by kernel_rfl) rfl (by decide)
instance : Sz Tryz.prog 142 1 := Sz.mk' (by kernel_rfl)
instance : One Tryz.prog 142 := One.mk' Tryz.underlying142 rfl
instance : Zc Tryz.prog 142 [(.nilFunc)] := Zc.mk' (z := .nilFunc) (by kernel_rfl) rfl
instance : ElT Tryz.prog 142 1 8 := ElT.mk' (z := .nilFunc) (by kernel_rfl) rfl (by decide)
instance : Sz Tryz.prog 143 1 := Sz.mk' (by kernel_rfl)
instance : One Tryz.prog 143 := One.mk' Tryz.underlying143 rfl
instance : Zc Tryz.prog 143 [(.nilFunc)] := Zc.mk' (z := .nilFunc) (by kernel_rfl) rfl
instance : ElT Tryz.prog 143 1 8 := ElT.mk' (z := .nilFunc) (by kernel_rfl) rfl (by decide)
instance : Sz Tryz.prog 144 1 := Sz.mk' (by kernel_rfl)
instance : One Tryz.prog 144 := One.mk' Tryz.underlying144 rfl
instance : Zc Tryz.prog 144 [(.nilFunc)] := Zc.mk' (z := .nilFunc) (by kernel_rfl) rfl
instance : ElT Tryz.prog 144 1 8 := ElT.mk' (z := .nilFunc) (by kernel_rfl) rfl (by decide)
instance : Sz Tryz.prog 145 1 := Sz.mk' (by kernel_rfl)
instance : One Tryz.prog 145 := One.mk' Tryz.underlying145 rfl
instance : Zc Tryz.prog 145 [(.nilFunc)] := Zc.mk' (z := .nilFunc) (by kernel_rfl) rfl
instance : ElT Tryz.prog 145 1 8 := ElT.mk' (z := .nilFunc) (by kernel_rfl) rfl (by decide)
instance : Sz Tryz.prog 146 1 := Sz.mk' (by kernel_rfl)
instance : One Tryz.prog 146 := One.mk' Tryz.underlying146 rfl
instance : Zc Tryz.prog 146 [(.nilFunc)] := Zc.mk' (z := .nilFunc) (by kernel_rfl) rfl
instance : ElT Tryz.prog 146 1 8 := ElT.mk' (z := .nilFunc) (by kernel_rfl) rfl (by decide)
instance : Sz Tryz.prog 147 1 := Sz.mk' (by kernel_rfl)
instance : Ag Tryz.prog 147 := Ag.mk' Tryz.underlying147 rfl
instance : Fld Tryz.prog 147 0 0 66 := Fld.mk' Tryz.underlying147 rfl
instance : Zc Tryz.prog 147 [(.slice none 0 0)] := Zc.mk' (z := .agg #[(.slice none 0 0)]) (by kernel_rfl) rfl
instance : StT Tryz.prog 147 [(0, 1)] [(.slice none 0 0)] := StT.mk' (z := .agg #[(.slice none 0 0)]) Tryz.underlying147 (by kernel_rfl) rfl (by kernel_rfl)
instance : ElT Tryz.prog 147 1 24 := ElT.mk' (z := .agg #[(.slice none 0 0)]) (by kernel_rfl) rfl (by decide)
instance : Sz Tryz.prog 148 1 := Sz.mk' (by kernel_rfl)
instance : Ag Tryz.prog 148 := Ag.mk' Tryz.underlying148 rfl
instance : Fld Tryz.prog 148 0 0 66 := Fld.mk' Tryz.underlying148 rfl
instance : Zc Tryz.prog 148 [(.slice none 0 0)] := Zc.mk' (z := .agg #[(.slice none 0 0)]) (by kernel_rfl) rfl
instance : StT Tryz.prog 148 [(0, 1)] [(.slice none 0 0)] := StT.mk' (z := .agg #[(.slice none 0 0)]) Tryz.underlying148 (by kernel_rfl) rfl (by kernel_rfl)
instance : ElT Tryz.prog 148 1 24 := ElT.mk' (z := .agg #[(.slice none 0 0)]) (by kernel_rfl) rfl (by decide)
instance : Sz Tryz.prog 149 1 := Sz.mk' (by kernel_rfl)
instance : One Tryz.prog 149 := One.mk' Tryz.underlying149 rfl
instance : Zc Tryz.prog 149 [(.nilFunc)] := Zc.mk' (z := .nilFunc) (by kernel_rfl) rfl
instance : ElT Tryz.prog 149 1 8 := ElT.mk' (z := .nilFunc) (by kernel_rfl) rfl (by decide)
instance : Sz Tryz.prog 150 1 := Sz.mk' (by kernel_rfl)
instance : One Tryz.prog 150 := One.mk' Tryz.underlying150 rfl
instance : Zc Tryz.prog 150 [(.nilFunc)] := Zc.mk' (z := .nilFunc) (by kernel_rfl) rfl
instance : ElT Tryz.prog 150 1 8 := ElT.mk' (z := .nilFunc) (by kernel_rfl) rfl (by decide)
instance : Sz Tryz.prog 151 1 := Sz.mk' (by kernel_rfl)
instance : One Tryz.prog 151 := One.mk' Tryz.underlying151 rfl
instance : Zc Tryz.prog 151 [(.nilFunc)] := Zc.mk' (z := .nilFunc) (by kernel_rfl) rfl
instance : ElT Tryz.prog 151 1 8 := ElT.mk' (z := .nilFunc) (by kernel_rfl) rfl (by decide)
instance : Sz Tryz.prog 153 1 := Sz.mk' (by kernel_rfl)
instance : One Tryz.prog 153 := One.mk' Tryz.underlying153 rfl
instance : Zc Tryz.prog 153 [(.nilFunc)] := Zc.mk' (z := .nilFunc) (by kernel_rfl) rfl
instance : ElT Tryz.prog 153 1 8 := ElT.mk' (z := .nilFunc) (by kernel_rfl) rfl (by decide)
instance : Sz Tryz.prog 154 1 := Sz.mk' (by kernel_rfl)
instance : One Tryz.prog 154 := One.mk' Tryz.underlying154 rfl
instance : Zc Tryz.prog 154 [(.nilFunc)] := Zc.mk' (z := .nilFunc) (by kernel_rfl) rfl
instance : ElT Tryz.prog 154 1 8 := ElT.mk' (z := .nilFunc) (by kernel_rfl) rfl (by decide)
instance : Sz Tryz.prog 155 1 := Sz.mk' (by kernel_rfl)
instance : One Tryz.prog 155 := One.mk' Tryz.underlying155 rfl
instance : Zc Tryz.prog 155 [(.nilFunc)] := Zc.mk' (z := .nilFunc) (by kernel_rfl) rfl
instance : ElT Tryz.prog 155 1 8 := ElT.mk' (z := .nilFunc) (by kernel_rfl) rfl (by decide)
instance : Sz Tryz.prog 156 1 := Sz.mk' (by kernel_rfl)
instance : PtrT Tryz.prog 156 119 := ⟨Tryz.underlying156⟩
instance : One Tryz.prog 156 := One.mk' Tryz.underlying156 rfl
instance : Zc Tryz.prog 156 [(.pointer none)] := Zc.mk' (z := .pointer none) (by kernel_rfl) rfl
instance : ElT Tryz.prog 156 1 8 := ElT.mk' (z := .pointer none) (by kernel_rfl) rfl (by decide)
instance : Sz Tryz.prog 157 1 := Sz.mk' (by kernel_rfl)
instance : IntT Tryz.prog 157 .u64 := ⟨Tryz.underlying157⟩
instance : One Tryz.prog 157 := One.mk' Tryz.underlying157 rfl
instance : Zc Tryz.prog 157 [(.int .u64 0)] := Zc.mk' (z := .int .u64 0) (by kernel_rfl) rfl
instance : ElT Tryz.prog 157 1 8 := ElT.mk' (z := .int .u64 0) (by kernel_rfl) rfl (by decide)
instance : Sz Tryz.prog 158 1 := Sz.mk' (by kernel_rfl)
instance : One Tryz.prog 158 := One.mk' Tryz.underlying158 rfl
instance : Zc Tryz.prog 158 [(.nilFunc)] := Zc.mk' (z := .nilFunc) (by kernel_rfl) rfl
instance : ElT Tryz.prog 158 1 8 := ElT.mk' (z := .nilFunc) (by kernel_rfl) rfl (by decide)
instance : Sz Tryz.prog 159 1 := Sz.mk' (by kernel_rfl)
instance : One Tryz.prog 159 := One.mk' Tryz.underlying159 rfl
instance : Zc Tryz.prog 159 [(.nilFunc)] := Zc.mk' (z := .nilFunc) (by kernel_rfl) rfl
instance : ElT Tryz.prog 159 1 8 := ElT.mk' (z := .nilFunc) (by kernel_rfl) rfl (by decide)
instance : Sz Tryz.prog 160 1 := Sz.mk' (by kernel_rfl)
instance : One Tryz.prog 160 := One.mk' Tryz.underlying160 rfl
instance : Zc Tryz.prog 160 [(.nilFunc)] := Zc.mk' (z := .nilFunc) (by kernel_rfl) rfl
instance : ElT Tryz.prog 160 1 8 := ElT.mk' (z := .nilFunc) (by kernel_rfl) rfl (by decide)
instance : Sz Tryz.prog 161 1 := Sz.mk' (by kernel_rfl)
instance : One Tryz.prog 161 := One.mk' Tryz.underlying161 rfl
instance : Zc Tryz.prog 161 [(.nilFunc)] := Zc.mk' (z := .nilFunc) (by kernel_rfl) rfl
instance : ElT Tryz.prog 161 1 8 := ElT.mk' (z := .nilFunc) (by kernel_rfl) rfl (by decide)
instance : Sz Tryz.prog 162 1 := Sz.mk' (by kernel_rfl)
instance : One Tryz.prog 162 := One.mk' Tryz.underlying162 rfl
instance : Zc Tryz.prog 162 [(.nilFunc)] := Zc.mk' (z := .nilFunc) (by kernel_rfl) rfl
instance : ElT Tryz.prog 162 1 8 := ElT.mk' (z := .nilFunc) (by kernel_rfl) rfl (by decide)
instance : Sz Tryz.prog 163 1 := Sz.mk' (by kernel_rfl)
instance : One Tryz.prog 163 := One.mk' Tryz.underlying163 rfl
instance : Zc Tryz.prog 163 [(.nilFunc)] := Zc.mk' (z := .nilFunc) (by kernel_rfl) rfl
instance : ElT Tryz.prog 163 1 8 := ElT.mk' (z := .nilFunc) (by kernel_rfl) rfl (by decide)
instance : Sz Tryz.prog 164 1 := Sz.mk' (by kernel_rfl)
instance : One Tryz.prog 164 := One.mk' Tryz.underlying164 rfl
instance : Zc Tryz.prog 164 [(.nilFunc)] := Zc.mk' (z := .nilFunc) (by kernel_rfl) rfl
instance : ElT Tryz.prog 164 1 8 := ElT.mk' (z := .nilFunc) (by kernel_rfl) rfl (by decide)
instance : Sz Tryz.prog 166 1 := Sz.mk' (by kernel_rfl)
instance : One Tryz.prog 166 := One.mk' Tryz.underlying166 rfl
instance : Zc Tryz.prog 166 [(.nilFunc)] := Zc.mk' (z := .nilFunc) (by kernel_rfl) rfl
instance : ElT Tryz.prog 166 1 8 := ElT.mk' (z := .nilFunc) (by kernel_rfl) rfl (by decide)
instance : Sz Tryz.prog 167 1 := Sz.mk' (by kernel_rfl)
instance : One Tryz.prog 167 := One.mk' Tryz.underlying167 rfl
instance : Zc Tryz.prog 167 [(.nilFunc)] := Zc.mk' (z := .nilFunc) (by kernel_rfl) rfl
instance : ElT Tryz.prog 167 1 8 := ElT.mk' (z := .nilFunc) (by kernel_rfl) rfl (by decide)
instance : Sz Tryz.prog 168 1 := Sz.mk' (by kernel_rfl)
instance : One Tryz.prog 168 := One.mk' Tryz.underlying168 rfl
instance : Zc Tryz.prog 168 [(.nilFunc)] := Zc.mk' (z := .nilFunc) (by kernel_rfl) rfl
instance : ElT Tryz.prog 168 1 8 := ElT.mk' (z := .nilFunc) (by kernel_rfl) rfl (by decide)
instance : Sz Tryz.prog 169 1 := Sz.mk' (by kernel_rfl)
instance : One Tryz.prog 169 := One.mk' Tryz.underlying169 rfl
instance : Zc Tryz.prog 169 [(.nilFunc)] := Zc.mk' (z := .nilFunc) (by kernel_rfl) rfl
instance : ElT Tryz.prog 169 1 8 := ElT.mk' (z := .nilFunc) (by kernel_rfl) rfl (by decide)
instance : Sz Tryz.prog 170 1 := Sz.mk' (by kernel_rfl)
instance : PtrT Tryz.prog 170 148 := ⟨Tryz.underlying170⟩
instance : One Tryz.prog 170 := One.mk' Tryz.underlying170 rfl
instance : Zc Tryz.prog 170 [(.pointer none)] := Zc.mk' (z := .pointer none) (by kernel_rfl) rfl
instance : ElT Tryz.prog 170 1 8 := ElT.mk' (z := .pointer none) (by kernel_rfl) rfl (by decide)
instance : Sz Tryz.prog 171 1 := Sz.mk' (by kernel_rfl)
instance : One Tryz.prog 171 := One.mk' Tryz.underlying171 rfl
instance : Zc Tryz.prog 171 [(.nilFunc)] := Zc.mk' (z := .nilFunc) (by kernel_rfl) rfl
instance : ElT Tryz.prog 171 1 8 := ElT.mk' (z := .nilFunc) (by kernel_rfl) rfl (by decide)
instance : Sz Tryz.prog 172 1 := Sz.mk' (by kernel_rfl)
instance : One Tryz.prog 172 := One.mk' Tryz.underlying172 rfl
instance : Zc Tryz.prog 172 [(.nilFunc)] := Zc.mk' (z := .nilFunc) (by kernel_rfl) rfl
instance : ElT Tryz.prog 172 1 8 := ElT.mk' (z := .nilFunc) (by kernel_rfl) rfl (by decide)
instance : Sz Tryz.prog 173 1 := Sz.mk' (by kernel_rfl)
instance : One Tryz.prog 173 := One.mk' Tryz.underlying173 rfl
instance : Zc Tryz.prog 173 [(.nilFunc)] := Zc.mk' (z := .nilFunc) (by kernel_rfl) rfl
instance : ElT Tryz.prog 173 1 8 := ElT.mk' (z := .nilFunc) (by kernel_rfl) rfl (by decide)
instance : Sz Tryz.prog 174 1 := Sz.mk' (by kernel_rfl)
instance : One Tryz.prog 174 := One.mk' Tryz.underlying174 rfl
instance : Zc Tryz.prog 174 [(.nilFunc)] := Zc.mk' (z := .nilFunc) (by kernel_rfl) rfl
instance : ElT Tryz.prog 174 1 8 := ElT.mk' (z := .nilFunc) (by kernel_rfl) rfl (by decide)
instance : Sz Tryz.prog 175 1 := Sz.mk' (by kernel_rfl)
instance : One Tryz.prog 175 := One.mk' Tryz.underlying175 rfl
instance : Zc Tryz.prog 175 [(.nilFunc)] := Zc.mk' (z := .nilFunc) (by kernel_rfl) rfl
instance : ElT Tryz.prog 175 1 8 := ElT.mk' (z := .nilFunc) (by kernel_rfl) rfl (by decide)
instance : Sz Tryz.prog 176 1 := Sz.mk' (by kernel_rfl)
instance : One Tryz.prog 176 := One.mk' Tryz.underlying176 rfl
instance : Zc Tryz.prog 176 [(.nilFunc)] := Zc.mk' (z := .nilFunc) (by kernel_rfl) rfl
instance : ElT Tryz.prog 176 1 8 := ElT.mk' (z := .nilFunc) (by kernel_rfl) rfl (by decide)
instance : Sz Tryz.prog 177 1 := Sz.mk' (by kernel_rfl)
instance : One Tryz.prog 177 := One.mk' Tryz.underlying177 rfl
instance : Zc Tryz.prog 177 [(.nilFunc)] := Zc.mk' (z := .nilFunc) (by kernel_rfl) rfl
instance : ElT Tryz.prog 177 1 8 := ElT.mk' (z := .nilFunc) (by kernel_rfl) rfl (by decide)
instance : Sz Tryz.prog 178 1 := Sz.mk' (by kernel_rfl)
instance : One Tryz.prog 178 := One.mk' Tryz.underlying178 rfl
instance : Zc Tryz.prog 178 [(.nilFunc)] := Zc.mk' (z := .nilFunc) (by kernel_rfl) rfl
instance : ElT Tryz.prog 178 1 8 := ElT.mk' (z := .nilFunc) (by kernel_rfl) rfl (by decide)
instance : Sz Tryz.prog 179 1 := Sz.mk' (by kernel_rfl)
instance : SlT Tryz.prog 179 47 := ⟨Tryz.underlying179⟩
instance : One Tryz.prog 179 := One.mk' Tryz.underlying179 rfl
instance : Zc Tryz.prog 179 [(.slice none 0 0)] := Zc.mk' (z := .slice none 0 0) (by kernel_rfl) rfl
instance : ElT Tryz.prog 179 1 24 := ElT.mk' (z := .slice none 0 0) (by kernel_rfl) rfl (by decide)
instance : Sz Tryz.prog 180 1 := Sz.mk' (by kernel_rfl)
instance : One Tryz.prog 180 := One.mk' Tryz.underlying180 rfl
instance : Zc Tryz.prog 180 [(.nilFunc)] := Zc.mk' (z := .nilFunc) (by kernel_rfl) rfl
instance : ElT Tryz.prog 180 1 8 := ElT.mk' (z := .nilFunc) (by kernel_rfl) rfl (by decide)
instance : Sz Tryz.prog 181 1 := Sz.mk' (by kernel_rfl)
instance : SlT Tryz.prog 181 3 := ⟨Tryz.underlying181⟩
instance : One Tryz.prog 181 := One.mk' Tryz.underlying181 rfl
instance : Zc Tryz.prog 181 [(.slice none 0 0)] := Zc.mk' (z := .slice none 0 0) (by kernel_rfl) rfl
instance : ElT Tryz.prog 181 1 24 := ElT.mk' (z := .slice none 0 0) (by kernel_rfl) rfl (by decide)
instance : Sz Tryz.prog 182 1 := Sz.mk' (by kernel_rfl)
instance : One Tryz.prog 182 := One.mk' Tryz.underlying182 rfl
instance : Zc Tryz.prog 182 [(.nilFunc)] := Zc.mk' (z := .nilFunc) (by kernel_rfl) rfl
instance : ElT Tryz.prog 182 1 8 := ElT.mk' (z := .nilFunc) (by kernel_rfl) rfl (by decide)
instance : Sz Tryz.prog 183 1 := Sz.mk' (by kernel_rfl)
instance : One Tryz.prog 183 := One.mk' Tryz.underlying183 rfl
instance : Zc Tryz.prog 183 [(.nilFunc)] := Zc.mk' (z := .nilFunc) (by kernel_rfl) rfl
instance : ElT Tryz.prog 183 1 8 := ElT.mk' (z := .nilFunc) (by kernel_rfl) rfl (by decide)
instance : Sz Tryz.prog 184 1 := Sz.mk' (by kernel_rfl)
instance : One Tryz.prog 184 := One.mk' Tryz.underlying184 rfl
instance : Zc Tryz.prog 184 [(.nilFunc)] := Zc.mk' (z := .nilFunc) (by kernel_rfl) rfl
instance : ElT Tryz.prog 184 1 8 := ElT.mk' (z := .nilFunc) (by kernel_rfl) rfl (by decide)
instance : Sz Tryz.prog 185 1 := Sz.mk' (by kernel_rfl)
instance : One Tryz.prog 185 := One.mk' Tryz.underlying185 rfl
instance : Zc Tryz.prog 185 [(.nilFunc)] := Zc.mk' (z := .nilFunc) (by kernel_rfl) rfl
instance : ElT Tryz.prog 185 1 8 := ElT.mk' (z := .nilFunc) (by kernel_rfl) rfl (by decide)
instance : Sz Tryz.prog 186 1 := Sz.mk' (by kernel_rfl)
instance : One Tryz.prog 186 := One.mk' Tryz.underlying186 rfl
instance : Zc Tryz.prog 186 [(.nilFunc)] := Zc.mk' (z := .nilFunc) (by kernel_rfl) rfl
instance : ElT Tryz.prog 186 1 8 := ElT.mk' (z := .nilFunc) (by kernel_rfl) rfl (by decide)
instance : Sz Tryz.prog 187 1 := Sz.mk' (by kernel_rfl)
instance : One Tryz.prog 187 := One.mk' Tryz.underlying187 rfl
instance : Zc Tryz.prog 187 [(.nilFunc)] := Zc.mk' (z := .nilFunc) (by kernel_rfl) rfl
instance : ElT Tryz.prog 187 1 8 := ElT.mk' (z := .nilFunc) (by kernel_rfl) rfl (by decide)
instance : Sz Tryz.prog 188 1 := Sz.mk' (by kernel_rfl)
instance : SlT Tryz.prog 188 23 := ⟨Tryz.underlying188⟩
instance : One Tryz.prog 188 := One.mk' Tryz.underlying188 rfl
instance : Zc Tryz.prog 188 [(.slice none 0 0)] := Zc.mk' (z := .slice none 0 0) (by kernel_rfl) rfl
instance : ElT Tryz.prog 188 1 24 := ElT.mk' (z := .slice none 0 0) (by kernel_rfl) rfl (by decide)
instance : Sz Tryz.prog 189 1 := Sz.mk' (by kernel_rfl)
instance : One Tryz.prog 189 := One.mk' Tryz.underlying189 rfl
instance : Zc Tryz.prog 189 [(.nilFunc)] := Zc.mk' (z := .nilFunc) (by kernel_rfl) rfl
instance : ElT Tryz.prog 189 1 8 := ElT.mk' (z := .nilFunc) (by kernel_rfl) rfl (by decide)
instance : Sz Tryz.prog 190 1 := Sz.mk' (by kernel_rfl)
instance : One Tryz.prog 190 := One.mk' Tryz.underlying190 rfl
instance : Zc Tryz.prog 190 [(.nilFunc)] := Zc.mk' (z := .nilFunc) (by kernel_rfl) rfl
instance : ElT Tryz.prog 190 1 8 := ElT.mk' (z := .nilFunc) (by kernel_rfl) rfl (by decide)
instance : Sz Tryz.prog 191 1 := Sz.mk' (by kernel_rfl)
instance : One Tryz.prog 191 := One.mk' Tryz.underlying191 rfl
instance : Zc Tryz.prog 191 [(.nilFunc)] := Zc.mk' (z := .nilFunc) (by kernel_rfl) rfl
instance : ElT Tryz.prog 191 1 8 := ElT.mk' (z := .nilFunc) (by kernel_rfl) rfl (by decide)
instance : Sz Tryz.prog 192 1 := Sz.mk' (by kernel_rfl)
instance : IntT Tryz.prog 192 .i64 := ⟨Tryz.underlying192⟩
instance : One Tryz.prog 192 := One.mk' Tryz.underlying192 rfl
instance : Zc Tryz.prog 192 [(.int .i64 0)] := Zc.mk' (z := .int .i64 0) (by kernel_rfl) rfl
instance : ElT Tryz.prog 192 1 8 := ElT.mk' (z := .int .i64 0) (by kernel_rfl) rfl (by decide)
instance : Sz Tryz.prog 194 1 := Sz.mk' (by kernel_rfl)
instance : One Tryz.prog 194 := One.mk' Tryz.underlying194 rfl
instance : Zc Tryz.prog 194 [(.nilFunc)] := Zc.mk' (z := .nilFunc) (by kernel_rfl) rfl
instance : ElT Tryz.prog 194 1 8 := ElT.mk' (z := .nilFunc) (by kernel_rfl) rfl (by decide)
instance : Sz Tryz.prog 195 1 := Sz.mk' (by kernel_rfl)
instance : One Tryz.prog 195 := One.mk' Tryz.underlying195 rfl
instance : Zc Tryz.prog 195 [(.nilFunc)] := Zc.mk' (z := .nilFunc) (by kernel_rfl) rfl
instance : ElT Tryz.prog 195 1 8 := ElT.mk' (z := .nilFunc) (by kernel_rfl) rfl (by decide)
instance : Sz Tryz.prog 196 1 := Sz.mk' (by kernel_rfl)
instance : One Tryz.prog 196 := One.mk' Tryz.underlying196 rfl
instance : Zc Tryz.prog 196 [(.nilFunc)] := Zc.mk' (z := .nilFunc) (by kernel_rfl) rfl
instance : ElT Tryz.prog 196 1 8 := ElT.mk' (z := .nilFunc) (by kernel_rfl) rfl (by decide)
instance : Sz Tryz.prog 197 1 := Sz.mk' (by kernel_rfl)
instance : One Tryz.prog 197 := One.mk' Tryz.underlying197 rfl
instance : Zc Tryz.prog 197 [(.nilFunc)] := Zc.mk' (z := .nilFunc) (by kernel_rfl) rfl
instance : ElT Tryz.prog 197 1 8 := ElT.mk' (z := .nilFunc) (by kernel_rfl) rfl (by decide)
instance : Sz Tryz.prog 198 1 := Sz.mk' (by kernel_rfl)
instance : One Tryz.prog 198 := One.mk' Tryz.underlying198 rfl
instance : Zc Tryz.prog 198 [(.nilFunc)] := Zc.mk' (z := .nilFunc) (by kernel_rfl) rfl
instance : ElT Tryz.prog 198 1 8 := ElT.mk' (z := .nilFunc) (by kernel_rfl) rfl (by decide)
instance : Sz Tryz.prog 199 1 := Sz.mk' (by kernel_rfl)
instance : IntT Tryz.prog 199 .u64 := ⟨Tryz.underlying199⟩
instance : One Tryz.prog 199 := One.mk' Tryz.underlying199 rfl
instance : Zc Tryz.prog 199 [(.int .u64 0)] := Zc.mk' (z := .int .u64 0) (by kernel_rfl) rfl
instance : ElT Tryz.prog 199 1 8 := ElT.mk' (z := .int .u64 0) (by kernel_rfl) rfl (by decide)
instance : Sz Tryz.prog 200 1 := Sz.mk' (by kernel_rfl)
instance : One Tryz.prog 200 := One.mk' Tryz.underlying200 rfl
instance : Zc Tryz.prog 200 [(.nilFunc)] := Zc.mk' (z := .nilFunc) (by kernel_rfl) rfl
instance : ElT Tryz.prog 200 1 8 := ElT.mk' (z := .nilFunc) (by kernel_rfl) rfl (by decide)
instance : Sz Tryz.prog 201 1 := Sz.mk' (by kernel_rfl)
instance : One Tryz.prog 201 := One.mk' Tryz.underlying201 rfl
instance : Zc Tryz.prog 201 [(.nilFunc)] := Zc.mk' (z := .nilFunc) (by kernel_rfl) rfl
instance : ElT Tryz.prog 201 1 8 := ElT.mk' (z := .nilFunc) (by kernel_rfl) rfl (by decide)
instance : Sz Tryz.prog 202 1 := Sz.mk' (by kernel_rfl)
instance : PtrT Tryz.prog 202 3 := ⟨Tryz.underlying202⟩
instance : One Tryz.prog 202 := One.mk' Tryz.underlying202 rfl
instance : Zc Tryz.prog 202 [(.pointer none)] := Zc.mk' (z := .pointer none) (by kernel_rfl) rfl
instance : ElT Tryz.prog 202 1 8 := ElT.mk' (z := .pointer none) (by kernel_rfl) rfl (by decide)
instance : Sz Tryz.prog 203 1 := Sz.mk' (by kernel_rfl)
instance : One Tryz.prog 203 := One.mk' Tryz.underlying203 rfl
instance : Zc Tryz.prog 203 [(.nilFunc)] := Zc.mk' (z := .nilFunc) (by kernel_rfl) rfl
instance : ElT Tryz.prog 203 1 8 := ElT.mk' (z := .nilFunc) (by kernel_rfl) rfl (by decide)
instance : Sz Tryz.prog 204 1 := Sz.mk' (by kernel_rfl)
instance : PtrT Tryz.prog 204 199 := ⟨Tryz.underlying204⟩
instance : One Tryz.prog 204 := One.mk' Tryz.underlying204 rfl
instance : Zc Tryz.prog 204 [(.pointer none)] := Zc.mk' (z := .pointer none) (by kernel_rfl) rfl
instance : ElT Tryz.prog 204 1 8 := ElT.mk' (z := .pointer none) (by kernel_rfl) rfl (by decide)
instance : Sz Tryz.prog 206 1 := Sz.mk' (by kernel_rfl)
instance : One Tryz.prog 206 := One.mk' Tryz.underlying206 rfl
instance : Zc Tryz.prog 206 [(.nilFunc)] := Zc.mk' (z := .nilFunc) (by kernel_rfl) rfl
instance : ElT Tryz.prog 206 1 8 := ElT.mk' (z := .nilFunc) (by kernel_rfl) rfl (by decide)
instance : Sz Tryz.prog 207 4 := Sz.mk' (by kernel_rfl)
instance : Ag Tryz.prog 207 := Ag.mk' Tryz.underlying207 rfl
instance : Fld Tryz.prog 207 0 0 17 := Fld.mk' Tryz.underlying207 rfl
instance : Fld Tryz.prog 207 1 1 17 := Fld.mk' Tryz.underlying207 rfl
instance : Fld Tryz.prog 207 2 2 17 := Fld.mk' Tryz.underlying207 rfl
instance : Fld Tryz.prog 207 3 3 9 := Fld.mk' Tryz.underlying207 rfl
instance : Zc Tryz.prog 207 [(.pointer none), (.pointer none), (.pointer none), (.string ByteArray.empty)] := Zc.mk' (z := .agg #[(.pointer none), (.pointer none), (.pointer none), (.string ByteArray.empty)]) (by kernel_rfl) rfl
instance : StT Tryz.prog 207 [(0, 1), (1, 1), (2, 1), (3, 1)] [(.pointer none), (.pointer none), (.pointer none), (.string ByteArray.empty)] := StT.mk' (z := .agg #[(.pointer none), (.pointer none), (.pointer none), (.string ByteArray.empty)]) Tryz.underlying207 (by kernel_rfl) rfl (by kernel_rfl)
instance : ElT Tryz.prog 207 4 40 := ElT.mk' (z := .agg #[(.pointer none), (.pointer none), (.pointer none), (.string ByteArray.empty)]) (by kernel_rfl) rfl (by decide)
instance : Sz Tryz.prog 208 4 := Sz.mk' (by kernel_rfl)
instance : Ag Tryz.prog 208 := Ag.mk' Tryz.underlying208 rfl
instance : Fld Tryz.prog 208 0 0 17 := Fld.mk' Tryz.underlying208 rfl
instance : Fld Tryz.prog 208 1 1 17 := Fld.mk' Tryz.underlying208 rfl
instance : Fld Tryz.prog 208 2 2 17 := Fld.mk' Tryz.underlying208 rfl
instance : Fld Tryz.prog 208 3 3 9 := Fld.mk' Tryz.underlying208 rfl
instance : Zc Tryz.prog 208 [(.pointer none), (.pointer none), (.pointer none), (.string ByteArray.empty)] := Zc.mk' (z := .agg #[(.pointer none), (.pointer none), (.pointer none), (.string ByteArray.empty)]) (by kernel_rfl) rfl
instance : StT Tryz.prog 208 [(0, 1), (1, 1), (2, 1), (3, 1)] [(.pointer none), (.pointer none), (.pointer none), (.string ByteArray.empty)] := StT.mk' (z := .agg #[(.pointer none), (.pointer none), (.pointer none), (.string ByteArray.empty)]) Tryz.underlying208 (by kernel_rfl) rfl (by kernel_rfl)
instance : ElT Tryz.prog 208 4 40 := ElT.mk' (z := .agg #[(.pointer none), (.pointer none), (.pointer none), (.string ByteArray.empty)]) (by kernel_rfl) rfl (by decide)
instance : Sz Tryz.prog 209 0 := Sz.mk' (by kernel_rfl)
instance : ArrT Tryz.prog 209 0 16 := ⟨Tryz.underlying209⟩
instance : Ag Tryz.prog 209 := Ag.mk' Tryz.underlying209 rfl
instance : Zc Tryz.prog 209 [] := Zc.mk' (z := .agg #[]) (by kernel_rfl) rfl
instance : Sz Tryz.prog 210 0 := Sz.mk' (by kernel_rfl)
instance : Ag Tryz.prog 210 := Ag.mk' Tryz.underlying210 rfl
instance : Fld Tryz.prog 210 0 0 209 := Fld.mk' Tryz.underlying210 rfl
instance : Zc Tryz.prog 210 [] := Zc.mk' (z := .agg #[]) (by kernel_rfl) rfl
instance : StT Tryz.prog 210 [(0, 0)] [] := StT.mk' (z := .agg #[]) Tryz.underlying210 (by kernel_rfl) rfl (by kernel_rfl)
instance : Sz Tryz.prog 211 0 := Sz.mk' (by kernel_rfl)
instance : Ag Tryz.prog 211 := Ag.mk' Tryz.underlying211 rfl
instance : Fld Tryz.prog 211 0 0 209 := Fld.mk' Tryz.underlying211 rfl
instance : Zc Tryz.prog 211 [] := Zc.mk' (z := .agg #[]) (by kernel_rfl) rfl
instance : StT Tryz.prog 211 [(0, 0)] [] := StT.mk' (z := .agg #[]) Tryz.underlying211 (by kernel_rfl) rfl (by kernel_rfl)
instance : Sz Tryz.prog 212 1 := Sz.mk' (by kernel_rfl)
instance : IntT Tryz.prog 212 .u8 := ⟨Tryz.underlying212⟩
instance : One Tryz.prog 212 := One.mk' Tryz.underlying212 rfl
instance : Zc Tryz.prog 212 [(.int .u8 0)] := Zc.mk' (z := .int .u8 0) (by kernel_rfl) rfl
instance : ElT Tryz.prog 212 1 1 := ElT.mk' (z := .int .u8 0) (by kernel_rfl) rfl (by decide)
instance : Sz Tryz.prog 213 1 := Sz.mk' (by kernel_rfl)
instance : IntT Tryz.prog 213 .u8 := ⟨Tryz.underlying213⟩
instance : One Tryz.prog 213 := One.mk' Tryz.underlying213 rfl
instance : Zc Tryz.prog 213 [(.int .u8 0)] := Zc.mk' (z := .int .u8 0) (by kernel_rfl) rfl
instance : ElT Tryz.prog 213 1 1 := ElT.mk' (z := .int .u8 0) (by kernel_rfl) rfl (by decide)
instance : Sz Tryz.prog 214 1 := Sz.mk' (by kernel_rfl)
instance : One Tryz.prog 214 := One.mk' Tryz.underlying214 rfl
instance : Zc Tryz.prog 214 [(.nilFunc)] := Zc.mk' (z := .nilFunc) (by kernel_rfl) rfl
instance : ElT Tryz.prog 214 1 8 := ElT.mk' (z := .nilFunc) (by kernel_rfl) rfl (by decide)
instance : Sz Tryz.prog 215 1 := Sz.mk' (by kernel_rfl)
instance : PtrT Tryz.prog 215 5 := ⟨Tryz.underlying215⟩
instance : One Tryz.prog 215 := One.mk' Tryz.underlying215 rfl
instance : Zc Tryz.prog 215 [(.pointer none)] := Zc.mk' (z := .pointer none) (by kernel_rfl) rfl
instance : ElT Tryz.prog 215 1 8 := ElT.mk' (z := .pointer none) (by kernel_rfl) rfl (by decide)
instance : Sz Tryz.prog 216 1 := Sz.mk' (by kernel_rfl)
instance : IntT Tryz.prog 216 .i32 := ⟨Tryz.underlying216⟩
instance : One Tryz.prog 216 := One.mk' Tryz.underlying216 rfl
instance : Zc Tryz.prog 216 [(.int .i32 0)] := Zc.mk' (z := .int .i32 0) (by kernel_rfl) rfl
instance : ElT Tryz.prog 216 1 4 := ElT.mk' (z := .int .i32 0) (by kernel_rfl) rfl (by decide)
instance : Sz Tryz.prog 217 1 := Sz.mk' (by kernel_rfl)
instance : IntT Tryz.prog 217 .i32 := ⟨Tryz.underlying217⟩
instance : One Tryz.prog 217 := One.mk' Tryz.underlying217 rfl
instance : Zc Tryz.prog 217 [(.int .i32 0)] := Zc.mk' (z := .int .i32 0) (by kernel_rfl) rfl
instance : ElT Tryz.prog 217 1 4 := ElT.mk' (z := .int .i32 0) (by kernel_rfl) rfl (by decide)
instance : Sz Tryz.prog 218 11 := Sz.mk' (by kernel_rfl)
instance : Ag Tryz.prog 218 := Ag.mk' Tryz.underlying218 rfl
instance : Fld Tryz.prog 218 0 0 12 := Fld.mk' Tryz.underlying218 rfl
instance : Fld Tryz.prog 218 1 1 12 := Fld.mk' Tryz.underlying218 rfl
instance : Fld Tryz.prog 218 2 2 79 := Fld.mk' Tryz.underlying218 rfl
instance : Fld Tryz.prog 218 3 3 212 := Fld.mk' Tryz.underlying218 rfl
instance : Fld Tryz.prog 218 4 4 5 := Fld.mk' Tryz.underlying218 rfl
instance : Fld Tryz.prog 218 5 5 5 := Fld.mk' Tryz.underlying218 rfl
instance : Fld Tryz.prog 218 6 6 213 := Fld.mk' Tryz.underlying218 rfl
instance : Fld Tryz.prog 218 7 7 214 := Fld.mk' Tryz.underlying218 rfl
instance : Fld Tryz.prog 218 8 8 215 := Fld.mk' Tryz.underlying218 rfl
instance : Fld Tryz.prog 218 9 9 216 := Fld.mk' Tryz.underlying218 rfl
instance : Fld Tryz.prog 218 10 10 217 := Fld.mk' Tryz.underlying218 rfl
instance : Zc Tryz.prog 218 [(.int .u64 0), (.int .u64 0), (.int .u32 0), (.int .u8 0), (.int .u8 0), (.int .u8 0), (.int .u8 0), (.nilFunc), (.pointer none), (.int .i32 0), (.int .i32 0)] := Zc.mk' (z := .agg #[(.int .u64 0), (.int .u64 0), (.int .u32 0), (.int .u8 0), (.int .u8 0), (.int .u8 0), (.int .u8 0), (.nilFunc), (.pointer none), (.int .i32 0), (.int .i32 0)]) (by kernel_rfl) rfl
instance : StT Tryz.prog 218 [(0, 1), (1, 1), (2, 1), (3, 1), (4, 1), (5, 1), (6, 1), (7, 1), (8, 1), (9, 1), (10, 1)] [(.int .u64 0), (.int .u64 0), (.int .u32 0), (.int .u8 0), (.int .u8 0), (.int .u8 0), (.int .u8 0), (.nilFunc), (.pointer none), (.int .i32 0), (.int .i32 0)] := StT.mk' (z := .agg #[(.int .u64 0), (.int .u64 0), (.int .u32 0), (.int .u8 0), (.int .u8 0), (.int .u8 0), (.int .u8 0), (.nilFunc), (.pointer none), (.int .i32 0), (.int .i32 0)]) Tryz.underlying218 (by kernel_rfl) rfl (by kernel_rfl)
instance : ElT Tryz.prog 218 11 48 := ElT.mk' (z := .agg #[(.int .u64 0), (.int .u64 0), (.int .u32 0), (.int .u8 0), (.int .u8 0), (.int .u8 0), (.int .u8 0), (.nilFunc), (.pointer none), (.int .i32 0), (.int .i32 0)]) (by kernel_rfl) rfl (by decide)
instance : Sz Tryz.prog 219 11 := Sz.mk' (by kernel_rfl)
instance : Ag Tryz.prog 219 := Ag.mk' Tryz.underlying219 rfl
instance : Fld Tryz.prog 219 0 0 12 := Fld.mk' Tryz.underlying219 rfl
instance : Fld Tryz.prog 219 1 1 12 := Fld.mk' Tryz.underlying219 rfl
instance : Fld Tryz.prog 219 2 2 79 := Fld.mk' Tryz.underlying219 rfl
instance : Fld Tryz.prog 219 3 3 212 := Fld.mk' Tryz.underlying219 rfl
instance : Fld Tryz.prog 219 4 4 5 := Fld.mk' Tryz.underlying219 rfl
instance : Fld Tryz.prog 219 5 5 5 := Fld.mk' Tryz.underlying219 rfl
instance : Fld Tryz.prog 219 6 6 213 := Fld.mk' Tryz.underlying219 rfl
instance : Fld Tryz.prog 219 7 7 214 := Fld.mk' Tryz.underlying219 rfl
instance : Fld Tryz.prog 219 8 8 215 := Fld.mk' Tryz.underlying219 rfl
instance : Fld Tryz.prog 219 9 9 216 := Fld.mk' Tryz.underlying219 rfl
instance : Fld Tryz.prog 219 10 10 217 := Fld.mk' Tryz.underlying219 rfl
instance : Zc Tryz.prog 219 [(.int .u64 0), (.int .u64 0), (.int .u32 0), (.int .u8 0), (.int .u8 0), (.int .u8 0), (.int .u8 0), (.nilFunc), (.pointer none), (.int .i32 0), (.int .i32 0)] := Zc.mk' (z := .agg #[(.int .u64 0), (.int .u64 0), (.int .u32 0), (.int .u8 0), (.int .u8 0), (.int .u8 0), (.int .u8 0), (.nilFunc), (.pointer none), (.int .i32 0), (.int .i32 0)]) (by kernel_rfl) rfl
instance : StT Tryz.prog 219 [(0, 1), (1, 1), (2, 1), (3, 1), (4, 1), (5, 1), (6, 1), (7, 1), (8, 1), (9, 1), (10, 1)] [(.int .u64 0), (.int .u64 0), (.int .u32 0), (.int .u8 0), (.int .u8 0), (.int .u8 0), (.int .u8 0), (.nilFunc), (.pointer none), (.int .i32 0), (.int .i32 0)] := StT.mk' (z := .agg #[(.int .u64 0), (.int .u64 0), (.int .u32 0), (.int .u8 0), (.int .u8 0), (.int .u8 0), (.int .u8 0), (.nilFunc), (.pointer none), (.int .i32 0), (.int .i32 0)]) Tryz.underlying219 (by kernel_rfl) rfl (by kernel_rfl)
instance : ElT Tryz.prog 219 11 48 := ElT.mk' (z := .agg #[(.int .u64 0), (.int .u64 0), (.int .u32 0), (.int .u8 0), (.int .u8 0), (.int .u8 0), (.int .u8 0), (.nilFunc), (.pointer none), (.int .i32 0), (.int .i32 0)]) (by kernel_rfl) rfl (by decide)
instance : Sz Tryz.prog 220 1 := Sz.mk' (by kernel_rfl)
instance : One Tryz.prog 220 := One.mk' Tryz.underlying220 rfl
instance : Zc Tryz.prog 220 [(.pointer none)] := Zc.mk' (z := .pointer none) (by kernel_rfl) rfl
instance : ElT Tryz.prog 220 1 8 := ElT.mk' (z := .pointer none) (by kernel_rfl) rfl (by decide)
instance : Enters Tryz.prog 3 := Enters.mk' Tryz.func3 (by kernel_rfl) (by kernel_rfl)
instance : Enters Tryz.prog 4 := Enters.mk' Tryz.func4 (by kernel_rfl) (by kernel_rfl)
instance : Enters Tryz.prog 5 := Enters.mk' Tryz.func5 (by kernel_rfl) (by kernel_rfl)
instance : Enters Tryz.prog 6 := Enters.mk' Tryz.func6 (by kernel_rfl) (by kernel_rfl)
instance : Enters Tryz.prog 7 := Enters.mk' Tryz.func7 (by kernel_rfl) (by kernel_rfl)
instance : Enters Tryz.prog 8 := Enters.mk' Tryz.func8 (by kernel_rfl) (by kernel_rfl)
instance : Enters Tryz.prog 9 := Enters.mk' Tryz.func9 (by kernel_rfl) (by kernel_rfl)
instance : Enters Tryz.prog 10 := Enters.mk' Tryz.func10 (by kernel_rfl) (by kernel_rfl)
instance : Enters Tryz.prog 11 := Enters.mk' Tryz.func11 (by kernel_rfl) (by kernel_rfl)
instance : Enters Tryz.prog 12 := Enters.mk' Tryz.func12 (by kernel_rfl) (by kernel_rfl)
instance : Enters Tryz.prog 13 := Enters.mk' Tryz.func13 (by kernel_rfl) (by kernel_rfl)
instance : Enters Tryz.prog 14 := Enters.mk' Tryz.func14 (by kernel_rfl) (by kernel_rfl)
instance : Enters Tryz.prog 15 := Enters.mk' Tryz.func15 (by kernel_rfl) (by kernel_rfl)
instance : Enters Tryz.prog 16 := Enters.mk' Tryz.func16 (by kernel_rfl) (by kernel_rfl)
instance : Enters Tryz.prog 17 := Enters.mk' Tryz.func17 (by kernel_rfl) (by kernel_rfl)
instance : Enters Tryz.prog 18 := Enters.mk' Tryz.func18 (by kernel_rfl) (by kernel_rfl)
instance : Enters Tryz.prog 19 := Enters.mk' Tryz.func19 (by kernel_rfl) (by kernel_rfl)
instance : Enters Tryz.prog 20 := Enters.mk' Tryz.func20 (by kernel_rfl) (by kernel_rfl)
instance : Enters Tryz.prog 21 := Enters.mk' Tryz.func21 (by kernel_rfl) (by kernel_rfl)
instance : Enters Tryz.prog 22 := Enters.mk' Tryz.func22 (by kernel_rfl) (by kernel_rfl)
instance : Enters Tryz.prog 23 := Enters.mk' Tryz.func23 (by kernel_rfl) (by kernel_rfl)
instance : Enters Tryz.prog 24 := Enters.mk' Tryz.func24 (by kernel_rfl) (by kernel_rfl)
instance : Enters Tryz.prog 25 := Enters.mk' Tryz.func25 (by kernel_rfl) (by kernel_rfl)
instance : Enters Tryz.prog 26 := Enters.mk' Tryz.func26 (by kernel_rfl) (by kernel_rfl)
instance : Enters Tryz.prog 27 := Enters.mk' Tryz.func27 (by kernel_rfl) (by kernel_rfl)
instance : Enters Tryz.prog 28 := Enters.mk' Tryz.func28 (by kernel_rfl) (by kernel_rfl)
instance : Enters Tryz.prog 29 := Enters.mk' Tryz.func29 (by kernel_rfl) (by kernel_rfl)
instance : Enters Tryz.prog 30 := Enters.mk' Tryz.func30 (by kernel_rfl) (by kernel_rfl)
instance : Enters Tryz.prog 31 := Enters.mk' Tryz.func31 (by kernel_rfl) (by kernel_rfl)
instance : Enters Tryz.prog 32 := Enters.mk' Tryz.func32 (by kernel_rfl) (by kernel_rfl)
instance : Enters Tryz.prog 33 := Enters.mk' Tryz.func33 (by kernel_rfl) (by kernel_rfl)
instance : Enters Tryz.prog 34 := Enters.mk' Tryz.func34 (by kernel_rfl) (by kernel_rfl)
instance : Enters Tryz.prog 35 := Enters.mk' Tryz.func35 (by kernel_rfl) (by kernel_rfl)
instance : Enters Tryz.prog 36 := Enters.mk' Tryz.func36 (by kernel_rfl) (by kernel_rfl)
instance : Enters Tryz.prog 37 := Enters.mk' Tryz.func37 (by kernel_rfl) (by kernel_rfl)
instance : Enters Tryz.prog 38 := Enters.mk' Tryz.func38 (by kernel_rfl) (by kernel_rfl)
instance : Enters Tryz.prog 39 := Enters.mk' Tryz.func39 (by kernel_rfl) (by kernel_rfl)
instance : Enters Tryz.prog 40 := Enters.mk' Tryz.func40 (by kernel_rfl) (by kernel_rfl)
instance : Enters Tryz.prog 41 := Enters.mk' Tryz.func41 (by kernel_rfl) (by kernel_rfl)
instance : Enters Tryz.prog 42 := Enters.mk' Tryz.func42 (by kernel_rfl) (by kernel_rfl)
instance : Enters Tryz.prog 43 := Enters.mk' Tryz.func43 (by kernel_rfl) (by kernel_rfl)
instance : Enters Tryz.prog 44 := Enters.mk' Tryz.func44 (by kernel_rfl) (by kernel_rfl)
instance : Enters Tryz.prog 45 := Enters.mk' Tryz.func45 (by kernel_rfl) (by kernel_rfl)
instance : Enters Tryz.prog 46 := Enters.mk' Tryz.func46 (by kernel_rfl) (by kernel_rfl)
instance : Enters Tryz.prog 47 := Enters.mk' Tryz.func47 (by kernel_rfl) (by kernel_rfl)
instance : Enters Tryz.prog 48 := Enters.mk' Tryz.func48 (by kernel_rfl) (by kernel_rfl)
instance : Enters Tryz.prog 49 := Enters.mk' Tryz.func49 (by kernel_rfl) (by kernel_rfl)
instance : Enters Tryz.prog 50 := Enters.mk' Tryz.func50 (by kernel_rfl) (by kernel_rfl)
instance : Enters Tryz.prog 51 := Enters.mk' Tryz.func51 (by kernel_rfl) (by kernel_rfl)
instance : Enters Tryz.prog 52 := Enters.mk' Tryz.func52 (by kernel_rfl) (by kernel_rfl)
instance : Enters Tryz.prog 53 := Enters.mk' Tryz.func53 (by kernel_rfl) (by kernel_rfl)
instance : Enters Tryz.prog 54 := Enters.mk' Tryz.func54 (by kernel_rfl) (by kernel_rfl)
instance : Enters Tryz.prog 55 := Enters.mk' Tryz.func55 (by kernel_rfl) (by kernel_rfl)
instance : Enters Tryz.prog 56 := Enters.mk' Tryz.func56 (by kernel_rfl) (by kernel_rfl)
instance : Enters Tryz.prog 57 := Enters.mk' Tryz.func57 (by kernel_rfl) (by kernel_rfl)
instance : Enters Tryz.prog 58 := Enters.mk' Tryz.func58 (by kernel_rfl) (by kernel_rfl)
instance : Enters Tryz.prog 59 := Enters.mk' Tryz.func59 (by kernel_rfl) (by kernel_rfl)
instance : Enters Tryz.prog 60 := Enters.mk' Tryz.func60 (by kernel_rfl) (by kernel_rfl)
instance : Enters Tryz.prog 61 := Enters.mk' Tryz.func61 (by kernel_rfl) (by kernel_rfl)
instance : Enters Tryz.prog 62 := Enters.mk' Tryz.func62 (by kernel_rfl) (by kernel_rfl)
instance : Enters Tryz.prog 63 := Enters.mk' Tryz.func63 (by kernel_rfl) (by kernel_rfl)
instance : Enters Tryz.prog 64 := Enters.mk' Tryz.func64 (by kernel_rfl) (by kernel_rfl)
instance : Enters Tryz.prog 65 := Enters.mk' Tryz.func65 (by kernel_rfl) (by kernel_rfl)
instance : Enters Tryz.prog 66 := Enters.mk' Tryz.func66 (by kernel_rfl) (by kernel_rfl)
instance : Enters Tryz.prog 67 := Enters.mk' Tryz.func67 (by kernel_rfl) (by kernel_rfl)
instance : Enters Tryz.prog 68 := Enters.mk' Tryz.func68 (by kernel_rfl) (by kernel_rfl)
instance : Enters Tryz.prog 69 := Enters.mk' Tryz.func69 (by kernel_rfl) (by kernel_rfl)
instance : Enters Tryz.prog 70 := Enters.mk' Tryz.func70 (by kernel_rfl) (by kernel_rfl)
instance : Enters Tryz.prog 71 := Enters.mk' Tryz.func71 (by kernel_rfl) (by kernel_rfl)
instance : Enters Tryz.prog 72 := Enters.mk' Tryz.func72 (by kernel_rfl) (by kernel_rfl)
instance : Enters Tryz.prog 73 := Enters.mk' Tryz.func73 (by kernel_rfl) (by kernel_rfl)
instance : Enters Tryz.prog 74 := Enters.mk' Tryz.func74 (by kernel_rfl) (by kernel_rfl)
instance : Enters Tryz.prog 75 := Enters.mk' Tryz.func75 (by kernel_rfl) (by kernel_rfl)
instance : Enters Tryz.prog 76 := Enters.mk' Tryz.func76 (by kernel_rfl) (by kernel_rfl)
instance : Enters Tryz.prog 77 := Enters.mk' Tryz.func77 (by kernel_rfl) (by kernel_rfl)
instance : Enters Tryz.prog 78 := Enters.mk' Tryz.func78 (by kernel_rfl) (by kernel_rfl)
instance : Enters Tryz.prog 79 := Enters.mk' Tryz.func79 (by kernel_rfl) (by kernel_rfl)
instance : Enters Tryz.prog 80 := Enters.mk' Tryz.func80 (by kernel_rfl) (by kernel_rfl)
instance : Enters Tryz.prog 81 := Enters.mk' Tryz.func81 (by kernel_rfl) (by kernel_rfl)
instance : Enters Tryz.prog 82 := Enters.mk' Tryz.func82 (by kernel_rfl) (by kernel_rfl)
instance : Enters Tryz.prog 83 := Enters.mk' Tryz.func83 (by kernel_rfl) (by kernel_rfl)
instance : Enters Tryz.prog 84 := Enters.mk' Tryz.func84 (by kernel_rfl) (by kernel_rfl)
instance : Enters Tryz.prog 85 := Enters.mk' Tryz.func85 (by kernel_rfl) (by kernel_rfl)
instance : Enters Tryz.prog 86 := Enters.mk' Tryz.func86 (by kernel_rfl) (by kernel_rfl)
instance : Enters Tryz.prog 87 := Enters.mk' Tryz.func87 (by kernel_rfl) (by kernel_rfl)
instance : Enters Tryz.prog 88 := Enters.mk' Tryz.func88 (by kernel_rfl) (by kernel_rfl)
instance : Enters Tryz.prog 89 := Enters.mk' Tryz.func89 (by kernel_rfl) (by kernel_rfl)
instance : Enters Tryz.prog 90 := Enters.mk' Tryz.func90 (by kernel_rfl) (by kernel_rfl)
instance : Enters Tryz.prog 91 := Enters.mk' Tryz.func91 (by kernel_rfl) (by kernel_rfl)
instance : Enters Tryz.prog 92 := Enters.mk' Tryz.func92 (by kernel_rfl) (by kernel_rfl)
instance : Enters Tryz.prog 93 := Enters.mk' Tryz.func93 (by kernel_rfl) (by kernel_rfl)
instance : Enters Tryz.prog 94 := Enters.mk' Tryz.func94 (by kernel_rfl) (by kernel_rfl)
instance : Enters Tryz.prog 95 := Enters.mk' Tryz.func95 (by kernel_rfl) (by kernel_rfl)
instance : Enters Tryz.prog 96 := Enters.mk' Tryz.func96 (by kernel_rfl) (by kernel_rfl)
instance : Enters Tryz.prog 97 := Enters.mk' Tryz.func97 (by kernel_rfl) (by kernel_rfl)
instance : Enters Tryz.prog 98 := Enters.mk' Tryz.func98 (by kernel_rfl) (by kernel_rfl)
instance : Enters Tryz.prog 99 := Enters.mk' Tryz.func99 (by kernel_rfl) (by kernel_rfl)
instance : Enters Tryz.prog 100 := Enters.mk' Tryz.func100 (by kernel_rfl) (by kernel_rfl)
instance : Enters Tryz.prog 101 := Enters.mk' Tryz.func101 (by kernel_rfl) (by kernel_rfl)
instance : Enters Tryz.prog 102 := Enters.mk' Tryz.func102 (by kernel_rfl) (by kernel_rfl)
instance : Enters Tryz.prog 103 := Enters.mk' Tryz.func103 (by kernel_rfl) (by kernel_rfl)
instance : Enters Tryz.prog 104 := Enters.mk' Tryz.func104 (by kernel_rfl) (by kernel_rfl)
instance : Enters Tryz.prog 105 := Enters.mk' Tryz.func105 (by kernel_rfl) (by kernel_rfl)
instance : Enters Tryz.prog 106 := Enters.mk' Tryz.func106 (by kernel_rfl) (by kernel_rfl)
instance : Enters Tryz.prog 107 := Enters.mk' Tryz.func107 (by kernel_rfl) (by kernel_rfl)
instance : Enters Tryz.prog 108 := Enters.mk' Tryz.func108 (by kernel_rfl) (by kernel_rfl)
instance : Enters Tryz.prog 109 := Enters.mk' Tryz.func109 (by kernel_rfl) (by kernel_rfl)
instance : Enters Tryz.prog 110 := Enters.mk' Tryz.func110 (by kernel_rfl) (by kernel_rfl)
instance : Enters Tryz.prog 111 := Enters.mk' Tryz.func111 (by kernel_rfl) (by kernel_rfl)
instance : Enters Tryz.prog 112 := Enters.mk' Tryz.func112 (by kernel_rfl) (by kernel_rfl)
instance : Enters Tryz.prog 113 := Enters.mk' Tryz.func113 (by kernel_rfl) (by kernel_rfl)
instance : Enters Tryz.prog 114 := Enters.mk' Tryz.func114 (by kernel_rfl) (by kernel_rfl)
instance : Enters Tryz.prog 115 := Enters.mk' Tryz.func115 (by kernel_rfl) (by kernel_rfl)
instance : Enters Tryz.prog 116 := Enters.mk' Tryz.func116 (by kernel_rfl) (by kernel_rfl)
instance : Enters Tryz.prog 117 := Enters.mk' Tryz.func117 (by kernel_rfl) (by kernel_rfl)
instance : Enters Tryz.prog 118 := Enters.mk' Tryz.func118 (by kernel_rfl) (by kernel_rfl)
instance : Enters Tryz.prog 119 := Enters.mk' Tryz.func119 (by kernel_rfl) (by kernel_rfl)
instance : Enters Tryz.prog 120 := Enters.mk' Tryz.func120 (by kernel_rfl) (by kernel_rfl)
instance : Enters Tryz.prog 121 := Enters.mk' Tryz.func121 (by kernel_rfl) (by kernel_rfl)
instance : Enters Tryz.prog 122 := Enters.mk' Tryz.func122 (by kernel_rfl) (by kernel_rfl)
instance : Enters Tryz.prog 123 := Enters.mk' Tryz.func123 (by kernel_rfl) (by kernel_rfl)
instance : Enters Tryz.prog 124 := Enters.mk' Tryz.func124 (by kernel_rfl) (by kernel_rfl)
instance : Enters Tryz.prog 125 := Enters.mk' Tryz.func125 (by kernel_rfl) (by kernel_rfl)
instance : Enters Tryz.prog 126 := Enters.mk' Tryz.func126 (by kernel_rfl) (by kernel_rfl)
instance : Enters Tryz.prog 127 := Enters.mk' Tryz.func127 (by kernel_rfl) (by kernel_rfl)
instance : Enters Tryz.prog 128 := Enters.mk' Tryz.func128 (by kernel_rfl) (by kernel_rfl)
instance : Enters Tryz.prog 129 := Enters.mk' Tryz.func129 (by kernel_rfl) (by kernel_rfl)
instance : Enters Tryz.prog 130 := Enters.mk' Tryz.func130 (by kernel_rfl) (by kernel_rfl)
instance : Enters Tryz.prog 131 := Enters.mk' Tryz.func131 (by kernel_rfl) (by kernel_rfl)
instance : Enters Tryz.prog 132 := Enters.mk' Tryz.func132 (by kernel_rfl) (by kernel_rfl)
instance : Enters Tryz.prog 133 := Enters.mk' Tryz.func133 (by kernel_rfl) (by kernel_rfl)
instance : Enters Tryz.prog 134 := Enters.mk' Tryz.func134 (by kernel_rfl) (by kernel_rfl)
instance : Enters Tryz.prog 135 := Enters.mk' Tryz.func135 (by kernel_rfl) (by kernel_rfl)
instance : Enters Tryz.prog 136 := Enters.mk' Tryz.func136 (by kernel_rfl) (by kernel_rfl)
instance : Enters Tryz.prog 137 := Enters.mk' Tryz.func137 (by kernel_rfl) (by kernel_rfl)
instance : Enters Tryz.prog 138 := Enters.mk' Tryz.func138 (by kernel_rfl) (by kernel_rfl)
instance : Enters Tryz.prog 139 := Enters.mk' Tryz.func139 (by kernel_rfl) (by kernel_rfl)
instance : Enters Tryz.prog 140 := Enters.mk' Tryz.func140 (by kernel_rfl) (by kernel_rfl)
instance : Enters Tryz.prog 141 := Enters.mk' Tryz.func141 (by kernel_rfl) (by kernel_rfl)
instance : Enters Tryz.prog 142 := Enters.mk' Tryz.func142 (by kernel_rfl) (by kernel_rfl)
instance : Enters Tryz.prog 143 := Enters.mk' Tryz.func143 (by kernel_rfl) (by kernel_rfl)
instance : Enters Tryz.prog 144 := Enters.mk' Tryz.func144 (by kernel_rfl) (by kernel_rfl)
instance : Enters Tryz.prog 145 := Enters.mk' Tryz.func145 (by kernel_rfl) (by kernel_rfl)
instance : Enters Tryz.prog 146 := Enters.mk' Tryz.func146 (by kernel_rfl) (by kernel_rfl)
instance : Enters Tryz.prog 147 := Enters.mk' Tryz.func147 (by kernel_rfl) (by kernel_rfl)
instance : Enters Tryz.prog 148 := Enters.mk' Tryz.func148 (by kernel_rfl) (by kernel_rfl)
instance : Enters Tryz.prog 149 := Enters.mk' Tryz.func149 (by kernel_rfl) (by kernel_rfl)
instance : Enters Tryz.prog 150 := Enters.mk' Tryz.func150 (by kernel_rfl) (by kernel_rfl)
instance : Enters Tryz.prog 151 := Enters.mk' Tryz.func151 (by kernel_rfl) (by kernel_rfl)
instance : Enters Tryz.prog 152 := Enters.mk' Tryz.func152 (by kernel_rfl) (by kernel_rfl)
instance : Enters Tryz.prog 153 := Enters.mk' Tryz.func153 (by kernel_rfl) (by kernel_rfl)
theorem mixed : Tryz.prog.follows .mixedOrders = true := by kernel_rfl
end Go.Lx
