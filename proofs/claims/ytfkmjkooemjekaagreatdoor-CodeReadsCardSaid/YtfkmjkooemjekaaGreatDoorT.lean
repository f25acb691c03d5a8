/- The table of types of this seat, in the words of the logic; printed by sx.py. -/
import Derived.Test.YtfkmjkooemjekaaGreatDoorL1
import Derived.Test.YtfkmjkooemjekaaGreatDoorProg
set_option linter.unusedVariables false
set_option linter.unusedSimpArgs false
namespace Go.Proofs.YtfkmjkooemjekaaGreatDoor
open Go.Sep
theorem c1 : CellTy Tryz.prog 1 := CellTy.of Tryz.underlying1 rfl (by kernel_rfl)
theorem c2 : CellTy Tryz.prog 2 := CellTy.of Tryz.underlying2 rfl (by kernel_rfl)
theorem z2 : ZeroTy Tryz.prog 2 [.int .i64 0] := by unfold ZeroTy; kernel_rfl
theorem c3 : CellTy Tryz.prog 3 := CellTy.of Tryz.underlying3 rfl (by kernel_rfl)
theorem c4 : CellTy Tryz.prog 4 := CellTy.of Tryz.underlying4 rfl (by kernel_rfl)
theorem c5 : CellTy Tryz.prog 5 := CellTy.of Tryz.underlying5 rfl (by kernel_rfl)
theorem c6 : CellTy Tryz.prog 6 := CellTy.of Tryz.underlying6 rfl (by kernel_rfl)
theorem c9 : CellTy Tryz.prog 9 := CellTy.of Tryz.underlying9 rfl (by kernel_rfl)
theorem c10 : CellTy Tryz.prog 10 := CellTy.of Tryz.underlying10 rfl (by kernel_rfl)
theorem c12 : CellTy Tryz.prog 12 := CellTy.of Tryz.underlying12 rfl (by kernel_rfl)
theorem c22 : CellTy Tryz.prog 22 := CellTy.of Tryz.underlying22 rfl (by kernel_rfl)
theorem c26 : CellTy Tryz.prog 26 := CellTy.of Tryz.underlying26 rfl (by kernel_rfl)
theorem s26 : SliceTy Tryz.prog 26 61 4 32 [.int .i64 0, .int .i64 0, .int .i64 0, .int .i64 0] := SliceTy.of (z := .agg #[.int .i64 0, .int .i64 0, .int .i64 0, .int .i64 0]) Tryz.underlying26 (by kernel_rfl) rfl rfl rfl rfl
theorem r28 : RowTy Tryz.prog 28 3 := RowTy.of Tryz.underlying28 rfl (by kernel_rfl)
theorem z28 : ZeroTy Tryz.prog 28 [.int .i64 0, .int .i64 0, .slice none 0 0] := by unfold ZeroTy; kernel_rfl
theorem fl28_0 : FieldTy Tryz.prog 28 0 0 := FieldTy.of (n := 0) Tryz.underlying28 rfl rfl (by kernel_rfl)
theorem fl28_1 : FieldTy Tryz.prog 28 1 1 := FieldTy.of (n := 0) Tryz.underlying28 rfl rfl (by kernel_rfl)
theorem fl28_2 : FieldTy Tryz.prog 28 2 2 := FieldTy.of (n := 0) Tryz.underlying28 rfl rfl (by kernel_rfl)
theorem c30 : CellTy Tryz.prog 30 := CellTy.of Tryz.underlying30 rfl (by kernel_rfl)
theorem s30 : SliceTy Tryz.prog 30 64 4 32 [.int .u8 0, .int .i64 0, .int .i64 0, .int .i64 0] := SliceTy.of (z := .agg #[.int .u8 0, .int .i64 0, .int .i64 0, .int .i64 0]) Tryz.underlying30 (by kernel_rfl) rfl rfl rfl rfl
theorem r32 : RowTy Tryz.prog 32 3 := RowTy.of Tryz.underlying32 rfl (by kernel_rfl)
theorem z32 : ZeroTy Tryz.prog 32 [.int .i64 0, .int .i64 0, .slice none 0 0] := by unfold ZeroTy; kernel_rfl
theorem fl32_0 : FieldTy Tryz.prog 32 0 0 := FieldTy.of (n := 0) Tryz.underlying32 rfl rfl (by kernel_rfl)
theorem fl32_1 : FieldTy Tryz.prog 32 1 1 := FieldTy.of (n := 0) Tryz.underlying32 rfl rfl (by kernel_rfl)
theorem fl32_2 : FieldTy Tryz.prog 32 2 2 := FieldTy.of (n := 0) Tryz.underlying32 rfl rfl (by kernel_rfl)
theorem c33 : CellTy Tryz.prog 33 := CellTy.of Tryz.underlying33 rfl (by kernel_rfl)
theorem c34 : CellTy Tryz.prog 34 := CellTy.of Tryz.underlying34 rfl (by kernel_rfl)
theorem c36 : CellTy Tryz.prog 36 := CellTy.of Tryz.underlying36 rfl (by kernel_rfl)
theorem c38 : CellTy Tryz.prog 38 := CellTy.of Tryz.underlying38 rfl (by kernel_rfl)
theorem s38 : SliceTy Tryz.prog 38 5 1 1 [.int .u8 0] := SliceTy.of (z := .int .u8 0) Tryz.underlying38 (by kernel_rfl) rfl rfl rfl rfl
theorem c47 : CellTy Tryz.prog 47 := CellTy.of Tryz.underlying47 rfl (by kernel_rfl)
theorem r61 : RowTy Tryz.prog 61 4 := RowTy.of Tryz.underlying61 rfl (by kernel_rfl)
theorem z61 : ZeroTy Tryz.prog 61 [.int .i64 0, .int .i64 0, .int .i64 0, .int .i64 0] := by unfold ZeroTy; kernel_rfl
theorem fl61_0 : FieldTy Tryz.prog 61 0 0 := FieldTy.of (n := 0) Tryz.underlying61 rfl rfl (by kernel_rfl)
theorem fl61_1 : FieldTy Tryz.prog 61 1 1 := FieldTy.of (n := 0) Tryz.underlying61 rfl rfl (by kernel_rfl)
theorem fl61_2 : FieldTy Tryz.prog 61 2 2 := FieldTy.of (n := 0) Tryz.underlying61 rfl rfl (by kernel_rfl)
theorem fl61_3 : FieldTy Tryz.prog 61 3 3 := FieldTy.of (n := 0) Tryz.underlying61 rfl rfl (by kernel_rfl)
theorem r64 : RowTy Tryz.prog 64 4 := RowTy.of Tryz.underlying64 rfl (by kernel_rfl)
theorem z64 : ZeroTy Tryz.prog 64 [.int .u8 0, .int .i64 0, .int .i64 0, .int .i64 0] := by unfold ZeroTy; kernel_rfl
theorem c70 : CellTy Tryz.prog 70 := CellTy.of Tryz.underlying70 rfl (by kernel_rfl)
theorem c72 : CellTy Tryz.prog 72 := CellTy.of Tryz.underlying72 rfl (by kernel_rfl)
theorem s79 : SliceTy Tryz.prog 79 72 1 8 [.int .u64 0] := SliceTy.of (z := .int .u64 0) Tryz.underlying79 (by kernel_rfl) rfl rfl rfl rfl
theorem c83 : CellTy Tryz.prog 83 := CellTy.of Tryz.underlying83 rfl (by kernel_rfl)
theorem z83 : ZeroTy Tryz.prog 83 [.pointer none] := by unfold ZeroTy; kernel_rfl
theorem c88 : CellTy Tryz.prog 88 := CellTy.of Tryz.underlying88 rfl (by kernel_rfl)
theorem s88 : SliceTy Tryz.prog 88 151 3 32 [.int .u8 0, .string ByteArray.empty, .int .i64 0] := SliceTy.of (z := .agg #[.int .u8 0, .string ByteArray.empty, .int .i64 0]) Tryz.underlying88 (by kernel_rfl) rfl rfl rfl rfl
theorem fl90_0 : FieldTy Tryz.prog 90 0 0 := FieldTy.of (n := 0) Tryz.underlying90 rfl rfl (by kernel_rfl)
theorem fl140_0 : FieldTy Tryz.prog 140 0 0 := FieldTy.of (n := 0) Tryz.underlying140 rfl rfl (by kernel_rfl)
theorem fl140_1 : FieldTy Tryz.prog 140 1 1 := FieldTy.of (n := 0) Tryz.underlying140 rfl rfl (by kernel_rfl)
theorem r151 : RowTy Tryz.prog 151 3 := RowTy.of Tryz.underlying151 rfl (by kernel_rfl)
theorem z151 : ZeroTy Tryz.prog 151 [.int .u8 0, .string ByteArray.empty, .int .i64 0] := by unfold ZeroTy; kernel_rfl
theorem ca5 : callable Tryz.prog 5 = true := by kernel_rfl
theorem ca7 : callable Tryz.prog 7 = true := by kernel_rfl
theorem ca10 : callable Tryz.prog 10 = true := by kernel_rfl
theorem ca11 : callable Tryz.prog 11 = true := by kernel_rfl
theorem ca12 : callable Tryz.prog 12 = true := by kernel_rfl
theorem ca21 : callable Tryz.prog 21 = true := by kernel_rfl
theorem ca22 : callable Tryz.prog 22 = true := by kernel_rfl
theorem ca23 : callable Tryz.prog 23 = true := by kernel_rfl
theorem ca24 : callable Tryz.prog 24 = true := by kernel_rfl
theorem ca25 : callable Tryz.prog 25 = true := by kernel_rfl
theorem ca26 : callable Tryz.prog 26 = true := by kernel_rfl
theorem ca27 : callable Tryz.prog 27 = true := by kernel_rfl
theorem ca28 : callable Tryz.prog 28 = true := by kernel_rfl
theorem ca29 : callable Tryz.prog 29 = true := by kernel_rfl
theorem ca50 : callable Tryz.prog 50 = true := by kernel_rfl
theorem ca51 : callable Tryz.prog 51 = true := by kernel_rfl
theorem ca52 : callable Tryz.prog 52 = true := by kernel_rfl
theorem ca53 : callable Tryz.prog 53 = true := by kernel_rfl
theorem ca54 : callable Tryz.prog 54 = true := by kernel_rfl
theorem ca79 : callable Tryz.prog 79 = true := by kernel_rfl
theorem ca80 : callable Tryz.prog 80 = true := by kernel_rfl
theorem ca81 : callable Tryz.prog 81 = true := by kernel_rfl
theorem ca82 : callable Tryz.prog 82 = true := by kernel_rfl
theorem mixed : Tryz.prog.follows .mixedOrders = true := by kernel_rfl
end Go.Proofs.YtfkmjkooemjekaaGreatDoor
