/- The table of types of this seat, in the words of the logic; printed by sx.py. -/
import Derived.Test.YtfkmjkooemjekaaGreatDoorL1
import Derived.Test.YtfkmjkooemjekaaGreatDoorProg
set_option linter.unusedVariables false
set_option linter.unusedSimpArgs false
namespace Go.Proofs.YtfkmjkooemjekaaGreatDoor
open Go.Sep
theorem c1 : CellTy Tryz.prog 1 := CellTy.of Tryz.underlying1 rfl (by kernel_rfl)
theorem c2 : CellTy Tryz.prog 2 := CellTy.of Tryz.underlying2 rfl (by kernel_rfl)
theorem c3 : CellTy Tryz.prog 3 := CellTy.of Tryz.underlying3 rfl (by kernel_rfl)
theorem c4 : CellTy Tryz.prog 4 := CellTy.of Tryz.underlying4 rfl (by kernel_rfl)
theorem c5 : CellTy Tryz.prog 5 := CellTy.of Tryz.underlying5 rfl (by kernel_rfl)
theorem z5 : ZeroTy Tryz.prog 5 [.int .u8 0] := by unfold ZeroTy; kernel_rfl
theorem c9 : CellTy Tryz.prog 9 := CellTy.of Tryz.underlying9 rfl (by kernel_rfl)
theorem c15 : CellTy Tryz.prog 15 := CellTy.of Tryz.underlying15 rfl (by kernel_rfl)
theorem c20 : CellTy Tryz.prog 20 := CellTy.of Tryz.underlying20 rfl (by kernel_rfl)
theorem c21 : CellTy Tryz.prog 21 := CellTy.of Tryz.underlying21 rfl (by kernel_rfl)
theorem c22 : CellTy Tryz.prog 22 := CellTy.of Tryz.underlying22 rfl (by kernel_rfl)
theorem s22 : SliceTy Tryz.prog 22 59 3 8 [.int .u8 0, .int .u8 0, .int .i32 0] := SliceTy.of (z := .agg #[.int .u8 0, .int .u8 0, .int .i32 0]) Tryz.underlying22 (by kernel_rfl) rfl rfl rfl rfl
theorem r24 : RowTy Tryz.prog 24 3 := RowTy.of Tryz.underlying24 rfl (by kernel_rfl)
theorem fl24_0 : FieldTy Tryz.prog 24 0 0 := FieldTy.of (n := 0) Tryz.underlying24 rfl rfl (by kernel_rfl)
theorem fl24_1 : FieldTy Tryz.prog 24 1 1 := FieldTy.of (n := 0) Tryz.underlying24 rfl rfl (by kernel_rfl)
theorem fl24_2 : FieldTy Tryz.prog 24 2 2 := FieldTy.of (n := 0) Tryz.underlying24 rfl rfl (by kernel_rfl)
theorem c26 : CellTy Tryz.prog 26 := CellTy.of Tryz.underlying26 rfl (by kernel_rfl)
theorem s26 : SliceTy Tryz.prog 26 61 4 32 [.int .i64 0, .int .i64 0, .int .i64 0, .int .i64 0] := SliceTy.of (z := .agg #[.int .i64 0, .int .i64 0, .int .i64 0, .int .i64 0]) Tryz.underlying26 (by kernel_rfl) rfl rfl rfl rfl
theorem r28 : RowTy Tryz.prog 28 3 := RowTy.of Tryz.underlying28 rfl (by kernel_rfl)
theorem z28 : ZeroTy Tryz.prog 28 [.int .i64 0, .int .i64 0, .slice none 0 0] := by unfold ZeroTy; kernel_rfl
theorem fl28_0 : FieldTy Tryz.prog 28 0 0 := FieldTy.of (n := 0) Tryz.underlying28 rfl rfl (by kernel_rfl)
theorem fl28_1 : FieldTy Tryz.prog 28 1 1 := FieldTy.of (n := 0) Tryz.underlying28 rfl rfl (by kernel_rfl)
theorem fl28_2 : FieldTy Tryz.prog 28 2 2 := FieldTy.of (n := 0) Tryz.underlying28 rfl rfl (by kernel_rfl)
theorem c30 : CellTy Tryz.prog 30 := CellTy.of Tryz.underlying30 rfl (by kernel_rfl)
theorem s30 : SliceTy Tryz.prog 30 64 4 32 [.int .u8 0, .int .i64 0, .int .i64 0, .int .i64 0] := SliceTy.of (z := .agg #[.int .u8 0, .int .i64 0, .int .i64 0, .int .i64 0]) Tryz.underlying30 (by kernel_rfl) rfl rfl rfl rfl
theorem r32 : RowTy Tryz.prog 32 3 := RowTy.of Tryz.underlying32 rfl (by kernel_rfl)
theorem z32 : ZeroTy Tryz.prog 32 [.int .i64 0, .int .i64 0, .slice none 0 0] := by unfold ZeroTy; kernel_rfl
theorem fl32_0 : FieldTy Tryz.prog 32 0 0 := FieldTy.of (n := 0) Tryz.underlying32 rfl rfl (by kernel_rfl)
theorem fl32_1 : FieldTy Tryz.prog 32 1 1 := FieldTy.of (n := 0) Tryz.underlying32 rfl rfl (by kernel_rfl)
theorem fl32_2 : FieldTy Tryz.prog 32 2 2 := FieldTy.of (n := 0) Tryz.underlying32 rfl rfl (by kernel_rfl)
theorem c34 : CellTy Tryz.prog 34 := CellTy.of Tryz.underlying34 rfl (by kernel_rfl)
theorem c40 : CellTy Tryz.prog 40 := CellTy.of Tryz.underlying40 rfl (by kernel_rfl)
theorem c52 : CellTy Tryz.prog 52 := CellTy.of Tryz.underlying52 rfl (by kernel_rfl)
theorem r59 : RowTy Tryz.prog 59 3 := RowTy.of Tryz.underlying59 rfl (by kernel_rfl)
theorem z59 : ZeroTy Tryz.prog 59 [.int .u8 0, .int .u8 0, .int .i32 0] := by unfold ZeroTy; kernel_rfl
theorem fl59_0 : FieldTy Tryz.prog 59 0 0 := FieldTy.of (n := 0) Tryz.underlying59 rfl rfl (by kernel_rfl)
theorem fl59_1 : FieldTy Tryz.prog 59 1 1 := FieldTy.of (n := 0) Tryz.underlying59 rfl rfl (by kernel_rfl)
theorem fl59_2 : FieldTy Tryz.prog 59 2 2 := FieldTy.of (n := 0) Tryz.underlying59 rfl rfl (by kernel_rfl)
theorem r61 : RowTy Tryz.prog 61 4 := RowTy.of Tryz.underlying61 rfl (by kernel_rfl)
theorem z61 : ZeroTy Tryz.prog 61 [.int .i64 0, .int .i64 0, .int .i64 0, .int .i64 0] := by unfold ZeroTy; kernel_rfl
theorem fl61_0 : FieldTy Tryz.prog 61 0 0 := FieldTy.of (n := 0) Tryz.underlying61 rfl rfl (by kernel_rfl)
theorem fl61_1 : FieldTy Tryz.prog 61 1 1 := FieldTy.of (n := 0) Tryz.underlying61 rfl rfl (by kernel_rfl)
theorem fl61_2 : FieldTy Tryz.prog 61 2 2 := FieldTy.of (n := 0) Tryz.underlying61 rfl rfl (by kernel_rfl)
theorem fl61_3 : FieldTy Tryz.prog 61 3 3 := FieldTy.of (n := 0) Tryz.underlying61 rfl rfl (by kernel_rfl)
theorem c62 : CellTy Tryz.prog 62 := CellTy.of Tryz.underlying62 rfl (by kernel_rfl)
theorem r64 : RowTy Tryz.prog 64 4 := RowTy.of Tryz.underlying64 rfl (by kernel_rfl)
theorem z64 : ZeroTy Tryz.prog 64 [.int .u8 0, .int .i64 0, .int .i64 0, .int .i64 0] := by unfold ZeroTy; kernel_rfl
theorem fl64_0 : FieldTy Tryz.prog 64 0 0 := FieldTy.of (n := 0) Tryz.underlying64 rfl rfl (by kernel_rfl)
theorem fl64_1 : FieldTy Tryz.prog 64 1 1 := FieldTy.of (n := 0) Tryz.underlying64 rfl rfl (by kernel_rfl)
theorem fl64_2 : FieldTy Tryz.prog 64 2 2 := FieldTy.of (n := 0) Tryz.underlying64 rfl rfl (by kernel_rfl)
theorem fl64_3 : FieldTy Tryz.prog 64 3 3 := FieldTy.of (n := 0) Tryz.underlying64 rfl rfl (by kernel_rfl)
theorem c77 : CellTy Tryz.prog 77 := CellTy.of Tryz.underlying77 rfl (by kernel_rfl)
theorem c83 : CellTy Tryz.prog 83 := CellTy.of Tryz.underlying83 rfl (by kernel_rfl)
theorem z83 : ZeroTy Tryz.prog 83 [.pointer none] := by unfold ZeroTy; kernel_rfl
theorem c88 : CellTy Tryz.prog 88 := CellTy.of Tryz.underlying88 rfl (by kernel_rfl)
theorem s88 : SliceTy Tryz.prog 88 151 3 32 [.int .u8 0, .string ByteArray.empty, .int .i64 0] := SliceTy.of (z := .agg #[.int .u8 0, .string ByteArray.empty, .int .i64 0]) Tryz.underlying88 (by kernel_rfl) rfl rfl rfl rfl
theorem fl90_0 : FieldTy Tryz.prog 90 0 0 := FieldTy.of (n := 0) Tryz.underlying90 rfl rfl (by kernel_rfl)
theorem c100 : CellTy Tryz.prog 100 := CellTy.of Tryz.underlying100 rfl (by kernel_rfl)
theorem c108 : CellTy Tryz.prog 108 := CellTy.of Tryz.underlying108 rfl (by kernel_rfl)
theorem c123 : CellTy Tryz.prog 123 := CellTy.of Tryz.underlying123 rfl (by kernel_rfl)
theorem r125 : RowTy Tryz.prog 125 4 := RowTy.of Tryz.underlying125 rfl (by kernel_rfl)
theorem z125 : ZeroTy Tryz.prog 125 [.string ByteArray.empty, .string ByteArray.empty, .int .i64 0, .int .i64 0] := by unfold ZeroTy; kernel_rfl
theorem fl125_2 : FieldTy Tryz.prog 125 2 2 := FieldTy.of (n := 0) Tryz.underlying125 rfl rfl (by kernel_rfl)
theorem fl125_3 : FieldTy Tryz.prog 125 3 3 := FieldTy.of (n := 0) Tryz.underlying125 rfl rfl (by kernel_rfl)
theorem c128 : CellTy Tryz.prog 128 := CellTy.of Tryz.underlying128 rfl (by kernel_rfl)
theorem c132 : CellTy Tryz.prog 132 := CellTy.of Tryz.underlying132 rfl (by kernel_rfl)
theorem z132 : ZeroTy Tryz.prog 132 [.slice none 0 0] := by unfold ZeroTy; kernel_rfl
theorem s132 : SliceTy Tryz.prog 132 3 1 8 [.int .i64 0] := SliceTy.of (z := .int .i64 0) Tryz.underlying132 (by kernel_rfl) rfl rfl rfl rfl
theorem r151 : RowTy Tryz.prog 151 3 := RowTy.of Tryz.underlying151 rfl (by kernel_rfl)
theorem z151 : ZeroTy Tryz.prog 151 [.int .u8 0, .string ByteArray.empty, .int .i64 0] := by unfold ZeroTy; kernel_rfl
theorem ca5 : callable Tryz.prog 5 = true := by kernel_rfl
theorem ca6 : callable Tryz.prog 6 = true := by kernel_rfl
theorem ca7 : callable Tryz.prog 7 = true := by kernel_rfl
theorem ca8 : callable Tryz.prog 8 = true := by kernel_rfl
theorem ca9 : callable Tryz.prog 9 = true := by kernel_rfl
theorem ca17 : callable Tryz.prog 17 = true := by kernel_rfl
theorem ca18 : callable Tryz.prog 18 = true := by kernel_rfl
theorem ca19 : callable Tryz.prog 19 = true := by kernel_rfl
theorem ca20 : callable Tryz.prog 20 = true := by kernel_rfl
theorem ca40 : callable Tryz.prog 40 = true := by kernel_rfl
theorem ca41 : callable Tryz.prog 41 = true := by kernel_rfl
theorem ca45 : callable Tryz.prog 45 = true := by kernel_rfl
theorem ca46 : callable Tryz.prog 46 = true := by kernel_rfl
theorem ca47 : callable Tryz.prog 47 = true := by kernel_rfl
theorem ca48 : callable Tryz.prog 48 = true := by kernel_rfl
theorem ca49 : callable Tryz.prog 49 = true := by kernel_rfl
theorem ca54 : callable Tryz.prog 54 = true := by kernel_rfl
theorem ca77 : callable Tryz.prog 77 = true := by kernel_rfl
theorem ca80 : callable Tryz.prog 80 = true := by kernel_rfl
theorem ca81 : callable Tryz.prog 81 = true := by kernel_rfl
theorem ca82 : callable Tryz.prog 82 = true := by kernel_rfl
theorem ca109 : callable Tryz.prog 109 = true := by kernel_rfl
theorem mixed : Tryz.prog.follows .mixedOrders = true := by kernel_rfl
end Go.Proofs.YtfkmjkooemjekaaGreatDoor
