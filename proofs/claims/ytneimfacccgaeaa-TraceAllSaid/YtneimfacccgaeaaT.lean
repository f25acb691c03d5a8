/- The table of types of this seat, in the words of the logic; printed by sx.py. -/
import Derived.Test.YtneimfacccgaeaaL2
import Derived.Test.YtneimfacccgaeaaProg
namespace Go.Proofs.Ytneimfacccgaeaa
open Go.Sep
theorem c1 : CellTy Try.prog 1 := CellTy.of Try.underlying1 rfl (by kernel_rfl)
theorem c2 : CellTy Try.prog 2 := CellTy.of Try.underlying2 rfl (by kernel_rfl)
theorem z2 : ZeroTy Try.prog 2 [.int .i64 0] := by unfold ZeroTy; kernel_rfl
theorem c3 : CellTy Try.prog 3 := CellTy.of Try.underlying3 rfl (by kernel_rfl)
theorem z3 : ZeroTy Try.prog 3 [.int .i64 0] := by unfold ZeroTy; kernel_rfl
theorem c4 : CellTy Try.prog 4 := CellTy.of Try.underlying4 rfl (by kernel_rfl)
theorem z4 : ZeroTy Try.prog 4 [.bool false] := by unfold ZeroTy; kernel_rfl
theorem c5 : CellTy Try.prog 5 := CellTy.of Try.underlying5 rfl (by kernel_rfl)
theorem z5 : ZeroTy Try.prog 5 [.int .u8 0] := by unfold ZeroTy; kernel_rfl
theorem c6 : CellTy Try.prog 6 := CellTy.of Try.underlying6 rfl (by kernel_rfl)
theorem z6 : ZeroTy Try.prog 6 [.int .u8 0] := by unfold ZeroTy; kernel_rfl
theorem r7 : RowTy Try.prog 7 4 := RowTy.of Try.underlying7 rfl (by kernel_rfl)
theorem z7 : ZeroTy Try.prog 7 [.int .i64 0, .int .i64 0, .bool false, .int .u8 0] := by unfold ZeroTy; kernel_rfl
theorem fl7_0 : FieldTy Try.prog 7 0 0 := FieldTy.of (n := 0) Try.underlying7 rfl rfl (by kernel_rfl)
theorem fl7_1 : FieldTy Try.prog 7 1 1 := FieldTy.of (n := 0) Try.underlying7 rfl rfl (by kernel_rfl)
theorem fl7_2 : FieldTy Try.prog 7 2 2 := FieldTy.of (n := 0) Try.underlying7 rfl rfl (by kernel_rfl)
theorem fl7_3 : FieldTy Try.prog 7 3 3 := FieldTy.of (n := 0) Try.underlying7 rfl rfl (by kernel_rfl)
theorem r8 : RowTy Try.prog 8 4 := RowTy.of Try.underlying8 rfl (by kernel_rfl)
theorem z8 : ZeroTy Try.prog 8 [.int .i64 0, .int .i64 0, .bool false, .int .u8 0] := by unfold ZeroTy; kernel_rfl
theorem fl8_0 : FieldTy Try.prog 8 0 0 := FieldTy.of (n := 0) Try.underlying8 rfl rfl (by kernel_rfl)
theorem fl8_1 : FieldTy Try.prog 8 1 1 := FieldTy.of (n := 0) Try.underlying8 rfl rfl (by kernel_rfl)
theorem fl8_2 : FieldTy Try.prog 8 2 2 := FieldTy.of (n := 0) Try.underlying8 rfl rfl (by kernel_rfl)
theorem fl8_3 : FieldTy Try.prog 8 3 3 := FieldTy.of (n := 0) Try.underlying8 rfl rfl (by kernel_rfl)
theorem c9 : CellTy Try.prog 9 := CellTy.of Try.underlying9 rfl (by kernel_rfl)
theorem z9 : ZeroTy Try.prog 9 [.string ByteArray.empty] := by unfold ZeroTy; kernel_rfl
theorem c10 : CellTy Try.prog 10 := CellTy.of Try.underlying10 rfl (by kernel_rfl)
theorem z10 : ZeroTy Try.prog 10 [.string ByteArray.empty] := by unfold ZeroTy; kernel_rfl
theorem c11 : CellTy Try.prog 11 := CellTy.of Try.underlying11 rfl (by kernel_rfl)
theorem z11 : ZeroTy Try.prog 11 [.string ByteArray.empty] := by unfold ZeroTy; kernel_rfl
theorem c12 : CellTy Try.prog 12 := CellTy.of Try.underlying12 rfl (by kernel_rfl)
theorem z12 : ZeroTy Try.prog 12 [.int .u64 0] := by unfold ZeroTy; kernel_rfl
theorem r13 : RowTy Try.prog 13 2 := RowTy.of Try.underlying13 rfl (by kernel_rfl)
theorem z13 : ZeroTy Try.prog 13 [.string ByteArray.empty, .int .u64 0] := by unfold ZeroTy; kernel_rfl
theorem fl13_0 : FieldTy Try.prog 13 0 0 := FieldTy.of (n := 0) Try.underlying13 rfl rfl (by kernel_rfl)
theorem fl13_1 : FieldTy Try.prog 13 1 1 := FieldTy.of (n := 0) Try.underlying13 rfl rfl (by kernel_rfl)
theorem r14 : RowTy Try.prog 14 2 := RowTy.of Try.underlying14 rfl (by kernel_rfl)
theorem z14 : ZeroTy Try.prog 14 [.string ByteArray.empty, .int .u64 0] := by unfold ZeroTy; kernel_rfl
theorem fl14_0 : FieldTy Try.prog 14 0 0 := FieldTy.of (n := 0) Try.underlying14 rfl rfl (by kernel_rfl)
theorem fl14_1 : FieldTy Try.prog 14 1 1 := FieldTy.of (n := 0) Try.underlying14 rfl rfl (by kernel_rfl)
theorem c15 : CellTy Try.prog 15 := CellTy.of Try.underlying15 rfl (by kernel_rfl)
theorem z15 : ZeroTy Try.prog 15 [.pointer none] := by unfold ZeroTy; kernel_rfl
theorem c16 : CellTy Try.prog 16 := CellTy.of Try.underlying16 rfl (by kernel_rfl)
theorem z16 : ZeroTy Try.prog 16 [.pointer none] := by unfold ZeroTy; kernel_rfl
theorem c17 : CellTy Try.prog 17 := CellTy.of Try.underlying17 rfl (by kernel_rfl)
theorem z17 : ZeroTy Try.prog 17 [.pointer none] := by unfold ZeroTy; kernel_rfl
theorem r18 : RowTy Try.prog 18 1 := RowTy.of Try.underlying18 rfl (by kernel_rfl)
theorem z18 : ZeroTy Try.prog 18 [.pointer none] := by unfold ZeroTy; kernel_rfl
theorem fl18_0 : FieldTy Try.prog 18 0 0 := FieldTy.of (n := 0) Try.underlying18 rfl rfl (by kernel_rfl)
theorem r19 : RowTy Try.prog 19 1 := RowTy.of Try.underlying19 rfl (by kernel_rfl)
theorem z19 : ZeroTy Try.prog 19 [.pointer none] := by unfold ZeroTy; kernel_rfl
theorem fl19_0 : FieldTy Try.prog 19 0 0 := FieldTy.of (n := 0) Try.underlying19 rfl rfl (by kernel_rfl)
theorem c20 : CellTy Try.prog 20 := CellTy.of Try.underlying20 rfl (by kernel_rfl)
theorem z20 : ZeroTy Try.prog 20 [.nilIface] := by unfold ZeroTy; kernel_rfl
theorem c21 : CellTy Try.prog 21 := CellTy.of Try.underlying21 rfl (by kernel_rfl)
theorem z21 : ZeroTy Try.prog 21 [.int .i32 0] := by unfold ZeroTy; kernel_rfl
theorem c22 : CellTy Try.prog 22 := CellTy.of Try.underlying22 rfl (by kernel_rfl)
theorem z22 : ZeroTy Try.prog 22 [.slice none 0 0] := by unfold ZeroTy; kernel_rfl
theorem s22 : SliceTy Try.prog 22 37 9 88 [.int .i64 0, .int .i64 0, .int .u8 0, .int .i64 0, .int .i64 0, .int .i64 0, .int .i64 0, .int .i64 0, .slice none 0 0] := SliceTy.of (z := .agg #[.int .i64 0, .int .i64 0, .int .u8 0, .int .i64 0, .int .i64 0, .int .i64 0, .int .i64 0, .int .i64 0, .slice none 0 0]) Try.underlying22 (by kernel_rfl) rfl rfl rfl rfl
theorem c23 : CellTy Try.prog 23 := CellTy.of Try.underlying23 rfl (by kernel_rfl)
theorem c24 : CellTy Try.prog 24 := CellTy.of Try.underlying24 rfl (by kernel_rfl)
theorem c25 : CellTy Try.prog 25 := CellTy.of Try.underlying25 rfl (by kernel_rfl)
theorem c26 : CellTy Try.prog 26 := CellTy.of Try.underlying26 rfl (by kernel_rfl)
theorem z26 : ZeroTy Try.prog 26 [.slice none 0 0] := by unfold ZeroTy; kernel_rfl
theorem s26 : SliceTy Try.prog 26 22 1 24 [.slice none 0 0] := SliceTy.of (z := .slice none 0 0) Try.underlying26 (by kernel_rfl) rfl rfl rfl rfl
theorem c27 : CellTy Try.prog 27 := CellTy.of Try.underlying27 rfl (by kernel_rfl)
theorem c28 : CellTy Try.prog 28 := CellTy.of Try.underlying28 rfl (by kernel_rfl)
theorem r29 : RowTy Try.prog 29 4 := RowTy.of Try.underlying29 rfl (by kernel_rfl)
theorem z29 : ZeroTy Try.prog 29 [.int .u8 0, .int .u8 0, .int .u8 0, .int .u8 0] := by unfold ZeroTy; kernel_rfl
theorem c30 : CellTy Try.prog 30 := CellTy.of Try.underlying30 rfl (by kernel_rfl)
theorem z30 : ZeroTy Try.prog 30 [.int .u64 0] := by unfold ZeroTy; kernel_rfl
theorem c32 : CellTy Try.prog 32 := CellTy.of Try.underlying32 rfl (by kernel_rfl)
theorem c33 : CellTy Try.prog 33 := CellTy.of Try.underlying33 rfl (by kernel_rfl)
theorem c34 : CellTy Try.prog 34 := CellTy.of Try.underlying34 rfl (by kernel_rfl)
theorem z34 : ZeroTy Try.prog 34 [.int .u8 0] := by unfold ZeroTy; kernel_rfl
theorem c35 : CellTy Try.prog 35 := CellTy.of Try.underlying35 rfl (by kernel_rfl)
theorem z35 : ZeroTy Try.prog 35 [.slice none 0 0] := by unfold ZeroTy; kernel_rfl
theorem s35 : SliceTy Try.prog 35 2 1 8 [.int .i64 0] := SliceTy.of (z := .int .i64 0) Try.underlying35 (by kernel_rfl) rfl rfl rfl rfl
theorem r36 : RowTy Try.prog 36 9 := RowTy.of Try.underlying36 rfl (by kernel_rfl)
theorem z36 : ZeroTy Try.prog 36 [.int .i64 0, .int .i64 0, .int .u8 0, .int .i64 0, .int .i64 0, .int .i64 0, .int .i64 0, .int .i64 0, .slice none 0 0] := by unfold ZeroTy; kernel_rfl
theorem fl36_0 : FieldTy Try.prog 36 0 0 := FieldTy.of (n := 0) Try.underlying36 rfl rfl (by kernel_rfl)
theorem fl36_1 : FieldTy Try.prog 36 1 1 := FieldTy.of (n := 0) Try.underlying36 rfl rfl (by kernel_rfl)
theorem fl36_2 : FieldTy Try.prog 36 2 2 := FieldTy.of (n := 0) Try.underlying36 rfl rfl (by kernel_rfl)
theorem fl36_3 : FieldTy Try.prog 36 3 3 := FieldTy.of (n := 0) Try.underlying36 rfl rfl (by kernel_rfl)
theorem fl36_4 : FieldTy Try.prog 36 4 4 := FieldTy.of (n := 0) Try.underlying36 rfl rfl (by kernel_rfl)
theorem fl36_5 : FieldTy Try.prog 36 5 5 := FieldTy.of (n := 0) Try.underlying36 rfl rfl (by kernel_rfl)
theorem fl36_6 : FieldTy Try.prog 36 6 6 := FieldTy.of (n := 0) Try.underlying36 rfl rfl (by kernel_rfl)
theorem fl36_7 : FieldTy Try.prog 36 7 7 := FieldTy.of (n := 0) Try.underlying36 rfl rfl (by kernel_rfl)
theorem fl36_8 : FieldTy Try.prog 36 8 8 := FieldTy.of (n := 0) Try.underlying36 rfl rfl (by kernel_rfl)
theorem r37 : RowTy Try.prog 37 9 := RowTy.of Try.underlying37 rfl (by kernel_rfl)
theorem z37 : ZeroTy Try.prog 37 [.int .i64 0, .int .i64 0, .int .u8 0, .int .i64 0, .int .i64 0, .int .i64 0, .int .i64 0, .int .i64 0, .slice none 0 0] := by unfold ZeroTy; kernel_rfl
theorem fl37_0 : FieldTy Try.prog 37 0 0 := FieldTy.of (n := 0) Try.underlying37 rfl rfl (by kernel_rfl)
theorem fl37_1 : FieldTy Try.prog 37 1 1 := FieldTy.of (n := 0) Try.underlying37 rfl rfl (by kernel_rfl)
theorem fl37_2 : FieldTy Try.prog 37 2 2 := FieldTy.of (n := 0) Try.underlying37 rfl rfl (by kernel_rfl)
theorem fl37_3 : FieldTy Try.prog 37 3 3 := FieldTy.of (n := 0) Try.underlying37 rfl rfl (by kernel_rfl)
theorem fl37_4 : FieldTy Try.prog 37 4 4 := FieldTy.of (n := 0) Try.underlying37 rfl rfl (by kernel_rfl)
theorem fl37_5 : FieldTy Try.prog 37 5 5 := FieldTy.of (n := 0) Try.underlying37 rfl rfl (by kernel_rfl)
theorem fl37_6 : FieldTy Try.prog 37 6 6 := FieldTy.of (n := 0) Try.underlying37 rfl rfl (by kernel_rfl)
theorem fl37_7 : FieldTy Try.prog 37 7 7 := FieldTy.of (n := 0) Try.underlying37 rfl rfl (by kernel_rfl)
theorem fl37_8 : FieldTy Try.prog 37 8 8 := FieldTy.of (n := 0) Try.underlying37 rfl rfl (by kernel_rfl)
theorem c38 : CellTy Try.prog 38 := CellTy.of Try.underlying38 rfl (by kernel_rfl)
theorem c39 : CellTy Try.prog 39 := CellTy.of Try.underlying39 rfl (by kernel_rfl)
theorem c40 : CellTy Try.prog 40 := CellTy.of Try.underlying40 rfl (by kernel_rfl)
theorem c41 : CellTy Try.prog 41 := CellTy.of Try.underlying41 rfl (by kernel_rfl)
theorem c42 : CellTy Try.prog 42 := CellTy.of Try.underlying42 rfl (by kernel_rfl)
theorem c43 : CellTy Try.prog 43 := CellTy.of Try.underlying43 rfl (by kernel_rfl)
theorem c44 : CellTy Try.prog 44 := CellTy.of Try.underlying44 rfl (by kernel_rfl)
theorem z44 : ZeroTy Try.prog 44 [.slice none 0 0] := by unfold ZeroTy; kernel_rfl
theorem s44 : SliceTy Try.prog 44 5 1 1 [.int .u8 0] := SliceTy.of (z := .int .u8 0) Try.underlying44 (by kernel_rfl) rfl rfl rfl rfl
theorem c45 : CellTy Try.prog 45 := CellTy.of Try.underlying45 rfl (by kernel_rfl)
theorem c46 : CellTy Try.prog 46 := CellTy.of Try.underlying46 rfl (by kernel_rfl)
theorem c47 : CellTy Try.prog 47 := CellTy.of Try.underlying47 rfl (by kernel_rfl)
theorem c48 : CellTy Try.prog 48 := CellTy.of Try.underlying48 rfl (by kernel_rfl)
theorem c49 : CellTy Try.prog 49 := CellTy.of Try.underlying49 rfl (by kernel_rfl)
theorem c50 : CellTy Try.prog 50 := CellTy.of Try.underlying50 rfl (by kernel_rfl)
theorem c51 : CellTy Try.prog 51 := CellTy.of Try.underlying51 rfl (by kernel_rfl)
theorem c52 : CellTy Try.prog 52 := CellTy.of Try.underlying52 rfl (by kernel_rfl)
theorem z52 : ZeroTy Try.prog 52 [.map none] := by unfold ZeroTy; kernel_rfl
theorem c53 : CellTy Try.prog 53 := CellTy.of Try.underlying53 rfl (by kernel_rfl)
theorem z53 : ZeroTy Try.prog 53 [.map none] := by unfold ZeroTy; kernel_rfl
theorem r54 : RowTy Try.prog 54 3 := RowTy.of Try.underlying54 rfl (by kernel_rfl)
theorem z54 : ZeroTy Try.prog 54 [.int .i64 0, .int .i64 0, .int .i64 0] := by unfold ZeroTy; kernel_rfl
theorem fl54_0 : FieldTy Try.prog 54 0 0 := FieldTy.of (n := 0) Try.underlying54 rfl rfl (by kernel_rfl)
theorem fl54_1 : FieldTy Try.prog 54 1 1 := FieldTy.of (n := 0) Try.underlying54 rfl rfl (by kernel_rfl)
theorem fl54_2 : FieldTy Try.prog 54 2 2 := FieldTy.of (n := 0) Try.underlying54 rfl rfl (by kernel_rfl)
theorem r55 : RowTy Try.prog 55 3 := RowTy.of Try.underlying55 rfl (by kernel_rfl)
theorem z55 : ZeroTy Try.prog 55 [.int .i64 0, .int .i64 0, .int .i64 0] := by unfold ZeroTy; kernel_rfl
theorem fl55_0 : FieldTy Try.prog 55 0 0 := FieldTy.of (n := 0) Try.underlying55 rfl rfl (by kernel_rfl)
theorem fl55_1 : FieldTy Try.prog 55 1 1 := FieldTy.of (n := 0) Try.underlying55 rfl rfl (by kernel_rfl)
theorem fl55_2 : FieldTy Try.prog 55 2 2 := FieldTy.of (n := 0) Try.underlying55 rfl rfl (by kernel_rfl)
theorem c56 : CellTy Try.prog 56 := CellTy.of Try.underlying56 rfl (by kernel_rfl)
theorem z56 : ZeroTy Try.prog 56 [.int .i64 0] := by unfold ZeroTy; kernel_rfl
theorem c58 : CellTy Try.prog 58 := CellTy.of Try.underlying58 rfl (by kernel_rfl)
theorem c59 : CellTy Try.prog 59 := CellTy.of Try.underlying59 rfl (by kernel_rfl)
theorem c60 : CellTy Try.prog 60 := CellTy.of Try.underlying60 rfl (by kernel_rfl)
theorem c61 : CellTy Try.prog 61 := CellTy.of Try.underlying61 rfl (by kernel_rfl)
theorem c62 : CellTy Try.prog 62 := CellTy.of Try.underlying62 rfl (by kernel_rfl)
theorem z62 : ZeroTy Try.prog 62 [.slice none 0 0] := by unfold ZeroTy; kernel_rfl
theorem s62 : SliceTy Try.prog 62 3 1 8 [.int .i64 0] := SliceTy.of (z := .int .i64 0) Try.underlying62 (by kernel_rfl) rfl rfl rfl rfl
theorem c63 : CellTy Try.prog 63 := CellTy.of Try.underlying63 rfl (by kernel_rfl)
theorem c64 : CellTy Try.prog 64 := CellTy.of Try.underlying64 rfl (by kernel_rfl)
theorem z64 : ZeroTy Try.prog 64 [.slice none 0 0] := by unfold ZeroTy; kernel_rfl
theorem s64 : SliceTy Try.prog 64 30 1 8 [.int .u64 0] := SliceTy.of (z := .int .u64 0) Try.underlying64 (by kernel_rfl) rfl rfl rfl rfl
theorem c65 : CellTy Try.prog 65 := CellTy.of Try.underlying65 rfl (by kernel_rfl)
theorem c66 : CellTy Try.prog 66 := CellTy.of Try.underlying66 rfl (by kernel_rfl)
theorem c67 : CellTy Try.prog 67 := CellTy.of Try.underlying67 rfl (by kernel_rfl)
theorem c68 : CellTy Try.prog 68 := CellTy.of Try.underlying68 rfl (by kernel_rfl)
theorem c69 : CellTy Try.prog 69 := CellTy.of Try.underlying69 rfl (by kernel_rfl)
theorem z69 : ZeroTy Try.prog 69 [.map none] := by unfold ZeroTy; kernel_rfl
theorem c71 : CellTy Try.prog 71 := CellTy.of Try.underlying71 rfl (by kernel_rfl)
theorem z71 : ZeroTy Try.prog 71 [.slice none 0 0] := by unfold ZeroTy; kernel_rfl
theorem s71 : SliceTy Try.prog 71 62 1 24 [.slice none 0 0] := SliceTy.of (z := .slice none 0 0) Try.underlying71 (by kernel_rfl) rfl rfl rfl rfl
theorem c72 : CellTy Try.prog 72 := CellTy.of Try.underlying72 rfl (by kernel_rfl)
theorem c73 : CellTy Try.prog 73 := CellTy.of Try.underlying73 rfl (by kernel_rfl)
theorem z73 : ZeroTy Try.prog 73 [.pointer none] := by unfold ZeroTy; kernel_rfl
theorem c74 : CellTy Try.prog 74 := CellTy.of Try.underlying74 rfl (by kernel_rfl)
theorem c75 : CellTy Try.prog 75 := CellTy.of Try.underlying75 rfl (by kernel_rfl)
theorem z75 : ZeroTy Try.prog 75 [.slice none 0 0] := by unfold ZeroTy; kernel_rfl
theorem s75 : SliceTy Try.prog 75 4 1 1 [.bool false] := SliceTy.of (z := .bool false) Try.underlying75 (by kernel_rfl) rfl rfl rfl rfl
theorem c76 : CellTy Try.prog 76 := CellTy.of Try.underlying76 rfl (by kernel_rfl)
theorem c77 : CellTy Try.prog 77 := CellTy.of Try.underlying77 rfl (by kernel_rfl)
theorem r78 : RowTy Try.prog 78 8 := RowTy.of Try.underlying78 rfl (by kernel_rfl)
theorem z78 : ZeroTy Try.prog 78 [.slice none 0 0, .slice none 0 0, .slice none 0 0, .slice none 0 0, .slice none 0 0, .slice none 0 0, .nilFunc, .nilFunc] := by unfold ZeroTy; kernel_rfl
theorem fl78_0 : FieldTy Try.prog 78 0 0 := FieldTy.of (n := 0) Try.underlying78 rfl rfl (by kernel_rfl)
theorem fl78_1 : FieldTy Try.prog 78 1 1 := FieldTy.of (n := 0) Try.underlying78 rfl rfl (by kernel_rfl)
theorem fl78_2 : FieldTy Try.prog 78 2 2 := FieldTy.of (n := 0) Try.underlying78 rfl rfl (by kernel_rfl)
theorem fl78_3 : FieldTy Try.prog 78 3 3 := FieldTy.of (n := 0) Try.underlying78 rfl rfl (by kernel_rfl)
theorem fl78_4 : FieldTy Try.prog 78 4 4 := FieldTy.of (n := 0) Try.underlying78 rfl rfl (by kernel_rfl)
theorem fl78_5 : FieldTy Try.prog 78 5 5 := FieldTy.of (n := 0) Try.underlying78 rfl rfl (by kernel_rfl)
theorem fl78_6 : FieldTy Try.prog 78 6 6 := FieldTy.of (n := 0) Try.underlying78 rfl rfl (by kernel_rfl)
theorem fl78_7 : FieldTy Try.prog 78 7 7 := FieldTy.of (n := 0) Try.underlying78 rfl rfl (by kernel_rfl)
theorem r79 : RowTy Try.prog 79 8 := RowTy.of Try.underlying79 rfl (by kernel_rfl)
theorem z79 : ZeroTy Try.prog 79 [.slice none 0 0, .slice none 0 0, .slice none 0 0, .slice none 0 0, .slice none 0 0, .slice none 0 0, .nilFunc, .nilFunc] := by unfold ZeroTy; kernel_rfl
theorem fl79_0 : FieldTy Try.prog 79 0 0 := FieldTy.of (n := 0) Try.underlying79 rfl rfl (by kernel_rfl)
theorem fl79_1 : FieldTy Try.prog 79 1 1 := FieldTy.of (n := 0) Try.underlying79 rfl rfl (by kernel_rfl)
theorem fl79_2 : FieldTy Try.prog 79 2 2 := FieldTy.of (n := 0) Try.underlying79 rfl rfl (by kernel_rfl)
theorem fl79_3 : FieldTy Try.prog 79 3 3 := FieldTy.of (n := 0) Try.underlying79 rfl rfl (by kernel_rfl)
theorem fl79_4 : FieldTy Try.prog 79 4 4 := FieldTy.of (n := 0) Try.underlying79 rfl rfl (by kernel_rfl)
theorem fl79_5 : FieldTy Try.prog 79 5 5 := FieldTy.of (n := 0) Try.underlying79 rfl rfl (by kernel_rfl)
theorem fl79_6 : FieldTy Try.prog 79 6 6 := FieldTy.of (n := 0) Try.underlying79 rfl rfl (by kernel_rfl)
theorem fl79_7 : FieldTy Try.prog 79 7 7 := FieldTy.of (n := 0) Try.underlying79 rfl rfl (by kernel_rfl)
theorem c80 : CellTy Try.prog 80 := CellTy.of Try.underlying80 rfl (by kernel_rfl)
theorem c81 : CellTy Try.prog 81 := CellTy.of Try.underlying81 rfl (by kernel_rfl)
theorem c82 : CellTy Try.prog 82 := CellTy.of Try.underlying82 rfl (by kernel_rfl)
theorem z82 : ZeroTy Try.prog 82 [.int .u64 0] := by unfold ZeroTy; kernel_rfl
theorem c83 : CellTy Try.prog 83 := CellTy.of Try.underlying83 rfl (by kernel_rfl)
theorem c84 : CellTy Try.prog 84 := CellTy.of Try.underlying84 rfl (by kernel_rfl)
theorem c85 : CellTy Try.prog 85 := CellTy.of Try.underlying85 rfl (by kernel_rfl)
theorem c86 : CellTy Try.prog 86 := CellTy.of Try.underlying86 rfl (by kernel_rfl)
theorem c87 : CellTy Try.prog 87 := CellTy.of Try.underlying87 rfl (by kernel_rfl)
theorem c88 : CellTy Try.prog 88 := CellTy.of Try.underlying88 rfl (by kernel_rfl)
theorem c89 : CellTy Try.prog 89 := CellTy.of Try.underlying89 rfl (by kernel_rfl)
theorem c90 : CellTy Try.prog 90 := CellTy.of Try.underlying90 rfl (by kernel_rfl)
theorem z90 : ZeroTy Try.prog 90 [.int .i64 0] := by unfold ZeroTy; kernel_rfl
theorem c92 : CellTy Try.prog 92 := CellTy.of Try.underlying92 rfl (by kernel_rfl)
theorem c93 : CellTy Try.prog 93 := CellTy.of Try.underlying93 rfl (by kernel_rfl)
theorem c94 : CellTy Try.prog 94 := CellTy.of Try.underlying94 rfl (by kernel_rfl)
theorem c95 : CellTy Try.prog 95 := CellTy.of Try.underlying95 rfl (by kernel_rfl)
theorem c96 : CellTy Try.prog 96 := CellTy.of Try.underlying96 rfl (by kernel_rfl)
theorem c97 : CellTy Try.prog 97 := CellTy.of Try.underlying97 rfl (by kernel_rfl)
theorem z97 : ZeroTy Try.prog 97 [.int .u32 0] := by unfold ZeroTy; kernel_rfl
theorem c98 : CellTy Try.prog 98 := CellTy.of Try.underlying98 rfl (by kernel_rfl)
theorem c99 : CellTy Try.prog 99 := CellTy.of Try.underlying99 rfl (by kernel_rfl)
theorem c100 : CellTy Try.prog 100 := CellTy.of Try.underlying100 rfl (by kernel_rfl)
theorem c101 : CellTy Try.prog 101 := CellTy.of Try.underlying101 rfl (by kernel_rfl)
theorem z101 : ZeroTy Try.prog 101 [.int .u64 0] := by unfold ZeroTy; kernel_rfl
theorem c102 : CellTy Try.prog 102 := CellTy.of Try.underlying102 rfl (by kernel_rfl)
theorem c103 : CellTy Try.prog 103 := CellTy.of Try.underlying103 rfl (by kernel_rfl)
theorem c104 : CellTy Try.prog 104 := CellTy.of Try.underlying104 rfl (by kernel_rfl)
theorem c105 : CellTy Try.prog 105 := CellTy.of Try.underlying105 rfl (by kernel_rfl)
theorem z105 : ZeroTy Try.prog 105 [.pointer none] := by unfold ZeroTy; kernel_rfl
theorem c106 : CellTy Try.prog 106 := CellTy.of Try.underlying106 rfl (by kernel_rfl)
theorem c107 : CellTy Try.prog 107 := CellTy.of Try.underlying107 rfl (by kernel_rfl)
theorem z107 : ZeroTy Try.prog 107 [.pointer none] := by unfold ZeroTy; kernel_rfl
theorem c109 : CellTy Try.prog 109 := CellTy.of Try.underlying109 rfl (by kernel_rfl)
theorem c110 : CellTy Try.prog 110 := CellTy.of Try.underlying110 rfl (by kernel_rfl)
theorem r111 : RowTy Try.prog 111 4 := RowTy.of Try.underlying111 rfl (by kernel_rfl)
theorem z111 : ZeroTy Try.prog 111 [.pointer none, .pointer none, .pointer none, .string ByteArray.empty] := by unfold ZeroTy; kernel_rfl
theorem fl111_0 : FieldTy Try.prog 111 0 0 := FieldTy.of (n := 0) Try.underlying111 rfl rfl (by kernel_rfl)
theorem fl111_1 : FieldTy Try.prog 111 1 1 := FieldTy.of (n := 0) Try.underlying111 rfl rfl (by kernel_rfl)
theorem fl111_2 : FieldTy Try.prog 111 2 2 := FieldTy.of (n := 0) Try.underlying111 rfl rfl (by kernel_rfl)
theorem fl111_3 : FieldTy Try.prog 111 3 3 := FieldTy.of (n := 0) Try.underlying111 rfl rfl (by kernel_rfl)
theorem r112 : RowTy Try.prog 112 4 := RowTy.of Try.underlying112 rfl (by kernel_rfl)
theorem z112 : ZeroTy Try.prog 112 [.pointer none, .pointer none, .pointer none, .string ByteArray.empty] := by unfold ZeroTy; kernel_rfl
theorem fl112_0 : FieldTy Try.prog 112 0 0 := FieldTy.of (n := 0) Try.underlying112 rfl rfl (by kernel_rfl)
theorem fl112_1 : FieldTy Try.prog 112 1 1 := FieldTy.of (n := 0) Try.underlying112 rfl rfl (by kernel_rfl)
theorem fl112_2 : FieldTy Try.prog 112 2 2 := FieldTy.of (n := 0) Try.underlying112 rfl rfl (by kernel_rfl)
theorem fl112_3 : FieldTy Try.prog 112 3 3 := FieldTy.of (n := 0) Try.underlying112 rfl rfl (by kernel_rfl)
theorem r113 : RowTy Try.prog 113 0 := RowTy.of Try.underlying113 rfl (by kernel_rfl)
theorem z113 : ZeroTy Try.prog 113 [] := by unfold ZeroTy; kernel_rfl
theorem r114 : RowTy Try.prog 114 0 := RowTy.of Try.underlying114 rfl (by kernel_rfl)
theorem z114 : ZeroTy Try.prog 114 [] := by unfold ZeroTy; kernel_rfl
theorem r115 : RowTy Try.prog 115 0 := RowTy.of Try.underlying115 rfl (by kernel_rfl)
theorem z115 : ZeroTy Try.prog 115 [] := by unfold ZeroTy; kernel_rfl
theorem c116 : CellTy Try.prog 116 := CellTy.of Try.underlying116 rfl (by kernel_rfl)
theorem z116 : ZeroTy Try.prog 116 [.int .u8 0] := by unfold ZeroTy; kernel_rfl
theorem c117 : CellTy Try.prog 117 := CellTy.of Try.underlying117 rfl (by kernel_rfl)
theorem z117 : ZeroTy Try.prog 117 [.int .u8 0] := by unfold ZeroTy; kernel_rfl
theorem c118 : CellTy Try.prog 118 := CellTy.of Try.underlying118 rfl (by kernel_rfl)
theorem c119 : CellTy Try.prog 119 := CellTy.of Try.underlying119 rfl (by kernel_rfl)
theorem z119 : ZeroTy Try.prog 119 [.pointer none] := by unfold ZeroTy; kernel_rfl
theorem c120 : CellTy Try.prog 120 := CellTy.of Try.underlying120 rfl (by kernel_rfl)
theorem z120 : ZeroTy Try.prog 120 [.int .i32 0] := by unfold ZeroTy; kernel_rfl
theorem c121 : CellTy Try.prog 121 := CellTy.of Try.underlying121 rfl (by kernel_rfl)
theorem z121 : ZeroTy Try.prog 121 [.int .i32 0] := by unfold ZeroTy; kernel_rfl
theorem r122 : RowTy Try.prog 122 11 := RowTy.of Try.underlying122 rfl (by kernel_rfl)
theorem z122 : ZeroTy Try.prog 122 [.int .u64 0, .int .u64 0, .int .u32 0, .int .u8 0, .int .u8 0, .int .u8 0, .int .u8 0, .nilFunc, .pointer none, .int .i32 0, .int .i32 0] := by unfold ZeroTy; kernel_rfl
theorem fl122_0 : FieldTy Try.prog 122 0 0 := FieldTy.of (n := 0) Try.underlying122 rfl rfl (by kernel_rfl)
theorem fl122_1 : FieldTy Try.prog 122 1 1 := FieldTy.of (n := 0) Try.underlying122 rfl rfl (by kernel_rfl)
theorem fl122_2 : FieldTy Try.prog 122 2 2 := FieldTy.of (n := 0) Try.underlying122 rfl rfl (by kernel_rfl)
theorem fl122_3 : FieldTy Try.prog 122 3 3 := FieldTy.of (n := 0) Try.underlying122 rfl rfl (by kernel_rfl)
theorem fl122_4 : FieldTy Try.prog 122 4 4 := FieldTy.of (n := 0) Try.underlying122 rfl rfl (by kernel_rfl)
theorem fl122_5 : FieldTy Try.prog 122 5 5 := FieldTy.of (n := 0) Try.underlying122 rfl rfl (by kernel_rfl)
theorem fl122_6 : FieldTy Try.prog 122 6 6 := FieldTy.of (n := 0) Try.underlying122 rfl rfl (by kernel_rfl)
theorem fl122_7 : FieldTy Try.prog 122 7 7 := FieldTy.of (n := 0) Try.underlying122 rfl rfl (by kernel_rfl)
theorem fl122_8 : FieldTy Try.prog 122 8 8 := FieldTy.of (n := 0) Try.underlying122 rfl rfl (by kernel_rfl)
theorem fl122_9 : FieldTy Try.prog 122 9 9 := FieldTy.of (n := 0) Try.underlying122 rfl rfl (by kernel_rfl)
theorem fl122_10 : FieldTy Try.prog 122 10 10 := FieldTy.of (n := 0) Try.underlying122 rfl rfl (by kernel_rfl)
theorem r123 : RowTy Try.prog 123 11 := RowTy.of Try.underlying123 rfl (by kernel_rfl)
theorem z123 : ZeroTy Try.prog 123 [.int .u64 0, .int .u64 0, .int .u32 0, .int .u8 0, .int .u8 0, .int .u8 0, .int .u8 0, .nilFunc, .pointer none, .int .i32 0, .int .i32 0] := by unfold ZeroTy; kernel_rfl
theorem fl123_0 : FieldTy Try.prog 123 0 0 := FieldTy.of (n := 0) Try.underlying123 rfl rfl (by kernel_rfl)
theorem fl123_1 : FieldTy Try.prog 123 1 1 := FieldTy.of (n := 0) Try.underlying123 rfl rfl (by kernel_rfl)
theorem fl123_2 : FieldTy Try.prog 123 2 2 := FieldTy.of (n := 0) Try.underlying123 rfl rfl (by kernel_rfl)
theorem fl123_3 : FieldTy Try.prog 123 3 3 := FieldTy.of (n := 0) Try.underlying123 rfl rfl (by kernel_rfl)
theorem fl123_4 : FieldTy Try.prog 123 4 4 := FieldTy.of (n := 0) Try.underlying123 rfl rfl (by kernel_rfl)
theorem fl123_5 : FieldTy Try.prog 123 5 5 := FieldTy.of (n := 0) Try.underlying123 rfl rfl (by kernel_rfl)
theorem fl123_6 : FieldTy Try.prog 123 6 6 := FieldTy.of (n := 0) Try.underlying123 rfl rfl (by kernel_rfl)
theorem fl123_7 : FieldTy Try.prog 123 7 7 := FieldTy.of (n := 0) Try.underlying123 rfl rfl (by kernel_rfl)
theorem fl123_8 : FieldTy Try.prog 123 8 8 := FieldTy.of (n := 0) Try.underlying123 rfl rfl (by kernel_rfl)
theorem fl123_9 : FieldTy Try.prog 123 9 9 := FieldTy.of (n := 0) Try.underlying123 rfl rfl (by kernel_rfl)
theorem fl123_10 : FieldTy Try.prog 123 10 10 := FieldTy.of (n := 0) Try.underlying123 rfl rfl (by kernel_rfl)
theorem ca2 : callable Try.prog 2 = true := by kernel_rfl
theorem ca3 : callable Try.prog 3 = true := by kernel_rfl
theorem ca4 : callable Try.prog 4 = true := by kernel_rfl
theorem ca5 : callable Try.prog 5 = true := by kernel_rfl
theorem ca6 : callable Try.prog 6 = true := by kernel_rfl
theorem ca7 : callable Try.prog 7 = true := by kernel_rfl
theorem ca8 : callable Try.prog 8 = true := by kernel_rfl
theorem ca9 : callable Try.prog 9 = true := by kernel_rfl
theorem ca10 : callable Try.prog 10 = true := by kernel_rfl
theorem ca11 : callable Try.prog 11 = true := by kernel_rfl
theorem ca12 : callable Try.prog 12 = true := by kernel_rfl
theorem ca13 : callable Try.prog 13 = true := by kernel_rfl
theorem ca14 : callable Try.prog 14 = true := by kernel_rfl
theorem ca15 : callable Try.prog 15 = true := by kernel_rfl
theorem ca16 : callable Try.prog 16 = true := by kernel_rfl
theorem ca17 : callable Try.prog 17 = true := by kernel_rfl
theorem ca18 : callable Try.prog 18 = true := by kernel_rfl
theorem ca19 : callable Try.prog 19 = true := by kernel_rfl
theorem ca20 : callable Try.prog 20 = true := by kernel_rfl
theorem ca21 : callable Try.prog 21 = true := by kernel_rfl
theorem ca22 : callable Try.prog 22 = true := by kernel_rfl
theorem ca23 : callable Try.prog 23 = true := by kernel_rfl
theorem ca24 : callable Try.prog 24 = true := by kernel_rfl
theorem ca25 : callable Try.prog 25 = true := by kernel_rfl
theorem ca26 : callable Try.prog 26 = true := by kernel_rfl
theorem ca27 : callable Try.prog 27 = true := by kernel_rfl
theorem ca28 : callable Try.prog 28 = true := by kernel_rfl
theorem ca29 : callable Try.prog 29 = true := by kernel_rfl
theorem ca30 : callable Try.prog 30 = true := by kernel_rfl
theorem ca31 : callable Try.prog 31 = true := by kernel_rfl
theorem ca32 : callable Try.prog 32 = true := by kernel_rfl
theorem ca33 : callable Try.prog 33 = true := by kernel_rfl
theorem ca34 : callable Try.prog 34 = true := by kernel_rfl
theorem ca35 : callable Try.prog 35 = true := by kernel_rfl
theorem ca36 : callable Try.prog 36 = true := by kernel_rfl
theorem ca37 : callable Try.prog 37 = true := by kernel_rfl
theorem ca38 : callable Try.prog 38 = true := by kernel_rfl
theorem ca39 : callable Try.prog 39 = true := by kernel_rfl
theorem ca40 : callable Try.prog 40 = true := by kernel_rfl
theorem ca41 : callable Try.prog 41 = true := by kernel_rfl
theorem ca42 : callable Try.prog 42 = true := by kernel_rfl
theorem ca43 : callable Try.prog 43 = true := by kernel_rfl
theorem ca44 : callable Try.prog 44 = true := by kernel_rfl
theorem ca45 : callable Try.prog 45 = true := by kernel_rfl
theorem ca46 : callable Try.prog 46 = true := by kernel_rfl
theorem ca47 : callable Try.prog 47 = true := by kernel_rfl
theorem ca48 : callable Try.prog 48 = true := by kernel_rfl
theorem ca49 : callable Try.prog 49 = true := by kernel_rfl
theorem ca50 : callable Try.prog 50 = true := by kernel_rfl
theorem ca51 : callable Try.prog 51 = true := by kernel_rfl
theorem ca52 : callable Try.prog 52 = true := by kernel_rfl
theorem ca53 : callable Try.prog 53 = true := by kernel_rfl
theorem ca54 : callable Try.prog 54 = true := by kernel_rfl
theorem ca55 : callable Try.prog 55 = true := by kernel_rfl
theorem ca56 : callable Try.prog 56 = true := by kernel_rfl
theorem ca57 : callable Try.prog 57 = true := by kernel_rfl
theorem ca58 : callable Try.prog 58 = true := by kernel_rfl
theorem ca59 : callable Try.prog 59 = true := by kernel_rfl
theorem ca60 : callable Try.prog 60 = true := by kernel_rfl
theorem ca61 : callable Try.prog 61 = true := by kernel_rfl
theorem ca62 : callable Try.prog 62 = true := by kernel_rfl
theorem ca63 : callable Try.prog 63 = true := by kernel_rfl
theorem ca64 : callable Try.prog 64 = true := by kernel_rfl
theorem ca65 : callable Try.prog 65 = true := by kernel_rfl
theorem ca66 : callable Try.prog 66 = true := by kernel_rfl
theorem ca67 : callable Try.prog 67 = true := by kernel_rfl
theorem ca68 : callable Try.prog 68 = true := by kernel_rfl
theorem ca69 : callable Try.prog 69 = true := by kernel_rfl
theorem ca70 : callable Try.prog 70 = true := by kernel_rfl
theorem ca71 : callable Try.prog 71 = true := by kernel_rfl
theorem ca72 : callable Try.prog 72 = true := by kernel_rfl
theorem ca73 : callable Try.prog 73 = true := by kernel_rfl
theorem ca74 : callable Try.prog 74 = true := by kernel_rfl
theorem ca75 : callable Try.prog 75 = true := by kernel_rfl
theorem ca76 : callable Try.prog 76 = true := by kernel_rfl
theorem ca77 : callable Try.prog 77 = true := by kernel_rfl
theorem ca78 : callable Try.prog 78 = true := by kernel_rfl
theorem mixed : Try.prog.follows .mixedOrders = true := by kernel_rfl
end Go.Proofs.Ytneimfacccgaeaa
