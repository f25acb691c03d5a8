/- The table of types of this seat, in the words of the logic; printed by sx.py. -/
import Derived.Test.YtnamppkicefbjaaSepx
import Derived.Test.YtnamppkicefbjaaProg
namespace Go.Proofs.Ytnamppkicefbjaa
open Go.Sep
theorem c1 : CellTy Try.prog 1 := CellTy.of Try.underlying1 rfl (by kernel_rfl)
theorem c2 : CellTy Try.prog 2 := CellTy.of Try.underlying2 rfl (by kernel_rfl)
theorem z2 : ZeroTy Try.prog 2 [.int .i64 0] := by unfold ZeroTy; kernel_rfl
theorem c3 : CellTy Try.prog 3 := CellTy.of Try.underlying3 rfl (by kernel_rfl)
theorem z3 : ZeroTy Try.prog 3 [.int .i64 0] := by unfold ZeroTy; kernel_rfl
theorem c4 : CellTy Try.prog 4 := CellTy.of Try.underlying4 rfl (by kernel_rfl)
theorem z4 : ZeroTy Try.prog 4 [.bool false] := by unfold ZeroTy; kernel_rfl
theorem c5 : CellTy Try.prog 5 := CellTy.of Try.underlying5 rfl (by kernel_rfl)
theorem z5 : ZeroTy Try.prog 5 [.int .u8 0] := by unfold ZeroTy; kernel_rfl
theorem c6 : CellTy Try.prog 6 := CellTy.of Try.underlying6 rfl (by kernel_rfl)
theorem z6 : ZeroTy Try.prog 6 [.int .u8 0] := by unfold ZeroTy; kernel_rfl
theorem r7 : RowTy Try.prog 7 4 := RowTy.of Try.underlying7 rfl (by kernel_rfl)
theorem z7 : ZeroTy Try.prog 7 [.int .i64 0, .int .i64 0, .bool false, .int .u8 0] := by unfold ZeroTy; kernel_rfl
theorem fl7_0 : FieldTy Try.prog 7 0 0 := FieldTy.of (n := 0) Try.underlying7 rfl rfl (by kernel_rfl)
theorem fl7_1 : FieldTy Try.prog 7 1 1 := FieldTy.of (n := 0) Try.underlying7 rfl rfl (by kernel_rfl)
theorem fl7_2 : FieldTy Try.prog 7 2 2 := FieldTy.of (n := 0) Try.underlying7 rfl rfl (by kernel_rfl)
theorem fl7_3 : FieldTy Try.prog 7 3 3 := FieldTy.of (n := 0) Try.underlying7 rfl rfl (by kernel_rfl)
theorem r8 : RowTy Try.prog 8 4 := RowTy.of Try.underlying8 rfl (by kernel_rfl)
theorem z8 : ZeroTy Try.prog 8 [.int .i64 0, .int .i64 0, .bool false, .int .u8 0] := by unfold ZeroTy; kernel_rfl
theorem fl8_0 : FieldTy Try.prog 8 0 0 := FieldTy.of (n := 0) Try.underlying8 rfl rfl (by kernel_rfl)
theorem fl8_1 : FieldTy Try.prog 8 1 1 := FieldTy.of (n := 0) Try.underlying8 rfl rfl (by kernel_rfl)
theorem fl8_2 : FieldTy Try.prog 8 2 2 := FieldTy.of (n := 0) Try.underlying8 rfl rfl (by kernel_rfl)
theorem fl8_3 : FieldTy Try.prog 8 3 3 := FieldTy.of (n := 0) Try.underlying8 rfl rfl (by kernel_rfl)
theorem c9 : CellTy Try.prog 9 := CellTy.of Try.underlying9 rfl (by kernel_rfl)
theorem z9 : ZeroTy Try.prog 9 [.string ByteArray.empty] := by unfold ZeroTy; kernel_rfl
theorem c10 : CellTy Try.prog 10 := CellTy.of Try.underlying10 rfl (by kernel_rfl)
theorem z10 : ZeroTy Try.prog 10 [.string ByteArray.empty] := by unfold ZeroTy; kernel_rfl
theorem c11 : CellTy Try.prog 11 := CellTy.of Try.underlying11 rfl (by kernel_rfl)
theorem z11 : ZeroTy Try.prog 11 [.string ByteArray.empty] := by unfold ZeroTy; kernel_rfl
theorem c12 : CellTy Try.prog 12 := CellTy.of Try.underlying12 rfl (by kernel_rfl)
theorem z12 : ZeroTy Try.prog 12 [.int .u64 0] := by unfold ZeroTy; kernel_rfl
theorem r13 : RowTy Try.prog 13 2 := RowTy.of Try.underlying13 rfl (by kernel_rfl)
theorem z13 : ZeroTy Try.prog 13 [.string ByteArray.empty, .int .u64 0] := by unfold ZeroTy; kernel_rfl
theorem fl13_0 : FieldTy Try.prog 13 0 0 := FieldTy.of (n := 0) Try.underlying13 rfl rfl (by kernel_rfl)
theorem fl13_1 : FieldTy Try.prog 13 1 1 := FieldTy.of (n := 0) Try.underlying13 rfl rfl (by kernel_rfl)
theorem r14 : RowTy Try.prog 14 2 := RowTy.of Try.underlying14 rfl (by kernel_rfl)
theorem z14 : ZeroTy Try.prog 14 [.string ByteArray.empty, .int .u64 0] := by unfold ZeroTy; kernel_rfl
theorem fl14_0 : FieldTy Try.prog 14 0 0 := FieldTy.of (n := 0) Try.underlying14 rfl rfl (by kernel_rfl)
theorem fl14_1 : FieldTy Try.prog 14 1 1 := FieldTy.of (n := 0) Try.underlying14 rfl rfl (by kernel_rfl)
theorem c15 : CellTy Try.prog 15 := CellTy.of Try.underlying15 rfl (by kernel_rfl)
theorem z15 : ZeroTy Try.prog 15 [.pointer none] := by unfold ZeroTy; kernel_rfl
theorem c16 : CellTy Try.prog 16 := CellTy.of Try.underlying16 rfl (by kernel_rfl)
theorem z16 : ZeroTy Try.prog 16 [.pointer none] := by unfold ZeroTy; kernel_rfl
theorem c17 : CellTy Try.prog 17 := CellTy.of Try.underlying17 rfl (by kernel_rfl)
theorem z17 : ZeroTy Try.prog 17 [.pointer none] := by unfold ZeroTy; kernel_rfl
theorem r18 : RowTy Try.prog 18 1 := RowTy.of Try.underlying18 rfl (by kernel_rfl)
theorem z18 : ZeroTy Try.prog 18 [.pointer none] := by unfold ZeroTy; kernel_rfl
theorem fl18_0 : FieldTy Try.prog 18 0 0 := FieldTy.of (n := 0) Try.underlying18 rfl rfl (by kernel_rfl)
theorem r19 : RowTy Try.prog 19 1 := RowTy.of Try.underlying19 rfl (by kernel_rfl)
theorem z19 : ZeroTy Try.prog 19 [.pointer none] := by unfold ZeroTy; kernel_rfl
theorem fl19_0 : FieldTy Try.prog 19 0 0 := FieldTy.of (n := 0) Try.underlying19 rfl rfl (by kernel_rfl)
theorem c20 : CellTy Try.prog 20 := CellTy.of Try.underlying20 rfl (by kernel_rfl)
theorem z20 : ZeroTy Try.prog 20 [.nilIface] := by unfold ZeroTy; kernel_rfl
theorem c21 : CellTy Try.prog 21 := CellTy.of Try.underlying21 rfl (by kernel_rfl)
theorem z21 : ZeroTy Try.prog 21 [.int .i32 0] := by unfold ZeroTy; kernel_rfl
theorem c22 : CellTy Try.prog 22 := CellTy.of Try.underlying22 rfl (by kernel_rfl)
theorem z22 : ZeroTy Try.prog 22 [.slice none 0 0] := by unfold ZeroTy; kernel_rfl
theorem s22 : SliceTy Try.prog 22 56 9 32 [.int .u8 0, .int .u8 0, .int .u8 0, .int .u8 0, .int .i8 0, .int .i8 0, .int .i8 0, .int .i8 0, .slice none 0 0] := SliceTy.of (z := .agg #[.int .u8 0, .int .u8 0, .int .u8 0, .int .u8 0, .int .i8 0, .int .i8 0, .int .i8 0, .int .i8 0, .slice none 0 0]) Try.underlying22 (by kernel_rfl) rfl rfl rfl rfl
theorem c23 : CellTy Try.prog 23 := CellTy.of Try.underlying23 rfl (by kernel_rfl)
theorem c24 : CellTy Try.prog 24 := CellTy.of Try.underlying24 rfl (by kernel_rfl)
theorem z24 : ZeroTy Try.prog 24 [.pointer none] := by unfold ZeroTy; kernel_rfl
theorem c25 : CellTy Try.prog 25 := CellTy.of Try.underlying25 rfl (by kernel_rfl)
theorem z25 : ZeroTy Try.prog 25 [.slice none 0 0] := by unfold ZeroTy; kernel_rfl
theorem s25 : SliceTy Try.prog 25 30 8 80 [.int .i64 0, .int .i64 0, .int .i64 0, .int .i64 0, .int .i64 0, .int .i64 0, .int .i64 0, .slice none 0 0] := SliceTy.of (z := .agg #[.int .i64 0, .int .i64 0, .int .i64 0, .int .i64 0, .int .i64 0, .int .i64 0, .int .i64 0, .slice none 0 0]) Try.underlying25 (by kernel_rfl) rfl rfl rfl rfl
theorem c27 : CellTy Try.prog 27 := CellTy.of Try.underlying27 rfl (by kernel_rfl)
theorem c28 : CellTy Try.prog 28 := CellTy.of Try.underlying28 rfl (by kernel_rfl)
theorem z28 : ZeroTy Try.prog 28 [.slice none 0 0] := by unfold ZeroTy; kernel_rfl
theorem s28 : SliceTy Try.prog 28 2 1 8 [.int .i64 0] := SliceTy.of (z := .int .i64 0) Try.underlying28 (by kernel_rfl) rfl rfl rfl rfl
theorem r29 : RowTy Try.prog 29 8 := RowTy.of Try.underlying29 rfl (by kernel_rfl)
theorem z29 : ZeroTy Try.prog 29 [.int .i64 0, .int .i64 0, .int .i64 0, .int .i64 0, .int .i64 0, .int .i64 0, .int .i64 0, .slice none 0 0] := by unfold ZeroTy; kernel_rfl
theorem fl29_0 : FieldTy Try.prog 29 0 0 := FieldTy.of (n := 0) Try.underlying29 rfl rfl (by kernel_rfl)
theorem fl29_1 : FieldTy Try.prog 29 1 1 := FieldTy.of (n := 0) Try.underlying29 rfl rfl (by kernel_rfl)
theorem fl29_2 : FieldTy Try.prog 29 2 2 := FieldTy.of (n := 0) Try.underlying29 rfl rfl (by kernel_rfl)
theorem fl29_3 : FieldTy Try.prog 29 3 3 := FieldTy.of (n := 0) Try.underlying29 rfl rfl (by kernel_rfl)
theorem fl29_4 : FieldTy Try.prog 29 4 4 := FieldTy.of (n := 0) Try.underlying29 rfl rfl (by kernel_rfl)
theorem fl29_5 : FieldTy Try.prog 29 5 5 := FieldTy.of (n := 0) Try.underlying29 rfl rfl (by kernel_rfl)
theorem fl29_6 : FieldTy Try.prog 29 6 6 := FieldTy.of (n := 0) Try.underlying29 rfl rfl (by kernel_rfl)
theorem fl29_7 : FieldTy Try.prog 29 7 7 := FieldTy.of (n := 0) Try.underlying29 rfl rfl (by kernel_rfl)
theorem r30 : RowTy Try.prog 30 8 := RowTy.of Try.underlying30 rfl (by kernel_rfl)
theorem z30 : ZeroTy Try.prog 30 [.int .i64 0, .int .i64 0, .int .i64 0, .int .i64 0, .int .i64 0, .int .i64 0, .int .i64 0, .slice none 0 0] := by unfold ZeroTy; kernel_rfl
theorem fl30_0 : FieldTy Try.prog 30 0 0 := FieldTy.of (n := 0) Try.underlying30 rfl rfl (by kernel_rfl)
theorem fl30_1 : FieldTy Try.prog 30 1 1 := FieldTy.of (n := 0) Try.underlying30 rfl rfl (by kernel_rfl)
theorem fl30_2 : FieldTy Try.prog 30 2 2 := FieldTy.of (n := 0) Try.underlying30 rfl rfl (by kernel_rfl)
theorem fl30_3 : FieldTy Try.prog 30 3 3 := FieldTy.of (n := 0) Try.underlying30 rfl rfl (by kernel_rfl)
theorem fl30_4 : FieldTy Try.prog 30 4 4 := FieldTy.of (n := 0) Try.underlying30 rfl rfl (by kernel_rfl)
theorem fl30_5 : FieldTy Try.prog 30 5 5 := FieldTy.of (n := 0) Try.underlying30 rfl rfl (by kernel_rfl)
theorem fl30_6 : FieldTy Try.prog 30 6 6 := FieldTy.of (n := 0) Try.underlying30 rfl rfl (by kernel_rfl)
theorem fl30_7 : FieldTy Try.prog 30 7 7 := FieldTy.of (n := 0) Try.underlying30 rfl rfl (by kernel_rfl)
theorem c31 : CellTy Try.prog 31 := CellTy.of Try.underlying31 rfl (by kernel_rfl)
theorem z31 : ZeroTy Try.prog 31 [.slice none 0 0] := by unfold ZeroTy; kernel_rfl
theorem s31 : SliceTy Try.prog 31 35 7 72 [.int .u8 0, .int .i64 0, .int .i64 0, .int .i64 0, .int .i64 0, .int .i64 0, .slice none 0 0] := SliceTy.of (z := .agg #[.int .u8 0, .int .i64 0, .int .i64 0, .int .i64 0, .int .i64 0, .int .i64 0, .slice none 0 0]) Try.underlying31 (by kernel_rfl) rfl rfl rfl rfl
theorem c32 : CellTy Try.prog 32 := CellTy.of Try.underlying32 rfl (by kernel_rfl)
theorem c33 : CellTy Try.prog 33 := CellTy.of Try.underlying33 rfl (by kernel_rfl)
theorem z33 : ZeroTy Try.prog 33 [.int .u8 0] := by unfold ZeroTy; kernel_rfl
theorem r34 : RowTy Try.prog 34 7 := RowTy.of Try.underlying34 rfl (by kernel_rfl)
theorem z34 : ZeroTy Try.prog 34 [.int .u8 0, .int .i64 0, .int .i64 0, .int .i64 0, .int .i64 0, .int .i64 0, .slice none 0 0] := by unfold ZeroTy; kernel_rfl
theorem fl34_0 : FieldTy Try.prog 34 0 0 := FieldTy.of (n := 0) Try.underlying34 rfl rfl (by kernel_rfl)
theorem fl34_1 : FieldTy Try.prog 34 1 1 := FieldTy.of (n := 0) Try.underlying34 rfl rfl (by kernel_rfl)
theorem fl34_2 : FieldTy Try.prog 34 2 2 := FieldTy.of (n := 0) Try.underlying34 rfl rfl (by kernel_rfl)
theorem fl34_3 : FieldTy Try.prog 34 3 3 := FieldTy.of (n := 0) Try.underlying34 rfl rfl (by kernel_rfl)
theorem fl34_4 : FieldTy Try.prog 34 4 4 := FieldTy.of (n := 0) Try.underlying34 rfl rfl (by kernel_rfl)
theorem fl34_5 : FieldTy Try.prog 34 5 5 := FieldTy.of (n := 0) Try.underlying34 rfl rfl (by kernel_rfl)
theorem fl34_6 : FieldTy Try.prog 34 6 6 := FieldTy.of (n := 0) Try.underlying34 rfl rfl (by kernel_rfl)
theorem r35 : RowTy Try.prog 35 7 := RowTy.of Try.underlying35 rfl (by kernel_rfl)
theorem z35 : ZeroTy Try.prog 35 [.int .u8 0, .int .i64 0, .int .i64 0, .int .i64 0, .int .i64 0, .int .i64 0, .slice none 0 0] := by unfold ZeroTy; kernel_rfl
theorem fl35_0 : FieldTy Try.prog 35 0 0 := FieldTy.of (n := 0) Try.underlying35 rfl rfl (by kernel_rfl)
theorem fl35_1 : FieldTy Try.prog 35 1 1 := FieldTy.of (n := 0) Try.underlying35 rfl rfl (by kernel_rfl)
theorem fl35_2 : FieldTy Try.prog 35 2 2 := FieldTy.of (n := 0) Try.underlying35 rfl rfl (by kernel_rfl)
theorem fl35_3 : FieldTy Try.prog 35 3 3 := FieldTy.of (n := 0) Try.underlying35 rfl rfl (by kernel_rfl)
theorem fl35_4 : FieldTy Try.prog 35 4 4 := FieldTy.of (n := 0) Try.underlying35 rfl rfl (by kernel_rfl)
theorem fl35_5 : FieldTy Try.prog 35 5 5 := FieldTy.of (n := 0) Try.underlying35 rfl rfl (by kernel_rfl)
theorem fl35_6 : FieldTy Try.prog 35 6 6 := FieldTy.of (n := 0) Try.underlying35 rfl rfl (by kernel_rfl)
theorem c36 : CellTy Try.prog 36 := CellTy.of Try.underlying36 rfl (by kernel_rfl)
theorem c37 : CellTy Try.prog 37 := CellTy.of Try.underlying37 rfl (by kernel_rfl)
theorem c38 : CellTy Try.prog 38 := CellTy.of Try.underlying38 rfl (by kernel_rfl)
theorem c39 : CellTy Try.prog 39 := CellTy.of Try.underlying39 rfl (by kernel_rfl)
theorem c40 : CellTy Try.prog 40 := CellTy.of Try.underlying40 rfl (by kernel_rfl)
theorem c41 : CellTy Try.prog 41 := CellTy.of Try.underlying41 rfl (by kernel_rfl)
theorem z41 : ZeroTy Try.prog 41 [.int .i64 0] := by unfold ZeroTy; kernel_rfl
theorem c42 : CellTy Try.prog 42 := CellTy.of Try.underlying42 rfl (by kernel_rfl)
theorem c43 : CellTy Try.prog 43 := CellTy.of Try.underlying43 rfl (by kernel_rfl)
theorem c44 : CellTy Try.prog 44 := CellTy.of Try.underlying44 rfl (by kernel_rfl)
theorem c45 : CellTy Try.prog 45 := CellTy.of Try.underlying45 rfl (by kernel_rfl)
theorem c47 : CellTy Try.prog 47 := CellTy.of Try.underlying47 rfl (by kernel_rfl)
theorem c48 : CellTy Try.prog 48 := CellTy.of Try.underlying48 rfl (by kernel_rfl)
theorem c50 : CellTy Try.prog 50 := CellTy.of Try.underlying50 rfl (by kernel_rfl)
theorem c51 : CellTy Try.prog 51 := CellTy.of Try.underlying51 rfl (by kernel_rfl)
theorem c52 : CellTy Try.prog 52 := CellTy.of Try.underlying52 rfl (by kernel_rfl)
theorem c53 : CellTy Try.prog 53 := CellTy.of Try.underlying53 rfl (by kernel_rfl)
theorem c54 : CellTy Try.prog 54 := CellTy.of Try.underlying54 rfl (by kernel_rfl)
theorem z54 : ZeroTy Try.prog 54 [.int .i8 0] := by unfold ZeroTy; kernel_rfl
theorem r55 : RowTy Try.prog 55 9 := RowTy.of Try.underlying55 rfl (by kernel_rfl)
theorem z55 : ZeroTy Try.prog 55 [.int .u8 0, .int .u8 0, .int .u8 0, .int .u8 0, .int .i8 0, .int .i8 0, .int .i8 0, .int .i8 0, .slice none 0 0] := by unfold ZeroTy; kernel_rfl
theorem fl55_0 : FieldTy Try.prog 55 0 0 := FieldTy.of (n := 0) Try.underlying55 rfl rfl (by kernel_rfl)
theorem fl55_1 : FieldTy Try.prog 55 1 1 := FieldTy.of (n := 0) Try.underlying55 rfl rfl (by kernel_rfl)
theorem fl55_2 : FieldTy Try.prog 55 2 2 := FieldTy.of (n := 0) Try.underlying55 rfl rfl (by kernel_rfl)
theorem fl55_3 : FieldTy Try.prog 55 3 3 := FieldTy.of (n := 0) Try.underlying55 rfl rfl (by kernel_rfl)
theorem fl55_4 : FieldTy Try.prog 55 4 4 := FieldTy.of (n := 0) Try.underlying55 rfl rfl (by kernel_rfl)
theorem fl55_5 : FieldTy Try.prog 55 5 5 := FieldTy.of (n := 0) Try.underlying55 rfl rfl (by kernel_rfl)
theorem fl55_6 : FieldTy Try.prog 55 6 6 := FieldTy.of (n := 0) Try.underlying55 rfl rfl (by kernel_rfl)
theorem fl55_7 : FieldTy Try.prog 55 7 7 := FieldTy.of (n := 0) Try.underlying55 rfl rfl (by kernel_rfl)
theorem fl55_8 : FieldTy Try.prog 55 8 8 := FieldTy.of (n := 0) Try.underlying55 rfl rfl (by kernel_rfl)
theorem r56 : RowTy Try.prog 56 9 := RowTy.of Try.underlying56 rfl (by kernel_rfl)
theorem z56 : ZeroTy Try.prog 56 [.int .u8 0, .int .u8 0, .int .u8 0, .int .u8 0, .int .i8 0, .int .i8 0, .int .i8 0, .int .i8 0, .slice none 0 0] := by unfold ZeroTy; kernel_rfl
theorem fl56_0 : FieldTy Try.prog 56 0 0 := FieldTy.of (n := 0) Try.underlying56 rfl rfl (by kernel_rfl)
theorem fl56_1 : FieldTy Try.prog 56 1 1 := FieldTy.of (n := 0) Try.underlying56 rfl rfl (by kernel_rfl)
theorem fl56_2 : FieldTy Try.prog 56 2 2 := FieldTy.of (n := 0) Try.underlying56 rfl rfl (by kernel_rfl)
theorem fl56_3 : FieldTy Try.prog 56 3 3 := FieldTy.of (n := 0) Try.underlying56 rfl rfl (by kernel_rfl)
theorem fl56_4 : FieldTy Try.prog 56 4 4 := FieldTy.of (n := 0) Try.underlying56 rfl rfl (by kernel_rfl)
theorem fl56_5 : FieldTy Try.prog 56 5 5 := FieldTy.of (n := 0) Try.underlying56 rfl rfl (by kernel_rfl)
theorem fl56_6 : FieldTy Try.prog 56 6 6 := FieldTy.of (n := 0) Try.underlying56 rfl rfl (by kernel_rfl)
theorem fl56_7 : FieldTy Try.prog 56 7 7 := FieldTy.of (n := 0) Try.underlying56 rfl rfl (by kernel_rfl)
theorem fl56_8 : FieldTy Try.prog 56 8 8 := FieldTy.of (n := 0) Try.underlying56 rfl rfl (by kernel_rfl)
theorem c57 : CellTy Try.prog 57 := CellTy.of Try.underlying57 rfl (by kernel_rfl)
theorem c58 : CellTy Try.prog 58 := CellTy.of Try.underlying58 rfl (by kernel_rfl)
theorem z58 : ZeroTy Try.prog 58 [.pointer none] := by unfold ZeroTy; kernel_rfl
theorem c59 : CellTy Try.prog 59 := CellTy.of Try.underlying59 rfl (by kernel_rfl)
theorem z59 : ZeroTy Try.prog 59 [.pointer none] := by unfold ZeroTy; kernel_rfl
theorem c61 : CellTy Try.prog 61 := CellTy.of Try.underlying61 rfl (by kernel_rfl)
theorem r62 : RowTy Try.prog 62 5 := RowTy.of Try.underlying62 rfl (by kernel_rfl)
theorem z62 : ZeroTy Try.prog 62 [.int .i64 0, .int .i64 0, .int .i64 0, .int .i64 0, .int .i64 0] := by unfold ZeroTy; kernel_rfl
theorem c63 : CellTy Try.prog 63 := CellTy.of Try.underlying63 rfl (by kernel_rfl)
theorem c64 : CellTy Try.prog 64 := CellTy.of Try.underlying64 rfl (by kernel_rfl)
theorem c65 : CellTy Try.prog 65 := CellTy.of Try.underlying65 rfl (by kernel_rfl)
theorem z65 : ZeroTy Try.prog 65 [.slice none 0 0] := by unfold ZeroTy; kernel_rfl
theorem s65 : SliceTy Try.prog 65 5 1 1 [.int .u8 0] := SliceTy.of (z := .int .u8 0) Try.underlying65 (by kernel_rfl) rfl rfl rfl rfl
theorem c66 : CellTy Try.prog 66 := CellTy.of Try.underlying66 rfl (by kernel_rfl)
theorem z66 : ZeroTy Try.prog 66 [.pointer none] := by unfold ZeroTy; kernel_rfl
theorem c68 : CellTy Try.prog 68 := CellTy.of Try.underlying68 rfl (by kernel_rfl)
theorem c69 : CellTy Try.prog 69 := CellTy.of Try.underlying69 rfl (by kernel_rfl)
theorem z69 : ZeroTy Try.prog 69 [.slice none 0 0] := by unfold ZeroTy; kernel_rfl
theorem s69 : SliceTy Try.prog 69 116 7 72 [.int .u8 0, .int .i64 0, .int .i64 0, .int .i64 0, .int .i64 0, .int .i64 0, .slice none 0 0] := SliceTy.of (z := .agg #[.int .u8 0, .int .i64 0, .int .i64 0, .int .i64 0, .int .i64 0, .int .i64 0, .slice none 0 0]) Try.underlying69 (by kernel_rfl) rfl rfl rfl rfl
theorem r70 : RowTy Try.prog 70 1 := RowTy.of Try.underlying70 rfl (by kernel_rfl)
theorem z70 : ZeroTy Try.prog 70 [.slice none 0 0] := by unfold ZeroTy; kernel_rfl
theorem fl70_0 : FieldTy Try.prog 70 0 0 := FieldTy.of (n := 0) Try.underlying70 rfl rfl (by kernel_rfl)
theorem r71 : RowTy Try.prog 71 1 := RowTy.of Try.underlying71 rfl (by kernel_rfl)
theorem z71 : ZeroTy Try.prog 71 [.slice none 0 0] := by unfold ZeroTy; kernel_rfl
theorem fl71_0 : FieldTy Try.prog 71 0 0 := FieldTy.of (n := 0) Try.underlying71 rfl rfl (by kernel_rfl)
theorem c72 : CellTy Try.prog 72 := CellTy.of Try.underlying72 rfl (by kernel_rfl)
theorem z72 : ZeroTy Try.prog 72 [.slice none 0 0] := by unfold ZeroTy; kernel_rfl
theorem s72 : SliceTy Try.prog 72 76 3 40 [.int .i64 0, .int .i64 0, .slice none 0 0] := SliceTy.of (z := .agg #[.int .i64 0, .int .i64 0, .slice none 0 0]) Try.underlying72 (by kernel_rfl) rfl rfl rfl rfl
theorem c74 : CellTy Try.prog 74 := CellTy.of Try.underlying74 rfl (by kernel_rfl)
theorem r75 : RowTy Try.prog 75 3 := RowTy.of Try.underlying75 rfl (by kernel_rfl)
theorem z75 : ZeroTy Try.prog 75 [.int .i64 0, .int .i64 0, .slice none 0 0] := by unfold ZeroTy; kernel_rfl
theorem fl75_0 : FieldTy Try.prog 75 0 0 := FieldTy.of (n := 0) Try.underlying75 rfl rfl (by kernel_rfl)
theorem fl75_1 : FieldTy Try.prog 75 1 1 := FieldTy.of (n := 0) Try.underlying75 rfl rfl (by kernel_rfl)
theorem fl75_2 : FieldTy Try.prog 75 2 2 := FieldTy.of (n := 0) Try.underlying75 rfl rfl (by kernel_rfl)
theorem r76 : RowTy Try.prog 76 3 := RowTy.of Try.underlying76 rfl (by kernel_rfl)
theorem z76 : ZeroTy Try.prog 76 [.int .i64 0, .int .i64 0, .slice none 0 0] := by unfold ZeroTy; kernel_rfl
theorem fl76_0 : FieldTy Try.prog 76 0 0 := FieldTy.of (n := 0) Try.underlying76 rfl rfl (by kernel_rfl)
theorem fl76_1 : FieldTy Try.prog 76 1 1 := FieldTy.of (n := 0) Try.underlying76 rfl rfl (by kernel_rfl)
theorem fl76_2 : FieldTy Try.prog 76 2 2 := FieldTy.of (n := 0) Try.underlying76 rfl rfl (by kernel_rfl)
theorem c77 : CellTy Try.prog 77 := CellTy.of Try.underlying77 rfl (by kernel_rfl)
theorem z77 : ZeroTy Try.prog 77 [.slice none 0 0] := by unfold ZeroTy; kernel_rfl
theorem s77 : SliceTy Try.prog 77 3 1 8 [.int .i64 0] := SliceTy.of (z := .int .i64 0) Try.underlying77 (by kernel_rfl) rfl rfl rfl rfl
theorem c78 : CellTy Try.prog 78 := CellTy.of Try.underlying78 rfl (by kernel_rfl)
theorem c79 : CellTy Try.prog 79 := CellTy.of Try.underlying79 rfl (by kernel_rfl)
theorem c80 : CellTy Try.prog 80 := CellTy.of Try.underlying80 rfl (by kernel_rfl)
theorem r81 : RowTy Try.prog 81 8 := RowTy.of Try.underlying81 rfl (by kernel_rfl)
theorem z81 : ZeroTy Try.prog 81 [.int .i64 0, .int .u8 0, .int .i64 0, .int .i64 0, .int .i64 0, .int .i64 0, .int .i64 0, .slice none 0 0] := by unfold ZeroTy; kernel_rfl
theorem fl81_0 : FieldTy Try.prog 81 0 0 := FieldTy.of (n := 0) Try.underlying81 rfl rfl (by kernel_rfl)
theorem fl81_1 : FieldTy Try.prog 81 1 1 := FieldTy.of (n := 6) Try.underlying81 rfl rfl (by kernel_rfl)
theorem r82 : RowTy Try.prog 82 8 := RowTy.of Try.underlying82 rfl (by kernel_rfl)
theorem z82 : ZeroTy Try.prog 82 [.int .i64 0, .int .u8 0, .int .i64 0, .int .i64 0, .int .i64 0, .int .i64 0, .int .i64 0, .slice none 0 0] := by unfold ZeroTy; kernel_rfl
theorem fl82_0 : FieldTy Try.prog 82 0 0 := FieldTy.of (n := 0) Try.underlying82 rfl rfl (by kernel_rfl)
theorem fl82_1 : FieldTy Try.prog 82 1 1 := FieldTy.of (n := 6) Try.underlying82 rfl rfl (by kernel_rfl)
theorem c83 : CellTy Try.prog 83 := CellTy.of Try.underlying83 rfl (by kernel_rfl)
theorem z83 : ZeroTy Try.prog 83 [.slice none 0 0] := by unfold ZeroTy; kernel_rfl
theorem s83 : SliceTy Try.prog 83 82 8 80 [.int .i64 0, .int .u8 0, .int .i64 0, .int .i64 0, .int .i64 0, .int .i64 0, .int .i64 0, .slice none 0 0] := SliceTy.of (z := .agg #[.int .i64 0, .int .u8 0, .int .i64 0, .int .i64 0, .int .i64 0, .int .i64 0, .int .i64 0, .slice none 0 0]) Try.underlying83 (by kernel_rfl) rfl rfl rfl rfl
theorem r84 : RowTy Try.prog 84 1 := RowTy.of Try.underlying84 rfl (by kernel_rfl)
theorem z84 : ZeroTy Try.prog 84 [.slice none 0 0] := by unfold ZeroTy; kernel_rfl
theorem fl84_0 : FieldTy Try.prog 84 0 0 := FieldTy.of (n := 0) Try.underlying84 rfl rfl (by kernel_rfl)
theorem r85 : RowTy Try.prog 85 1 := RowTy.of Try.underlying85 rfl (by kernel_rfl)
theorem z85 : ZeroTy Try.prog 85 [.slice none 0 0] := by unfold ZeroTy; kernel_rfl
theorem fl85_0 : FieldTy Try.prog 85 0 0 := FieldTy.of (n := 0) Try.underlying85 rfl rfl (by kernel_rfl)
theorem c86 : CellTy Try.prog 86 := CellTy.of Try.underlying86 rfl (by kernel_rfl)
theorem c87 : CellTy Try.prog 87 := CellTy.of Try.underlying87 rfl (by kernel_rfl)
theorem c88 : CellTy Try.prog 88 := CellTy.of Try.underlying88 rfl (by kernel_rfl)
theorem c89 : CellTy Try.prog 89 := CellTy.of Try.underlying89 rfl (by kernel_rfl)
theorem r90 : RowTy Try.prog 90 4 := RowTy.of Try.underlying90 rfl (by kernel_rfl)
theorem z90 : ZeroTy Try.prog 90 [.int .i64 0, .int .i64 0, .int .i64 0, .int .i64 0] := by unfold ZeroTy; kernel_rfl
theorem c91 : CellTy Try.prog 91 := CellTy.of Try.underlying91 rfl (by kernel_rfl)
theorem c92 : CellTy Try.prog 92 := CellTy.of Try.underlying92 rfl (by kernel_rfl)
theorem c93 : CellTy Try.prog 93 := CellTy.of Try.underlying93 rfl (by kernel_rfl)
theorem c94 : CellTy Try.prog 94 := CellTy.of Try.underlying94 rfl (by kernel_rfl)
theorem c95 : CellTy Try.prog 95 := CellTy.of Try.underlying95 rfl (by kernel_rfl)
theorem c96 : CellTy Try.prog 96 := CellTy.of Try.underlying96 rfl (by kernel_rfl)
theorem c97 : CellTy Try.prog 97 := CellTy.of Try.underlying97 rfl (by kernel_rfl)
theorem c98 : CellTy Try.prog 98 := CellTy.of Try.underlying98 rfl (by kernel_rfl)
theorem c99 : CellTy Try.prog 99 := CellTy.of Try.underlying99 rfl (by kernel_rfl)
theorem z99 : ZeroTy Try.prog 99 [.slice none 0 0] := by unfold ZeroTy; kernel_rfl
theorem s99 : SliceTy Try.prog 99 108 4 48 [.int .i64 0, .int .i64 0, .int .i64 0, .slice none 0 0] := SliceTy.of (z := .agg #[.int .i64 0, .int .i64 0, .int .i64 0, .slice none 0 0]) Try.underlying99 (by kernel_rfl) rfl rfl rfl rfl
theorem c100 : CellTy Try.prog 100 := CellTy.of Try.underlying100 rfl (by kernel_rfl)
theorem z100 : ZeroTy Try.prog 100 [.map none] := by unfold ZeroTy; kernel_rfl
theorem r101 : RowTy Try.prog 101 8 := RowTy.of Try.underlying101 rfl (by kernel_rfl)
theorem z101 : ZeroTy Try.prog 101 [.int .i64 0, .int .i64 0, .int .i64 0, .int .i64 0, .int .i64 0, .int .i64 0, .int .i64 0, .int .i64 0] := by unfold ZeroTy; kernel_rfl
theorem r102 : RowTy Try.prog 102 64 := RowTy.of Try.underlying102 rfl (by kernel_rfl)
theorem z102 : ZeroTy Try.prog 102 [.int .i64 0, .int .i64 0, .int .i64 0, .int .i64 0, .int .i64 0, .int .i64 0, .int .i64 0, .int .i64 0, .int .i64 0, .int .i64 0, .int .i64 0, .int .i64 0, .int .i64 0, .int .i64 0, .int .i64 0, .int .i64 0, .int .i64 0, .int .i64 0, .int .i64 0, .int .i64 0, .int .i64 0, .int .i64 0, .int .i64 0, .int .i64 0, .int .i64 0, .int .i64 0, .int .i64 0, .int .i64 0, .int .i64 0, .int .i64 0, .int .i64 0, .int .i64 0, .int .i64 0, .int .i64 0, .int .i64 0, .int .i64 0, .int .i64 0, .int .i64 0, .int .i64 0, .int .i64 0, .int .i64 0, .int .i64 0, .int .i64 0, .int .i64 0, .int .i64 0, .int .i64 0, .int .i64 0, .int .i64 0, .int .i64 0, .int .i64 0, .int .i64 0, .int .i64 0, .int .i64 0, .int .i64 0, .int .i64 0, .int .i64 0, .int .i64 0, .int .i64 0, .int .i64 0, .int .i64 0, .int .i64 0, .int .i64 0, .int .i64 0, .int .i64 0] := by unfold ZeroTy; kernel_rfl
theorem r103 : RowTy Try.prog 103 83 := RowTy.of Try.underlying103 rfl (by kernel_rfl)
theorem z103 : ZeroTy Try.prog 103 [.slice none 0 0, .slice none 0 0, .int .i64 0, .int .i64 0, .int .i64 0, .int .i64 0, .int .i64 0, .int .i64 0, .int .i64 0, .int .i64 0, .int .i64 0, .int .i64 0, .int .i64 0, .int .i64 0, .int .i64 0, .int .i64 0, .int .i64 0, .int .i64 0, .int .i64 0, .int .i64 0, .int .i64 0, .int .i64 0, .int .i64 0, .int .i64 0, .int .i64 0, .int .i64 0, .int .i64 0, .int .i64 0, .int .i64 0, .int .i64 0, .int .i64 0, .int .i64 0, .int .i64 0, .int .i64 0, .int .i64 0, .int .i64 0, .int .i64 0, .int .i64 0, .int .i64 0, .int .i64 0, .int .i64 0, .int .i64 0, .int .i64 0, .int .i64 0, .int .i64 0, .int .i64 0, .int .i64 0, .int .i64 0, .int .i64 0, .int .i64 0, .int .i64 0, .int .i64 0, .int .i64 0, .int .i64 0, .int .i64 0, .int .i64 0, .int .i64 0, .int .i64 0, .int .i64 0, .int .i64 0, .int .i64 0, .int .i64 0, .int .i64 0, .int .i64 0, .int .i64 0, .int .i64 0, .int .i64 0, .int .i64 0, .int .i64 0, .int .i64 0, .int .i64 0, .int .i64 0, .int .i64 0, .int .i64 0, .int .i64 0, .int .i64 0, .int .i64 0, .int .i64 0, .int .i64 0, .int .i64 0, .int .i64 0, .int .i64 0, .map none] := by unfold ZeroTy; kernel_rfl
theorem fl103_0 : FieldTy Try.prog 103 0 0 := FieldTy.of (n := 0) Try.underlying103 rfl rfl (by kernel_rfl)
theorem fl103_1 : FieldTy Try.prog 103 1 1 := FieldTy.of (n := 0) Try.underlying103 rfl rfl (by kernel_rfl)
theorem fl103_2 : FieldTy Try.prog 103 2 2 := FieldTy.of (n := 63) Try.underlying103 rfl rfl (by kernel_rfl)
theorem fl103_3 : FieldTy Try.prog 103 3 66 := FieldTy.of (n := 7) Try.underlying103 rfl rfl (by kernel_rfl)
theorem fl103_4 : FieldTy Try.prog 103 4 74 := FieldTy.of (n := 7) Try.underlying103 rfl rfl (by kernel_rfl)
theorem fl103_5 : FieldTy Try.prog 103 5 82 := FieldTy.of (n := 0) Try.underlying103 rfl rfl (by kernel_rfl)
theorem r104 : RowTy Try.prog 104 83 := RowTy.of Try.underlying104 rfl (by kernel_rfl)
theorem z104 : ZeroTy Try.prog 104 [.slice none 0 0, .slice none 0 0, .int .i64 0, .int .i64 0, .int .i64 0, .int .i64 0, .int .i64 0, .int .i64 0, .int .i64 0, .int .i64 0, .int .i64 0, .int .i64 0, .int .i64 0, .int .i64 0, .int .i64 0, .int .i64 0, .int .i64 0, .int .i64 0, .int .i64 0, .int .i64 0, .int .i64 0, .int .i64 0, .int .i64 0, .int .i64 0, .int .i64 0, .int .i64 0, .int .i64 0, .int .i64 0, .int .i64 0, .int .i64 0, .int .i64 0, .int .i64 0, .int .i64 0, .int .i64 0, .int .i64 0, .int .i64 0, .int .i64 0, .int .i64 0, .int .i64 0, .int .i64 0, .int .i64 0, .int .i64 0, .int .i64 0, .int .i64 0, .int .i64 0, .int .i64 0, .int .i64 0, .int .i64 0, .int .i64 0, .int .i64 0, .int .i64 0, .int .i64 0, .int .i64 0, .int .i64 0, .int .i64 0, .int .i64 0, .int .i64 0, .int .i64 0, .int .i64 0, .int .i64 0, .int .i64 0, .int .i64 0, .int .i64 0, .int .i64 0, .int .i64 0, .int .i64 0, .int .i64 0, .int .i64 0, .int .i64 0, .int .i64 0, .int .i64 0, .int .i64 0, .int .i64 0, .int .i64 0, .int .i64 0, .int .i64 0, .int .i64 0, .int .i64 0, .int .i64 0, .int .i64 0, .int .i64 0, .int .i64 0, .map none] := by unfold ZeroTy; kernel_rfl
theorem fl104_0 : FieldTy Try.prog 104 0 0 := FieldTy.of (n := 0) Try.underlying104 rfl rfl (by kernel_rfl)
theorem fl104_1 : FieldTy Try.prog 104 1 1 := FieldTy.of (n := 0) Try.underlying104 rfl rfl (by kernel_rfl)
theorem fl104_2 : FieldTy Try.prog 104 2 2 := FieldTy.of (n := 63) Try.underlying104 rfl rfl (by kernel_rfl)
theorem fl104_3 : FieldTy Try.prog 104 3 66 := FieldTy.of (n := 7) Try.underlying104 rfl rfl (by kernel_rfl)
theorem fl104_4 : FieldTy Try.prog 104 4 74 := FieldTy.of (n := 7) Try.underlying104 rfl rfl (by kernel_rfl)
theorem fl104_5 : FieldTy Try.prog 104 5 82 := FieldTy.of (n := 0) Try.underlying104 rfl rfl (by kernel_rfl)
theorem r105 : RowTy Try.prog 105 3 := RowTy.of Try.underlying105 rfl (by kernel_rfl)
theorem z105 : ZeroTy Try.prog 105 [.int .i64 0, .int .i64 0, .int .i64 0] := by unfold ZeroTy; kernel_rfl
theorem fl105_0 : FieldTy Try.prog 105 0 0 := FieldTy.of (n := 0) Try.underlying105 rfl rfl (by kernel_rfl)
theorem fl105_1 : FieldTy Try.prog 105 1 1 := FieldTy.of (n := 0) Try.underlying105 rfl rfl (by kernel_rfl)
theorem fl105_2 : FieldTy Try.prog 105 2 2 := FieldTy.of (n := 0) Try.underlying105 rfl rfl (by kernel_rfl)
theorem r106 : RowTy Try.prog 106 3 := RowTy.of Try.underlying106 rfl (by kernel_rfl)
theorem z106 : ZeroTy Try.prog 106 [.int .i64 0, .int .i64 0, .int .i64 0] := by unfold ZeroTy; kernel_rfl
theorem fl106_0 : FieldTy Try.prog 106 0 0 := FieldTy.of (n := 0) Try.underlying106 rfl rfl (by kernel_rfl)
theorem fl106_1 : FieldTy Try.prog 106 1 1 := FieldTy.of (n := 0) Try.underlying106 rfl rfl (by kernel_rfl)
theorem fl106_2 : FieldTy Try.prog 106 2 2 := FieldTy.of (n := 0) Try.underlying106 rfl rfl (by kernel_rfl)
theorem r107 : RowTy Try.prog 107 4 := RowTy.of Try.underlying107 rfl (by kernel_rfl)
theorem z107 : ZeroTy Try.prog 107 [.int .i64 0, .int .i64 0, .int .i64 0, .slice none 0 0] := by unfold ZeroTy; kernel_rfl
theorem fl107_0 : FieldTy Try.prog 107 0 0 := FieldTy.of (n := 2) Try.underlying107 rfl rfl (by kernel_rfl)
theorem fl107_1 : FieldTy Try.prog 107 1 3 := FieldTy.of (n := 0) Try.underlying107 rfl rfl (by kernel_rfl)
theorem r108 : RowTy Try.prog 108 4 := RowTy.of Try.underlying108 rfl (by kernel_rfl)
theorem z108 : ZeroTy Try.prog 108 [.int .i64 0, .int .i64 0, .int .i64 0, .slice none 0 0] := by unfold ZeroTy; kernel_rfl
theorem fl108_0 : FieldTy Try.prog 108 0 0 := FieldTy.of (n := 2) Try.underlying108 rfl rfl (by kernel_rfl)
theorem fl108_1 : FieldTy Try.prog 108 1 3 := FieldTy.of (n := 0) Try.underlying108 rfl rfl (by kernel_rfl)
theorem c109 : CellTy Try.prog 109 := CellTy.of Try.underlying109 rfl (by kernel_rfl)
theorem c110 : CellTy Try.prog 110 := CellTy.of Try.underlying110 rfl (by kernel_rfl)
theorem c111 : CellTy Try.prog 111 := CellTy.of Try.underlying111 rfl (by kernel_rfl)
theorem c112 : CellTy Try.prog 112 := CellTy.of Try.underlying112 rfl (by kernel_rfl)
theorem z112 : ZeroTy Try.prog 112 [.int .u8 0] := by unfold ZeroTy; kernel_rfl
theorem r113 : RowTy Try.prog 113 4 := RowTy.of Try.underlying113 rfl (by kernel_rfl)
theorem z113 : ZeroTy Try.prog 113 [.int .u8 0, .int .i64 0, .int .i64 0, .int .i64 0] := by unfold ZeroTy; kernel_rfl
theorem fl113_0 : FieldTy Try.prog 113 0 0 := FieldTy.of (n := 0) Try.underlying113 rfl rfl (by kernel_rfl)
theorem fl113_1 : FieldTy Try.prog 113 1 1 := FieldTy.of (n := 0) Try.underlying113 rfl rfl (by kernel_rfl)
theorem fl113_2 : FieldTy Try.prog 113 2 2 := FieldTy.of (n := 0) Try.underlying113 rfl rfl (by kernel_rfl)
theorem fl113_3 : FieldTy Try.prog 113 3 3 := FieldTy.of (n := 0) Try.underlying113 rfl rfl (by kernel_rfl)
theorem r114 : RowTy Try.prog 114 4 := RowTy.of Try.underlying114 rfl (by kernel_rfl)
theorem z114 : ZeroTy Try.prog 114 [.int .u8 0, .int .i64 0, .int .i64 0, .int .i64 0] := by unfold ZeroTy; kernel_rfl
theorem fl114_0 : FieldTy Try.prog 114 0 0 := FieldTy.of (n := 0) Try.underlying114 rfl rfl (by kernel_rfl)
theorem fl114_1 : FieldTy Try.prog 114 1 1 := FieldTy.of (n := 0) Try.underlying114 rfl rfl (by kernel_rfl)
theorem fl114_2 : FieldTy Try.prog 114 2 2 := FieldTy.of (n := 0) Try.underlying114 rfl rfl (by kernel_rfl)
theorem fl114_3 : FieldTy Try.prog 114 3 3 := FieldTy.of (n := 0) Try.underlying114 rfl rfl (by kernel_rfl)
theorem r115 : RowTy Try.prog 115 7 := RowTy.of Try.underlying115 rfl (by kernel_rfl)
theorem z115 : ZeroTy Try.prog 115 [.int .u8 0, .int .i64 0, .int .i64 0, .int .i64 0, .int .i64 0, .int .i64 0, .slice none 0 0] := by unfold ZeroTy; kernel_rfl
theorem fl115_0 : FieldTy Try.prog 115 0 0 := FieldTy.of (n := 3) Try.underlying115 rfl rfl (by kernel_rfl)
theorem fl115_1 : FieldTy Try.prog 115 1 4 := FieldTy.of (n := 0) Try.underlying115 rfl rfl (by kernel_rfl)
theorem fl115_2 : FieldTy Try.prog 115 2 5 := FieldTy.of (n := 0) Try.underlying115 rfl rfl (by kernel_rfl)
theorem fl115_3 : FieldTy Try.prog 115 3 6 := FieldTy.of (n := 0) Try.underlying115 rfl rfl (by kernel_rfl)
theorem r116 : RowTy Try.prog 116 7 := RowTy.of Try.underlying116 rfl (by kernel_rfl)
theorem z116 : ZeroTy Try.prog 116 [.int .u8 0, .int .i64 0, .int .i64 0, .int .i64 0, .int .i64 0, .int .i64 0, .slice none 0 0] := by unfold ZeroTy; kernel_rfl
theorem fl116_0 : FieldTy Try.prog 116 0 0 := FieldTy.of (n := 3) Try.underlying116 rfl rfl (by kernel_rfl)
theorem fl116_1 : FieldTy Try.prog 116 1 4 := FieldTy.of (n := 0) Try.underlying116 rfl rfl (by kernel_rfl)
theorem fl116_2 : FieldTy Try.prog 116 2 5 := FieldTy.of (n := 0) Try.underlying116 rfl rfl (by kernel_rfl)
theorem fl116_3 : FieldTy Try.prog 116 3 6 := FieldTy.of (n := 0) Try.underlying116 rfl rfl (by kernel_rfl)
theorem c118 : CellTy Try.prog 118 := CellTy.of Try.underlying118 rfl (by kernel_rfl)
theorem c119 : CellTy Try.prog 119 := CellTy.of Try.underlying119 rfl (by kernel_rfl)
theorem z119 : ZeroTy Try.prog 119 [.int .u64 0] := by unfold ZeroTy; kernel_rfl
theorem r120 : RowTy Try.prog 120 6 := RowTy.of Try.underlying120 rfl (by kernel_rfl)
theorem z120 : ZeroTy Try.prog 120 [.int .i64 0, .int .i64 0, .int .i64 0, .int .i64 0, .int .i64 0, .int .i64 0] := by unfold ZeroTy; kernel_rfl
theorem r121 : RowTy Try.prog 121 3 := RowTy.of Try.underlying121 rfl (by kernel_rfl)
theorem z121 : ZeroTy Try.prog 121 [.int .i64 0, .int .i64 0, .int .i64 0] := by unfold ZeroTy; kernel_rfl
theorem c122 : CellTy Try.prog 122 := CellTy.of Try.underlying122 rfl (by kernel_rfl)
theorem c123 : CellTy Try.prog 123 := CellTy.of Try.underlying123 rfl (by kernel_rfl)
theorem c124 : CellTy Try.prog 124 := CellTy.of Try.underlying124 rfl (by kernel_rfl)
theorem c125 : CellTy Try.prog 125 := CellTy.of Try.underlying125 rfl (by kernel_rfl)
theorem c126 : CellTy Try.prog 126 := CellTy.of Try.underlying126 rfl (by kernel_rfl)
theorem c127 : CellTy Try.prog 127 := CellTy.of Try.underlying127 rfl (by kernel_rfl)
theorem c128 : CellTy Try.prog 128 := CellTy.of Try.underlying128 rfl (by kernel_rfl)
theorem c129 : CellTy Try.prog 129 := CellTy.of Try.underlying129 rfl (by kernel_rfl)
theorem c130 : CellTy Try.prog 130 := CellTy.of Try.underlying130 rfl (by kernel_rfl)
theorem c131 : CellTy Try.prog 131 := CellTy.of Try.underlying131 rfl (by kernel_rfl)
theorem c132 : CellTy Try.prog 132 := CellTy.of Try.underlying132 rfl (by kernel_rfl)
theorem c133 : CellTy Try.prog 133 := CellTy.of Try.underlying133 rfl (by kernel_rfl)
theorem c134 : CellTy Try.prog 134 := CellTy.of Try.underlying134 rfl (by kernel_rfl)
theorem c135 : CellTy Try.prog 135 := CellTy.of Try.underlying135 rfl (by kernel_rfl)
theorem c136 : CellTy Try.prog 136 := CellTy.of Try.underlying136 rfl (by kernel_rfl)
theorem c137 : CellTy Try.prog 137 := CellTy.of Try.underlying137 rfl (by kernel_rfl)
theorem c138 : CellTy Try.prog 138 := CellTy.of Try.underlying138 rfl (by kernel_rfl)
theorem c139 : CellTy Try.prog 139 := CellTy.of Try.underlying139 rfl (by kernel_rfl)
theorem c140 : CellTy Try.prog 140 := CellTy.of Try.underlying140 rfl (by kernel_rfl)
theorem c141 : CellTy Try.prog 141 := CellTy.of Try.underlying141 rfl (by kernel_rfl)
theorem r142 : RowTy Try.prog 142 4 := RowTy.of Try.underlying142 rfl (by kernel_rfl)
theorem z142 : ZeroTy Try.prog 142 [.pointer none, .pointer none, .pointer none, .string ByteArray.empty] := by unfold ZeroTy; kernel_rfl
theorem fl142_0 : FieldTy Try.prog 142 0 0 := FieldTy.of (n := 0) Try.underlying142 rfl rfl (by kernel_rfl)
theorem fl142_1 : FieldTy Try.prog 142 1 1 := FieldTy.of (n := 0) Try.underlying142 rfl rfl (by kernel_rfl)
theorem fl142_2 : FieldTy Try.prog 142 2 2 := FieldTy.of (n := 0) Try.underlying142 rfl rfl (by kernel_rfl)
theorem fl142_3 : FieldTy Try.prog 142 3 3 := FieldTy.of (n := 0) Try.underlying142 rfl rfl (by kernel_rfl)
theorem r143 : RowTy Try.prog 143 4 := RowTy.of Try.underlying143 rfl (by kernel_rfl)
theorem z143 : ZeroTy Try.prog 143 [.pointer none, .pointer none, .pointer none, .string ByteArray.empty] := by unfold ZeroTy; kernel_rfl
theorem fl143_0 : FieldTy Try.prog 143 0 0 := FieldTy.of (n := 0) Try.underlying143 rfl rfl (by kernel_rfl)
theorem fl143_1 : FieldTy Try.prog 143 1 1 := FieldTy.of (n := 0) Try.underlying143 rfl rfl (by kernel_rfl)
theorem fl143_2 : FieldTy Try.prog 143 2 2 := FieldTy.of (n := 0) Try.underlying143 rfl rfl (by kernel_rfl)
theorem fl143_3 : FieldTy Try.prog 143 3 3 := FieldTy.of (n := 0) Try.underlying143 rfl rfl (by kernel_rfl)
theorem r144 : RowTy Try.prog 144 0 := RowTy.of Try.underlying144 rfl (by kernel_rfl)
theorem z144 : ZeroTy Try.prog 144 [] := by unfold ZeroTy; kernel_rfl
theorem r145 : RowTy Try.prog 145 0 := RowTy.of Try.underlying145 rfl (by kernel_rfl)
theorem z145 : ZeroTy Try.prog 145 [] := by unfold ZeroTy; kernel_rfl
theorem r146 : RowTy Try.prog 146 0 := RowTy.of Try.underlying146 rfl (by kernel_rfl)
theorem z146 : ZeroTy Try.prog 146 [] := by unfold ZeroTy; kernel_rfl
theorem c147 : CellTy Try.prog 147 := CellTy.of Try.underlying147 rfl (by kernel_rfl)
theorem z147 : ZeroTy Try.prog 147 [.int .u32 0] := by unfold ZeroTy; kernel_rfl
theorem c148 : CellTy Try.prog 148 := CellTy.of Try.underlying148 rfl (by kernel_rfl)
theorem z148 : ZeroTy Try.prog 148 [.int .u8 0] := by unfold ZeroTy; kernel_rfl
theorem c149 : CellTy Try.prog 149 := CellTy.of Try.underlying149 rfl (by kernel_rfl)
theorem z149 : ZeroTy Try.prog 149 [.int .u8 0] := by unfold ZeroTy; kernel_rfl
theorem c150 : CellTy Try.prog 150 := CellTy.of Try.underlying150 rfl (by kernel_rfl)
theorem c151 : CellTy Try.prog 151 := CellTy.of Try.underlying151 rfl (by kernel_rfl)
theorem z151 : ZeroTy Try.prog 151 [.pointer none] := by unfold ZeroTy; kernel_rfl
theorem c152 : CellTy Try.prog 152 := CellTy.of Try.underlying152 rfl (by kernel_rfl)
theorem z152 : ZeroTy Try.prog 152 [.int .i32 0] := by unfold ZeroTy; kernel_rfl
theorem c153 : CellTy Try.prog 153 := CellTy.of Try.underlying153 rfl (by kernel_rfl)
theorem z153 : ZeroTy Try.prog 153 [.int .i32 0] := by unfold ZeroTy; kernel_rfl
theorem r154 : RowTy Try.prog 154 11 := RowTy.of Try.underlying154 rfl (by kernel_rfl)
theorem z154 : ZeroTy Try.prog 154 [.int .u64 0, .int .u64 0, .int .u32 0, .int .u8 0, .int .u8 0, .int .u8 0, .int .u8 0, .nilFunc, .pointer none, .int .i32 0, .int .i32 0] := by unfold ZeroTy; kernel_rfl
theorem fl154_0 : FieldTy Try.prog 154 0 0 := FieldTy.of (n := 0) Try.underlying154 rfl rfl (by kernel_rfl)
theorem fl154_1 : FieldTy Try.prog 154 1 1 := FieldTy.of (n := 0) Try.underlying154 rfl rfl (by kernel_rfl)
theorem fl154_2 : FieldTy Try.prog 154 2 2 := FieldTy.of (n := 0) Try.underlying154 rfl rfl (by kernel_rfl)
theorem fl154_3 : FieldTy Try.prog 154 3 3 := FieldTy.of (n := 0) Try.underlying154 rfl rfl (by kernel_rfl)
theorem fl154_4 : FieldTy Try.prog 154 4 4 := FieldTy.of (n := 0) Try.underlying154 rfl rfl (by kernel_rfl)
theorem fl154_5 : FieldTy Try.prog 154 5 5 := FieldTy.of (n := 0) Try.underlying154 rfl rfl (by kernel_rfl)
theorem fl154_6 : FieldTy Try.prog 154 6 6 := FieldTy.of (n := 0) Try.underlying154 rfl rfl (by kernel_rfl)
theorem fl154_7 : FieldTy Try.prog 154 7 7 := FieldTy.of (n := 0) Try.underlying154 rfl rfl (by kernel_rfl)
theorem fl154_8 : FieldTy Try.prog 154 8 8 := FieldTy.of (n := 0) Try.underlying154 rfl rfl (by kernel_rfl)
theorem fl154_9 : FieldTy Try.prog 154 9 9 := FieldTy.of (n := 0) Try.underlying154 rfl rfl (by kernel_rfl)
theorem fl154_10 : FieldTy Try.prog 154 10 10 := FieldTy.of (n := 0) Try.underlying154 rfl rfl (by kernel_rfl)
theorem r155 : RowTy Try.prog 155 11 := RowTy.of Try.underlying155 rfl (by kernel_rfl)
theorem z155 : ZeroTy Try.prog 155 [.int .u64 0, .int .u64 0, .int .u32 0, .int .u8 0, .int .u8 0, .int .u8 0, .int .u8 0, .nilFunc, .pointer none, .int .i32 0, .int .i32 0] := by unfold ZeroTy; kernel_rfl
theorem fl155_0 : FieldTy Try.prog 155 0 0 := FieldTy.of (n := 0) Try.underlying155 rfl rfl (by kernel_rfl)
theorem fl155_1 : FieldTy Try.prog 155 1 1 := FieldTy.of (n := 0) Try.underlying155 rfl rfl (by kernel_rfl)
theorem fl155_2 : FieldTy Try.prog 155 2 2 := FieldTy.of (n := 0) Try.underlying155 rfl rfl (by kernel_rfl)
theorem fl155_3 : FieldTy Try.prog 155 3 3 := FieldTy.of (n := 0) Try.underlying155 rfl rfl (by kernel_rfl)
theorem fl155_4 : FieldTy Try.prog 155 4 4 := FieldTy.of (n := 0) Try.underlying155 rfl rfl (by kernel_rfl)
theorem fl155_5 : FieldTy Try.prog 155 5 5 := FieldTy.of (n := 0) Try.underlying155 rfl rfl (by kernel_rfl)
theorem fl155_6 : FieldTy Try.prog 155 6 6 := FieldTy.of (n := 0) Try.underlying155 rfl rfl (by kernel_rfl)
theorem fl155_7 : FieldTy Try.prog 155 7 7 := FieldTy.of (n := 0) Try.underlying155 rfl rfl (by kernel_rfl)
theorem fl155_8 : FieldTy Try.prog 155 8 8 := FieldTy.of (n := 0) Try.underlying155 rfl rfl (by kernel_rfl)
theorem fl155_9 : FieldTy Try.prog 155 9 9 := FieldTy.of (n := 0) Try.underlying155 rfl rfl (by kernel_rfl)
theorem fl155_10 : FieldTy Try.prog 155 10 10 := FieldTy.of (n := 0) Try.underlying155 rfl rfl (by kernel_rfl)
theorem c156 : CellTy Try.prog 156 := CellTy.of Try.underlying156 rfl (by kernel_rfl)
theorem ca2 : callable Try.prog 2 = true := by kernel_rfl
theorem ca3 : callable Try.prog 3 = true := by kernel_rfl
theorem ca4 : callable Try.prog 4 = true := by kernel_rfl
theorem ca5 : callable Try.prog 5 = true := by kernel_rfl
theorem ca6 : callable Try.prog 6 = true := by kernel_rfl
theorem ca7 : callable Try.prog 7 = true := by kernel_rfl
theorem ca8 : callable Try.prog 8 = true := by kernel_rfl
theorem ca9 : callable Try.prog 9 = true := by kernel_rfl
theorem ca10 : callable Try.prog 10 = true := by kernel_rfl
theorem ca11 : callable Try.prog 11 = true := by kernel_rfl
theorem ca12 : callable Try.prog 12 = true := by kernel_rfl
theorem ca13 : callable Try.prog 13 = true := by kernel_rfl
theorem ca14 : callable Try.prog 14 = true := by kernel_rfl
theorem ca15 : callable Try.prog 15 = true := by kernel_rfl
theorem ca16 : callable Try.prog 16 = true := by kernel_rfl
theorem ca17 : callable Try.prog 17 = true := by kernel_rfl
theorem ca18 : callable Try.prog 18 = true := by kernel_rfl
theorem ca19 : callable Try.prog 19 = true := by kernel_rfl
theorem ca20 : callable Try.prog 20 = true := by kernel_rfl
theorem ca21 : callable Try.prog 21 = true := by kernel_rfl
theorem ca22 : callable Try.prog 22 = true := by kernel_rfl
theorem ca23 : callable Try.prog 23 = true := by kernel_rfl
theorem ca24 : callable Try.prog 24 = true := by kernel_rfl
theorem ca25 : callable Try.prog 25 = true := by kernel_rfl
theorem ca26 : callable Try.prog 26 = true := by kernel_rfl
theorem ca27 : callable Try.prog 27 = true := by kernel_rfl
theorem ca28 : callable Try.prog 28 = true := by kernel_rfl
theorem ca29 : callable Try.prog 29 = true := by kernel_rfl
theorem ca30 : callable Try.prog 30 = true := by kernel_rfl
theorem ca31 : callable Try.prog 31 = true := by kernel_rfl
theorem ca32 : callable Try.prog 32 = true := by kernel_rfl
theorem ca33 : callable Try.prog 33 = true := by kernel_rfl
theorem ca34 : callable Try.prog 34 = true := by kernel_rfl
theorem ca35 : callable Try.prog 35 = true := by kernel_rfl
theorem ca36 : callable Try.prog 36 = true := by kernel_rfl
theorem ca37 : callable Try.prog 37 = true := by kernel_rfl
theorem ca38 : callable Try.prog 38 = true := by kernel_rfl
theorem ca39 : callable Try.prog 39 = true := by kernel_rfl
theorem ca40 : callable Try.prog 40 = true := by kernel_rfl
theorem ca41 : callable Try.prog 41 = true := by kernel_rfl
theorem ca42 : callable Try.prog 42 = true := by kernel_rfl
theorem ca43 : callable Try.prog 43 = true := by kernel_rfl
theorem ca44 : callable Try.prog 44 = true := by kernel_rfl
theorem ca45 : callable Try.prog 45 = true := by kernel_rfl
theorem ca46 : callable Try.prog 46 = true := by kernel_rfl
theorem ca47 : callable Try.prog 47 = true := by kernel_rfl
theorem ca48 : callable Try.prog 48 = true := by kernel_rfl
theorem ca49 : callable Try.prog 49 = true := by kernel_rfl
theorem ca50 : callable Try.prog 50 = true := by kernel_rfl
theorem ca51 : callable Try.prog 51 = true := by kernel_rfl
theorem ca52 : callable Try.prog 52 = true := by kernel_rfl
theorem ca53 : callable Try.prog 53 = true := by kernel_rfl
theorem ca54 : callable Try.prog 54 = true := by kernel_rfl
theorem ca55 : callable Try.prog 55 = true := by kernel_rfl
theorem ca56 : callable Try.prog 56 = true := by kernel_rfl
theorem ca57 : callable Try.prog 57 = true := by kernel_rfl
theorem ca59 : callable Try.prog 59 = true := by kernel_rfl
theorem ca60 : callable Try.prog 60 = true := by kernel_rfl
theorem ca61 : callable Try.prog 61 = true := by kernel_rfl
theorem ca62 : callable Try.prog 62 = true := by kernel_rfl
theorem ca63 : callable Try.prog 63 = true := by kernel_rfl
theorem ca64 : callable Try.prog 64 = true := by kernel_rfl
theorem ca65 : callable Try.prog 65 = true := by kernel_rfl
theorem ca66 : callable Try.prog 66 = true := by kernel_rfl
theorem ca67 : callable Try.prog 67 = true := by kernel_rfl
theorem ca68 : callable Try.prog 68 = true := by kernel_rfl
theorem ca69 : callable Try.prog 69 = true := by kernel_rfl
theorem ca70 : callable Try.prog 70 = true := by kernel_rfl
theorem ca71 : callable Try.prog 71 = true := by kernel_rfl
theorem ca72 : callable Try.prog 72 = true := by kernel_rfl
theorem ca73 : callable Try.prog 73 = true := by kernel_rfl
theorem ca74 : callable Try.prog 74 = true := by kernel_rfl
theorem ca75 : callable Try.prog 75 = true := by kernel_rfl
theorem mixed : Try.prog.follows .mixedOrders = true := by kernel_rfl
end Go.Proofs.Ytnamppkicefbjaa
