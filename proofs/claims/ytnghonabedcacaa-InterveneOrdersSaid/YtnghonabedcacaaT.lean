/- The table of types of this seat, in the words of the logic; printed by sx.py. -/
import Derived.Test.YtnghonabedcacaaSepx
import Derived.Test.YtnghonabedcacaaProg
namespace Go.Proofs.Ytnghonabedcacaa
open Go.Sep
theorem c1 : CellTy Try.prog 1 := CellTy.of Try.underlying1 rfl (by kernel_rfl)
theorem c2 : CellTy Try.prog 2 := CellTy.of Try.underlying2 rfl (by kernel_rfl)
theorem z2 : ZeroTy Try.prog 2 [.int .i64 0] := by unfold ZeroTy; kernel_rfl
theorem c3 : CellTy Try.prog 3 := CellTy.of Try.underlying3 rfl (by kernel_rfl)
theorem z3 : ZeroTy Try.prog 3 [.int .i64 0] := by unfold ZeroTy; kernel_rfl
theorem c4 : CellTy Try.prog 4 := CellTy.of Try.underlying4 rfl (by kernel_rfl)
theorem z4 : ZeroTy Try.prog 4 [.bool false] := by unfold ZeroTy; kernel_rfl
theorem c5 : CellTy Try.prog 5 := CellTy.of Try.underlying5 rfl (by kernel_rfl)
theorem z5 : ZeroTy Try.prog 5 [.int .u8 0] := by unfold ZeroTy; kernel_rfl
theorem c6 : CellTy Try.prog 6 := CellTy.of Try.underlying6 rfl (by kernel_rfl)
theorem z6 : ZeroTy Try.prog 6 [.int .u8 0] := by unfold ZeroTy; kernel_rfl
theorem r7 : RowTy Try.prog 7 4 := RowTy.of Try.underlying7 rfl (by kernel_rfl)
theorem z7 : ZeroTy Try.prog 7 [.int .i64 0, .int .i64 0, .bool false, .int .u8 0] := by unfold ZeroTy; kernel_rfl
theorem fl7_0 : FieldTy Try.prog 7 0 0 := FieldTy.of (n := 0) Try.underlying7 rfl rfl (by kernel_rfl)
theorem fl7_1 : FieldTy Try.prog 7 1 1 := FieldTy.of (n := 0) Try.underlying7 rfl rfl (by kernel_rfl)
theorem fl7_2 : FieldTy Try.prog 7 2 2 := FieldTy.of (n := 0) Try.underlying7 rfl rfl (by kernel_rfl)
theorem fl7_3 : FieldTy Try.prog 7 3 3 := FieldTy.of (n := 0) Try.underlying7 rfl rfl (by kernel_rfl)
theorem r8 : RowTy Try.prog 8 4 := RowTy.of Try.underlying8 rfl (by kernel_rfl)
theorem z8 : ZeroTy Try.prog 8 [.int .i64 0, .int .i64 0, .bool false, .int .u8 0] := by unfold ZeroTy; kernel_rfl
theorem fl8_0 : FieldTy Try.prog 8 0 0 := FieldTy.of (n := 0) Try.underlying8 rfl rfl (by kernel_rfl)
theorem fl8_1 : FieldTy Try.prog 8 1 1 := FieldTy.of (n := 0) Try.underlying8 rfl rfl (by kernel_rfl)
theorem fl8_2 : FieldTy Try.prog 8 2 2 := FieldTy.of (n := 0) Try.underlying8 rfl rfl (by kernel_rfl)
theorem fl8_3 : FieldTy Try.prog 8 3 3 := FieldTy.of (n := 0) Try.underlying8 rfl rfl (by kernel_rfl)
theorem c9 : CellTy Try.prog 9 := CellTy.of Try.underlying9 rfl (by kernel_rfl)
theorem z9 : ZeroTy Try.prog 9 [.string ByteArray.empty] := by unfold ZeroTy; kernel_rfl
theorem c10 : CellTy Try.prog 10 := CellTy.of Try.underlying10 rfl (by kernel_rfl)
theorem z10 : ZeroTy Try.prog 10 [.string ByteArray.empty] := by unfold ZeroTy; kernel_rfl
theorem c11 : CellTy Try.prog 11 := CellTy.of Try.underlying11 rfl (by kernel_rfl)
theorem z11 : ZeroTy Try.prog 11 [.string ByteArray.empty] := by unfold ZeroTy; kernel_rfl
theorem c12 : CellTy Try.prog 12 := CellTy.of Try.underlying12 rfl (by kernel_rfl)
theorem z12 : ZeroTy Try.prog 12 [.int .u64 0] := by unfold ZeroTy; kernel_rfl
theorem r13 : RowTy Try.prog 13 2 := RowTy.of Try.underlying13 rfl (by kernel_rfl)
theorem z13 : ZeroTy Try.prog 13 [.string ByteArray.empty, .int .u64 0] := by unfold ZeroTy; kernel_rfl
theorem fl13_0 : FieldTy Try.prog 13 0 0 := FieldTy.of (n := 0) Try.underlying13 rfl rfl (by kernel_rfl)
theorem fl13_1 : FieldTy Try.prog 13 1 1 := FieldTy.of (n := 0) Try.underlying13 rfl rfl (by kernel_rfl)
theorem r14 : RowTy Try.prog 14 2 := RowTy.of Try.underlying14 rfl (by kernel_rfl)
theorem z14 : ZeroTy Try.prog 14 [.string ByteArray.empty, .int .u64 0] := by unfold ZeroTy; kernel_rfl
theorem fl14_0 : FieldTy Try.prog 14 0 0 := FieldTy.of (n := 0) Try.underlying14 rfl rfl (by kernel_rfl)
theorem fl14_1 : FieldTy Try.prog 14 1 1 := FieldTy.of (n := 0) Try.underlying14 rfl rfl (by kernel_rfl)
theorem c15 : CellTy Try.prog 15 := CellTy.of Try.underlying15 rfl (by kernel_rfl)
theorem z15 : ZeroTy Try.prog 15 [.pointer none] := by unfold ZeroTy; kernel_rfl
theorem c16 : CellTy Try.prog 16 := CellTy.of Try.underlying16 rfl (by kernel_rfl)
theorem z16 : ZeroTy Try.prog 16 [.pointer none] := by unfold ZeroTy; kernel_rfl
theorem c17 : CellTy Try.prog 17 := CellTy.of Try.underlying17 rfl (by kernel_rfl)
theorem z17 : ZeroTy Try.prog 17 [.pointer none] := by unfold ZeroTy; kernel_rfl
theorem r18 : RowTy Try.prog 18 1 := RowTy.of Try.underlying18 rfl (by kernel_rfl)
theorem z18 : ZeroTy Try.prog 18 [.pointer none] := by unfold ZeroTy; kernel_rfl
theorem fl18_0 : FieldTy Try.prog 18 0 0 := FieldTy.of (n := 0) Try.underlying18 rfl rfl (by kernel_rfl)
theorem r19 : RowTy Try.prog 19 1 := RowTy.of Try.underlying19 rfl (by kernel_rfl)
theorem z19 : ZeroTy Try.prog 19 [.pointer none] := by unfold ZeroTy; kernel_rfl
theorem fl19_0 : FieldTy Try.prog 19 0 0 := FieldTy.of (n := 0) Try.underlying19 rfl rfl (by kernel_rfl)
theorem c20 : CellTy Try.prog 20 := CellTy.of Try.underlying20 rfl (by kernel_rfl)
theorem z20 : ZeroTy Try.prog 20 [.nilIface] := by unfold ZeroTy; kernel_rfl
theorem c21 : CellTy Try.prog 21 := CellTy.of Try.underlying21 rfl (by kernel_rfl)
theorem z21 : ZeroTy Try.prog 21 [.int .i32 0] := by unfold ZeroTy; kernel_rfl
theorem c22 : CellTy Try.prog 22 := CellTy.of Try.underlying22 rfl (by kernel_rfl)
theorem z22 : ZeroTy Try.prog 22 [.slice none 0 0] := by unfold ZeroTy; kernel_rfl
theorem s22 : SliceTy Try.prog 22 37 4 32 [.int .u8 0, .int .i64 0, .int .i64 0, .int .i64 0] := SliceTy.of (z := .agg #[.int .u8 0, .int .i64 0, .int .i64 0, .int .i64 0]) Try.underlying22 (by kernel_rfl) rfl rfl rfl rfl
theorem c23 : CellTy Try.prog 23 := CellTy.of Try.underlying23 rfl (by kernel_rfl)
theorem z23 : ZeroTy Try.prog 23 [.slice none 0 0] := by unfold ZeroTy; kernel_rfl
theorem s23 : SliceTy Try.prog 23 33 3 24 [.int .i64 0, .int .i64 0, .int .i64 0] := SliceTy.of (z := .agg #[.int .i64 0, .int .i64 0, .int .i64 0]) Try.underlying23 (by kernel_rfl) rfl rfl rfl rfl
theorem r24 : RowTy Try.prog 24 2 := RowTy.of Try.underlying24 rfl (by kernel_rfl)
theorem z24 : ZeroTy Try.prog 24 [.slice none 0 0, .slice none 0 0] := by unfold ZeroTy; kernel_rfl
theorem fl24_0 : FieldTy Try.prog 24 0 0 := FieldTy.of (n := 0) Try.underlying24 rfl rfl (by kernel_rfl)
theorem fl24_1 : FieldTy Try.prog 24 1 1 := FieldTy.of (n := 0) Try.underlying24 rfl rfl (by kernel_rfl)
theorem r25 : RowTy Try.prog 25 2 := RowTy.of Try.underlying25 rfl (by kernel_rfl)
theorem z25 : ZeroTy Try.prog 25 [.slice none 0 0, .slice none 0 0] := by unfold ZeroTy; kernel_rfl
theorem fl25_0 : FieldTy Try.prog 25 0 0 := FieldTy.of (n := 0) Try.underlying25 rfl rfl (by kernel_rfl)
theorem fl25_1 : FieldTy Try.prog 25 1 1 := FieldTy.of (n := 0) Try.underlying25 rfl rfl (by kernel_rfl)
theorem c26 : CellTy Try.prog 26 := CellTy.of Try.underlying26 rfl (by kernel_rfl)
theorem c27 : CellTy Try.prog 27 := CellTy.of Try.underlying27 rfl (by kernel_rfl)
theorem c28 : CellTy Try.prog 28 := CellTy.of Try.underlying28 rfl (by kernel_rfl)
theorem r29 : RowTy Try.prog 29 2 := RowTy.of Try.underlying29 rfl (by kernel_rfl)
theorem z29 : ZeroTy Try.prog 29 [.slice none 0 0, .slice none 0 0] := by unfold ZeroTy; kernel_rfl
theorem fl29_0 : FieldTy Try.prog 29 0 0 := FieldTy.of (n := 0) Try.underlying29 rfl rfl (by kernel_rfl)
theorem fl29_1 : FieldTy Try.prog 29 1 1 := FieldTy.of (n := 0) Try.underlying29 rfl rfl (by kernel_rfl)
theorem c30 : CellTy Try.prog 30 := CellTy.of Try.underlying30 rfl (by kernel_rfl)
theorem c31 : CellTy Try.prog 31 := CellTy.of Try.underlying31 rfl (by kernel_rfl)
theorem r32 : RowTy Try.prog 32 3 := RowTy.of Try.underlying32 rfl (by kernel_rfl)
theorem z32 : ZeroTy Try.prog 32 [.int .i64 0, .int .i64 0, .int .i64 0] := by unfold ZeroTy; kernel_rfl
theorem fl32_0 : FieldTy Try.prog 32 0 0 := FieldTy.of (n := 0) Try.underlying32 rfl rfl (by kernel_rfl)
theorem fl32_1 : FieldTy Try.prog 32 1 1 := FieldTy.of (n := 0) Try.underlying32 rfl rfl (by kernel_rfl)
theorem fl32_2 : FieldTy Try.prog 32 2 2 := FieldTy.of (n := 0) Try.underlying32 rfl rfl (by kernel_rfl)
theorem r33 : RowTy Try.prog 33 3 := RowTy.of Try.underlying33 rfl (by kernel_rfl)
theorem z33 : ZeroTy Try.prog 33 [.int .i64 0, .int .i64 0, .int .i64 0] := by unfold ZeroTy; kernel_rfl
theorem fl33_0 : FieldTy Try.prog 33 0 0 := FieldTy.of (n := 0) Try.underlying33 rfl rfl (by kernel_rfl)
theorem fl33_1 : FieldTy Try.prog 33 1 1 := FieldTy.of (n := 0) Try.underlying33 rfl rfl (by kernel_rfl)
theorem fl33_2 : FieldTy Try.prog 33 2 2 := FieldTy.of (n := 0) Try.underlying33 rfl rfl (by kernel_rfl)
theorem c34 : CellTy Try.prog 34 := CellTy.of Try.underlying34 rfl (by kernel_rfl)
theorem c35 : CellTy Try.prog 35 := CellTy.of Try.underlying35 rfl (by kernel_rfl)
theorem z35 : ZeroTy Try.prog 35 [.int .u8 0] := by unfold ZeroTy; kernel_rfl
theorem r36 : RowTy Try.prog 36 4 := RowTy.of Try.underlying36 rfl (by kernel_rfl)
theorem z36 : ZeroTy Try.prog 36 [.int .u8 0, .int .i64 0, .int .i64 0, .int .i64 0] := by unfold ZeroTy; kernel_rfl
theorem fl36_0 : FieldTy Try.prog 36 0 0 := FieldTy.of (n := 0) Try.underlying36 rfl rfl (by kernel_rfl)
theorem fl36_1 : FieldTy Try.prog 36 1 1 := FieldTy.of (n := 0) Try.underlying36 rfl rfl (by kernel_rfl)
theorem fl36_2 : FieldTy Try.prog 36 2 2 := FieldTy.of (n := 0) Try.underlying36 rfl rfl (by kernel_rfl)
theorem fl36_3 : FieldTy Try.prog 36 3 3 := FieldTy.of (n := 0) Try.underlying36 rfl rfl (by kernel_rfl)
theorem r37 : RowTy Try.prog 37 4 := RowTy.of Try.underlying37 rfl (by kernel_rfl)
theorem z37 : ZeroTy Try.prog 37 [.int .u8 0, .int .i64 0, .int .i64 0, .int .i64 0] := by unfold ZeroTy; kernel_rfl
theorem fl37_0 : FieldTy Try.prog 37 0 0 := FieldTy.of (n := 0) Try.underlying37 rfl rfl (by kernel_rfl)
theorem fl37_1 : FieldTy Try.prog 37 1 1 := FieldTy.of (n := 0) Try.underlying37 rfl rfl (by kernel_rfl)
theorem fl37_2 : FieldTy Try.prog 37 2 2 := FieldTy.of (n := 0) Try.underlying37 rfl rfl (by kernel_rfl)
theorem fl37_3 : FieldTy Try.prog 37 3 3 := FieldTy.of (n := 0) Try.underlying37 rfl rfl (by kernel_rfl)
theorem c38 : CellTy Try.prog 38 := CellTy.of Try.underlying38 rfl (by kernel_rfl)
theorem c39 : CellTy Try.prog 39 := CellTy.of Try.underlying39 rfl (by kernel_rfl)
theorem c40 : CellTy Try.prog 40 := CellTy.of Try.underlying40 rfl (by kernel_rfl)
theorem z40 : ZeroTy Try.prog 40 [.int .u8 0] := by unfold ZeroTy; kernel_rfl
theorem c41 : CellTy Try.prog 41 := CellTy.of Try.underlying41 rfl (by kernel_rfl)
theorem z41 : ZeroTy Try.prog 41 [.slice none 0 0] := by unfold ZeroTy; kernel_rfl
theorem s41 : SliceTy Try.prog 41 2 1 8 [.int .i64 0] := SliceTy.of (z := .int .i64 0) Try.underlying41 (by kernel_rfl) rfl rfl rfl rfl
theorem r42 : RowTy Try.prog 42 9 := RowTy.of Try.underlying42 rfl (by kernel_rfl)
theorem z42 : ZeroTy Try.prog 42 [.int .i64 0, .int .i64 0, .int .u8 0, .int .i64 0, .int .i64 0, .int .i64 0, .int .i64 0, .int .i64 0, .slice none 0 0] := by unfold ZeroTy; kernel_rfl
theorem fl42_0 : FieldTy Try.prog 42 0 0 := FieldTy.of (n := 0) Try.underlying42 rfl rfl (by kernel_rfl)
theorem fl42_1 : FieldTy Try.prog 42 1 1 := FieldTy.of (n := 0) Try.underlying42 rfl rfl (by kernel_rfl)
theorem fl42_2 : FieldTy Try.prog 42 2 2 := FieldTy.of (n := 0) Try.underlying42 rfl rfl (by kernel_rfl)
theorem fl42_3 : FieldTy Try.prog 42 3 3 := FieldTy.of (n := 0) Try.underlying42 rfl rfl (by kernel_rfl)
theorem fl42_4 : FieldTy Try.prog 42 4 4 := FieldTy.of (n := 0) Try.underlying42 rfl rfl (by kernel_rfl)
theorem fl42_5 : FieldTy Try.prog 42 5 5 := FieldTy.of (n := 0) Try.underlying42 rfl rfl (by kernel_rfl)
theorem fl42_6 : FieldTy Try.prog 42 6 6 := FieldTy.of (n := 0) Try.underlying42 rfl rfl (by kernel_rfl)
theorem fl42_7 : FieldTy Try.prog 42 7 7 := FieldTy.of (n := 0) Try.underlying42 rfl rfl (by kernel_rfl)
theorem fl42_8 : FieldTy Try.prog 42 8 8 := FieldTy.of (n := 0) Try.underlying42 rfl rfl (by kernel_rfl)
theorem r43 : RowTy Try.prog 43 9 := RowTy.of Try.underlying43 rfl (by kernel_rfl)
theorem z43 : ZeroTy Try.prog 43 [.int .i64 0, .int .i64 0, .int .u8 0, .int .i64 0, .int .i64 0, .int .i64 0, .int .i64 0, .int .i64 0, .slice none 0 0] := by unfold ZeroTy; kernel_rfl
theorem fl43_0 : FieldTy Try.prog 43 0 0 := FieldTy.of (n := 0) Try.underlying43 rfl rfl (by kernel_rfl)
theorem fl43_1 : FieldTy Try.prog 43 1 1 := FieldTy.of (n := 0) Try.underlying43 rfl rfl (by kernel_rfl)
theorem fl43_2 : FieldTy Try.prog 43 2 2 := FieldTy.of (n := 0) Try.underlying43 rfl rfl (by kernel_rfl)
theorem fl43_3 : FieldTy Try.prog 43 3 3 := FieldTy.of (n := 0) Try.underlying43 rfl rfl (by kernel_rfl)
theorem fl43_4 : FieldTy Try.prog 43 4 4 := FieldTy.of (n := 0) Try.underlying43 rfl rfl (by kernel_rfl)
theorem fl43_5 : FieldTy Try.prog 43 5 5 := FieldTy.of (n := 0) Try.underlying43 rfl rfl (by kernel_rfl)
theorem fl43_6 : FieldTy Try.prog 43 6 6 := FieldTy.of (n := 0) Try.underlying43 rfl rfl (by kernel_rfl)
theorem fl43_7 : FieldTy Try.prog 43 7 7 := FieldTy.of (n := 0) Try.underlying43 rfl rfl (by kernel_rfl)
theorem fl43_8 : FieldTy Try.prog 43 8 8 := FieldTy.of (n := 0) Try.underlying43 rfl rfl (by kernel_rfl)
theorem c44 : CellTy Try.prog 44 := CellTy.of Try.underlying44 rfl (by kernel_rfl)
theorem z44 : ZeroTy Try.prog 44 [.slice none 0 0] := by unfold ZeroTy; kernel_rfl
theorem s44 : SliceTy Try.prog 44 43 9 88 [.int .i64 0, .int .i64 0, .int .u8 0, .int .i64 0, .int .i64 0, .int .i64 0, .int .i64 0, .int .i64 0, .slice none 0 0] := SliceTy.of (z := .agg #[.int .i64 0, .int .i64 0, .int .u8 0, .int .i64 0, .int .i64 0, .int .i64 0, .int .i64 0, .int .i64 0, .slice none 0 0]) Try.underlying44 (by kernel_rfl) rfl rfl rfl rfl
theorem c46 : CellTy Try.prog 46 := CellTy.of Try.underlying46 rfl (by kernel_rfl)
theorem c47 : CellTy Try.prog 47 := CellTy.of Try.underlying47 rfl (by kernel_rfl)
theorem z47 : ZeroTy Try.prog 47 [.slice none 0 0] := by unfold ZeroTy; kernel_rfl
theorem s47 : SliceTy Try.prog 47 71 3 40 [.int .i64 0, .int .i64 0, .slice none 0 0] := SliceTy.of (z := .agg #[.int .i64 0, .int .i64 0, .slice none 0 0]) Try.underlying47 (by kernel_rfl) rfl rfl rfl rfl
theorem r48 : RowTy Try.prog 48 4 := RowTy.of Try.underlying48 rfl (by kernel_rfl)
theorem z48 : ZeroTy Try.prog 48 [.int .i64 0, .int .i64 0, .int .i64 0, .slice none 0 0] := by unfold ZeroTy; kernel_rfl
theorem fl48_0 : FieldTy Try.prog 48 0 0 := FieldTy.of (n := 2) Try.underlying48 rfl rfl (by kernel_rfl)
theorem fl48_1 : FieldTy Try.prog 48 1 3 := FieldTy.of (n := 0) Try.underlying48 rfl rfl (by kernel_rfl)
theorem r49 : RowTy Try.prog 49 4 := RowTy.of Try.underlying49 rfl (by kernel_rfl)
theorem z49 : ZeroTy Try.prog 49 [.int .i64 0, .int .i64 0, .int .i64 0, .slice none 0 0] := by unfold ZeroTy; kernel_rfl
theorem fl49_0 : FieldTy Try.prog 49 0 0 := FieldTy.of (n := 2) Try.underlying49 rfl rfl (by kernel_rfl)
theorem fl49_1 : FieldTy Try.prog 49 1 3 := FieldTy.of (n := 0) Try.underlying49 rfl rfl (by kernel_rfl)
theorem c50 : CellTy Try.prog 50 := CellTy.of Try.underlying50 rfl (by kernel_rfl)
theorem z50 : ZeroTy Try.prog 50 [.int .i64 0] := by unfold ZeroTy; kernel_rfl
theorem c52 : CellTy Try.prog 52 := CellTy.of Try.underlying52 rfl (by kernel_rfl)
theorem c53 : CellTy Try.prog 53 := CellTy.of Try.underlying53 rfl (by kernel_rfl)
theorem c54 : CellTy Try.prog 54 := CellTy.of Try.underlying54 rfl (by kernel_rfl)
theorem c55 : CellTy Try.prog 55 := CellTy.of Try.underlying55 rfl (by kernel_rfl)
theorem c56 : CellTy Try.prog 56 := CellTy.of Try.underlying56 rfl (by kernel_rfl)
theorem c57 : CellTy Try.prog 57 := CellTy.of Try.underlying57 rfl (by kernel_rfl)
theorem c58 : CellTy Try.prog 58 := CellTy.of Try.underlying58 rfl (by kernel_rfl)
theorem c59 : CellTy Try.prog 59 := CellTy.of Try.underlying59 rfl (by kernel_rfl)
theorem c60 : CellTy Try.prog 60 := CellTy.of Try.underlying60 rfl (by kernel_rfl)
theorem c61 : CellTy Try.prog 61 := CellTy.of Try.underlying61 rfl (by kernel_rfl)
theorem c62 : CellTy Try.prog 62 := CellTy.of Try.underlying62 rfl (by kernel_rfl)
theorem c63 : CellTy Try.prog 63 := CellTy.of Try.underlying63 rfl (by kernel_rfl)
theorem c64 : CellTy Try.prog 64 := CellTy.of Try.underlying64 rfl (by kernel_rfl)
theorem c65 : CellTy Try.prog 65 := CellTy.of Try.underlying65 rfl (by kernel_rfl)
theorem c66 : CellTy Try.prog 66 := CellTy.of Try.underlying66 rfl (by kernel_rfl)
theorem c67 : CellTy Try.prog 67 := CellTy.of Try.underlying67 rfl (by kernel_rfl)
theorem c68 : CellTy Try.prog 68 := CellTy.of Try.underlying68 rfl (by kernel_rfl)
theorem c69 : CellTy Try.prog 69 := CellTy.of Try.underlying69 rfl (by kernel_rfl)
theorem r70 : RowTy Try.prog 70 3 := RowTy.of Try.underlying70 rfl (by kernel_rfl)
theorem z70 : ZeroTy Try.prog 70 [.int .i64 0, .int .i64 0, .slice none 0 0] := by unfold ZeroTy; kernel_rfl
theorem fl70_0 : FieldTy Try.prog 70 0 0 := FieldTy.of (n := 0) Try.underlying70 rfl rfl (by kernel_rfl)
theorem fl70_1 : FieldTy Try.prog 70 1 1 := FieldTy.of (n := 0) Try.underlying70 rfl rfl (by kernel_rfl)
theorem fl70_2 : FieldTy Try.prog 70 2 2 := FieldTy.of (n := 0) Try.underlying70 rfl rfl (by kernel_rfl)
theorem r71 : RowTy Try.prog 71 3 := RowTy.of Try.underlying71 rfl (by kernel_rfl)
theorem z71 : ZeroTy Try.prog 71 [.int .i64 0, .int .i64 0, .slice none 0 0] := by unfold ZeroTy; kernel_rfl
theorem fl71_0 : FieldTy Try.prog 71 0 0 := FieldTy.of (n := 0) Try.underlying71 rfl rfl (by kernel_rfl)
theorem fl71_1 : FieldTy Try.prog 71 1 1 := FieldTy.of (n := 0) Try.underlying71 rfl rfl (by kernel_rfl)
theorem fl71_2 : FieldTy Try.prog 71 2 2 := FieldTy.of (n := 0) Try.underlying71 rfl rfl (by kernel_rfl)
theorem c72 : CellTy Try.prog 72 := CellTy.of Try.underlying72 rfl (by kernel_rfl)
theorem c73 : CellTy Try.prog 73 := CellTy.of Try.underlying73 rfl (by kernel_rfl)
theorem c74 : CellTy Try.prog 74 := CellTy.of Try.underlying74 rfl (by kernel_rfl)
theorem z74 : ZeroTy Try.prog 74 [.slice none 0 0] := by unfold ZeroTy; kernel_rfl
theorem s74 : SliceTy Try.prog 74 3 1 8 [.int .i64 0] := SliceTy.of (z := .int .i64 0) Try.underlying74 (by kernel_rfl) rfl rfl rfl rfl
theorem c75 : CellTy Try.prog 75 := CellTy.of Try.underlying75 rfl (by kernel_rfl)
theorem c76 : CellTy Try.prog 76 := CellTy.of Try.underlying76 rfl (by kernel_rfl)
theorem c77 : CellTy Try.prog 77 := CellTy.of Try.underlying77 rfl (by kernel_rfl)
theorem c78 : CellTy Try.prog 78 := CellTy.of Try.underlying78 rfl (by kernel_rfl)
theorem c79 : CellTy Try.prog 79 := CellTy.of Try.underlying79 rfl (by kernel_rfl)
theorem c80 : CellTy Try.prog 80 := CellTy.of Try.underlying80 rfl (by kernel_rfl)
theorem c81 : CellTy Try.prog 81 := CellTy.of Try.underlying81 rfl (by kernel_rfl)
theorem c82 : CellTy Try.prog 82 := CellTy.of Try.underlying82 rfl (by kernel_rfl)
theorem z82 : ZeroTy Try.prog 82 [.int .u64 0] := by unfold ZeroTy; kernel_rfl
theorem c83 : CellTy Try.prog 83 := CellTy.of Try.underlying83 rfl (by kernel_rfl)
theorem c84 : CellTy Try.prog 84 := CellTy.of Try.underlying84 rfl (by kernel_rfl)
theorem c85 : CellTy Try.prog 85 := CellTy.of Try.underlying85 rfl (by kernel_rfl)
theorem c86 : CellTy Try.prog 86 := CellTy.of Try.underlying86 rfl (by kernel_rfl)
theorem c87 : CellTy Try.prog 87 := CellTy.of Try.underlying87 rfl (by kernel_rfl)
theorem c88 : CellTy Try.prog 88 := CellTy.of Try.underlying88 rfl (by kernel_rfl)
theorem z88 : ZeroTy Try.prog 88 [.int .i64 0] := by unfold ZeroTy; kernel_rfl
theorem c90 : CellTy Try.prog 90 := CellTy.of Try.underlying90 rfl (by kernel_rfl)
theorem c91 : CellTy Try.prog 91 := CellTy.of Try.underlying91 rfl (by kernel_rfl)
theorem c92 : CellTy Try.prog 92 := CellTy.of Try.underlying92 rfl (by kernel_rfl)
theorem c94 : CellTy Try.prog 94 := CellTy.of Try.underlying94 rfl (by kernel_rfl)
theorem c95 : CellTy Try.prog 95 := CellTy.of Try.underlying95 rfl (by kernel_rfl)
theorem c96 : CellTy Try.prog 96 := CellTy.of Try.underlying96 rfl (by kernel_rfl)
theorem z96 : ZeroTy Try.prog 96 [.int .u32 0] := by unfold ZeroTy; kernel_rfl
theorem c97 : CellTy Try.prog 97 := CellTy.of Try.underlying97 rfl (by kernel_rfl)
theorem c98 : CellTy Try.prog 98 := CellTy.of Try.underlying98 rfl (by kernel_rfl)
theorem z98 : ZeroTy Try.prog 98 [.int .u64 0] := by unfold ZeroTy; kernel_rfl
theorem c99 : CellTy Try.prog 99 := CellTy.of Try.underlying99 rfl (by kernel_rfl)
theorem c100 : CellTy Try.prog 100 := CellTy.of Try.underlying100 rfl (by kernel_rfl)
theorem c101 : CellTy Try.prog 101 := CellTy.of Try.underlying101 rfl (by kernel_rfl)
theorem c102 : CellTy Try.prog 102 := CellTy.of Try.underlying102 rfl (by kernel_rfl)
theorem c103 : CellTy Try.prog 103 := CellTy.of Try.underlying103 rfl (by kernel_rfl)
theorem c104 : CellTy Try.prog 104 := CellTy.of Try.underlying104 rfl (by kernel_rfl)
theorem z104 : ZeroTy Try.prog 104 [.int .u64 0] := by unfold ZeroTy; kernel_rfl
theorem c105 : CellTy Try.prog 105 := CellTy.of Try.underlying105 rfl (by kernel_rfl)
theorem c106 : CellTy Try.prog 106 := CellTy.of Try.underlying106 rfl (by kernel_rfl)
theorem c107 : CellTy Try.prog 107 := CellTy.of Try.underlying107 rfl (by kernel_rfl)
theorem c108 : CellTy Try.prog 108 := CellTy.of Try.underlying108 rfl (by kernel_rfl)
theorem z108 : ZeroTy Try.prog 108 [.pointer none] := by unfold ZeroTy; kernel_rfl
theorem c109 : CellTy Try.prog 109 := CellTy.of Try.underlying109 rfl (by kernel_rfl)
theorem c110 : CellTy Try.prog 110 := CellTy.of Try.underlying110 rfl (by kernel_rfl)
theorem c111 : CellTy Try.prog 111 := CellTy.of Try.underlying111 rfl (by kernel_rfl)
theorem c112 : CellTy Try.prog 112 := CellTy.of Try.underlying112 rfl (by kernel_rfl)
theorem z112 : ZeroTy Try.prog 112 [.pointer none] := by unfold ZeroTy; kernel_rfl
theorem c114 : CellTy Try.prog 114 := CellTy.of Try.underlying114 rfl (by kernel_rfl)
theorem c115 : CellTy Try.prog 115 := CellTy.of Try.underlying115 rfl (by kernel_rfl)
theorem c116 : CellTy Try.prog 116 := CellTy.of Try.underlying116 rfl (by kernel_rfl)
theorem r117 : RowTy Try.prog 117 4 := RowTy.of Try.underlying117 rfl (by kernel_rfl)
theorem z117 : ZeroTy Try.prog 117 [.pointer none, .pointer none, .pointer none, .string ByteArray.empty] := by unfold ZeroTy; kernel_rfl
theorem fl117_0 : FieldTy Try.prog 117 0 0 := FieldTy.of (n := 0) Try.underlying117 rfl rfl (by kernel_rfl)
theorem fl117_1 : FieldTy Try.prog 117 1 1 := FieldTy.of (n := 0) Try.underlying117 rfl rfl (by kernel_rfl)
theorem fl117_2 : FieldTy Try.prog 117 2 2 := FieldTy.of (n := 0) Try.underlying117 rfl rfl (by kernel_rfl)
theorem fl117_3 : FieldTy Try.prog 117 3 3 := FieldTy.of (n := 0) Try.underlying117 rfl rfl (by kernel_rfl)
theorem r118 : RowTy Try.prog 118 4 := RowTy.of Try.underlying118 rfl (by kernel_rfl)
theorem z118 : ZeroTy Try.prog 118 [.pointer none, .pointer none, .pointer none, .string ByteArray.empty] := by unfold ZeroTy; kernel_rfl
theorem fl118_0 : FieldTy Try.prog 118 0 0 := FieldTy.of (n := 0) Try.underlying118 rfl rfl (by kernel_rfl)
theorem fl118_1 : FieldTy Try.prog 118 1 1 := FieldTy.of (n := 0) Try.underlying118 rfl rfl (by kernel_rfl)
theorem fl118_2 : FieldTy Try.prog 118 2 2 := FieldTy.of (n := 0) Try.underlying118 rfl rfl (by kernel_rfl)
theorem fl118_3 : FieldTy Try.prog 118 3 3 := FieldTy.of (n := 0) Try.underlying118 rfl rfl (by kernel_rfl)
theorem r119 : RowTy Try.prog 119 0 := RowTy.of Try.underlying119 rfl (by kernel_rfl)
theorem z119 : ZeroTy Try.prog 119 [] := by unfold ZeroTy; kernel_rfl
theorem r120 : RowTy Try.prog 120 0 := RowTy.of Try.underlying120 rfl (by kernel_rfl)
theorem z120 : ZeroTy Try.prog 120 [] := by unfold ZeroTy; kernel_rfl
theorem r121 : RowTy Try.prog 121 0 := RowTy.of Try.underlying121 rfl (by kernel_rfl)
theorem z121 : ZeroTy Try.prog 121 [] := by unfold ZeroTy; kernel_rfl
theorem c122 : CellTy Try.prog 122 := CellTy.of Try.underlying122 rfl (by kernel_rfl)
theorem c123 : CellTy Try.prog 123 := CellTy.of Try.underlying123 rfl (by kernel_rfl)
theorem z123 : ZeroTy Try.prog 123 [.int .u8 0] := by unfold ZeroTy; kernel_rfl
theorem c124 : CellTy Try.prog 124 := CellTy.of Try.underlying124 rfl (by kernel_rfl)
theorem z124 : ZeroTy Try.prog 124 [.int .u8 0] := by unfold ZeroTy; kernel_rfl
theorem c125 : CellTy Try.prog 125 := CellTy.of Try.underlying125 rfl (by kernel_rfl)
theorem c126 : CellTy Try.prog 126 := CellTy.of Try.underlying126 rfl (by kernel_rfl)
theorem z126 : ZeroTy Try.prog 126 [.pointer none] := by unfold ZeroTy; kernel_rfl
theorem c127 : CellTy Try.prog 127 := CellTy.of Try.underlying127 rfl (by kernel_rfl)
theorem z127 : ZeroTy Try.prog 127 [.int .i32 0] := by unfold ZeroTy; kernel_rfl
theorem c128 : CellTy Try.prog 128 := CellTy.of Try.underlying128 rfl (by kernel_rfl)
theorem z128 : ZeroTy Try.prog 128 [.int .i32 0] := by unfold ZeroTy; kernel_rfl
theorem r129 : RowTy Try.prog 129 11 := RowTy.of Try.underlying129 rfl (by kernel_rfl)
theorem z129 : ZeroTy Try.prog 129 [.int .u64 0, .int .u64 0, .int .u32 0, .int .u8 0, .int .u8 0, .int .u8 0, .int .u8 0, .nilFunc, .pointer none, .int .i32 0, .int .i32 0] := by unfold ZeroTy; kernel_rfl
theorem fl129_0 : FieldTy Try.prog 129 0 0 := FieldTy.of (n := 0) Try.underlying129 rfl rfl (by kernel_rfl)
theorem fl129_1 : FieldTy Try.prog 129 1 1 := FieldTy.of (n := 0) Try.underlying129 rfl rfl (by kernel_rfl)
theorem fl129_2 : FieldTy Try.prog 129 2 2 := FieldTy.of (n := 0) Try.underlying129 rfl rfl (by kernel_rfl)
theorem fl129_3 : FieldTy Try.prog 129 3 3 := FieldTy.of (n := 0) Try.underlying129 rfl rfl (by kernel_rfl)
theorem fl129_4 : FieldTy Try.prog 129 4 4 := FieldTy.of (n := 0) Try.underlying129 rfl rfl (by kernel_rfl)
theorem fl129_5 : FieldTy Try.prog 129 5 5 := FieldTy.of (n := 0) Try.underlying129 rfl rfl (by kernel_rfl)
theorem fl129_6 : FieldTy Try.prog 129 6 6 := FieldTy.of (n := 0) Try.underlying129 rfl rfl (by kernel_rfl)
theorem fl129_7 : FieldTy Try.prog 129 7 7 := FieldTy.of (n := 0) Try.underlying129 rfl rfl (by kernel_rfl)
theorem fl129_8 : FieldTy Try.prog 129 8 8 := FieldTy.of (n := 0) Try.underlying129 rfl rfl (by kernel_rfl)
theorem fl129_9 : FieldTy Try.prog 129 9 9 := FieldTy.of (n := 0) Try.underlying129 rfl rfl (by kernel_rfl)
theorem fl129_10 : FieldTy Try.prog 129 10 10 := FieldTy.of (n := 0) Try.underlying129 rfl rfl (by kernel_rfl)
theorem r130 : RowTy Try.prog 130 11 := RowTy.of Try.underlying130 rfl (by kernel_rfl)
theorem z130 : ZeroTy Try.prog 130 [.int .u64 0, .int .u64 0, .int .u32 0, .int .u8 0, .int .u8 0, .int .u8 0, .int .u8 0, .nilFunc, .pointer none, .int .i32 0, .int .i32 0] := by unfold ZeroTy; kernel_rfl
theorem fl130_0 : FieldTy Try.prog 130 0 0 := FieldTy.of (n := 0) Try.underlying130 rfl rfl (by kernel_rfl)
theorem fl130_1 : FieldTy Try.prog 130 1 1 := FieldTy.of (n := 0) Try.underlying130 rfl rfl (by kernel_rfl)
theorem fl130_2 : FieldTy Try.prog 130 2 2 := FieldTy.of (n := 0) Try.underlying130 rfl rfl (by kernel_rfl)
theorem fl130_3 : FieldTy Try.prog 130 3 3 := FieldTy.of (n := 0) Try.underlying130 rfl rfl (by kernel_rfl)
theorem fl130_4 : FieldTy Try.prog 130 4 4 := FieldTy.of (n := 0) Try.underlying130 rfl rfl (by kernel_rfl)
theorem fl130_5 : FieldTy Try.prog 130 5 5 := FieldTy.of (n := 0) Try.underlying130 rfl rfl (by kernel_rfl)
theorem fl130_6 : FieldTy Try.prog 130 6 6 := FieldTy.of (n := 0) Try.underlying130 rfl rfl (by kernel_rfl)
theorem fl130_7 : FieldTy Try.prog 130 7 7 := FieldTy.of (n := 0) Try.underlying130 rfl rfl (by kernel_rfl)
theorem fl130_8 : FieldTy Try.prog 130 8 8 := FieldTy.of (n := 0) Try.underlying130 rfl rfl (by kernel_rfl)
theorem fl130_9 : FieldTy Try.prog 130 9 9 := FieldTy.of (n := 0) Try.underlying130 rfl rfl (by kernel_rfl)
theorem fl130_10 : FieldTy Try.prog 130 10 10 := FieldTy.of (n := 0) Try.underlying130 rfl rfl (by kernel_rfl)
theorem ca2 : callable Try.prog 2 = true := by kernel_rfl
theorem ca3 : callable Try.prog 3 = true := by kernel_rfl
theorem ca4 : callable Try.prog 4 = true := by kernel_rfl
theorem ca5 : callable Try.prog 5 = true := by kernel_rfl
theorem ca6 : callable Try.prog 6 = true := by kernel_rfl
theorem ca7 : callable Try.prog 7 = true := by kernel_rfl
theorem ca8 : callable Try.prog 8 = true := by kernel_rfl
theorem ca9 : callable Try.prog 9 = true := by kernel_rfl
theorem ca10 : callable Try.prog 10 = true := by kernel_rfl
theorem ca11 : callable Try.prog 11 = true := by kernel_rfl
theorem ca12 : callable Try.prog 12 = true := by kernel_rfl
theorem ca13 : callable Try.prog 13 = true := by kernel_rfl
theorem ca14 : callable Try.prog 14 = true := by kernel_rfl
theorem ca15 : callable Try.prog 15 = true := by kernel_rfl
theorem ca16 : callable Try.prog 16 = true := by kernel_rfl
theorem ca17 : callable Try.prog 17 = true := by kernel_rfl
theorem ca18 : callable Try.prog 18 = true := by kernel_rfl
theorem ca19 : callable Try.prog 19 = true := by kernel_rfl
theorem ca20 : callable Try.prog 20 = true := by kernel_rfl
theorem ca21 : callable Try.prog 21 = true := by kernel_rfl
theorem ca22 : callable Try.prog 22 = true := by kernel_rfl
theorem ca23 : callable Try.prog 23 = true := by kernel_rfl
theorem ca24 : callable Try.prog 24 = true := by kernel_rfl
theorem ca25 : callable Try.prog 25 = true := by kernel_rfl
theorem ca26 : callable Try.prog 26 = true := by kernel_rfl
theorem ca27 : callable Try.prog 27 = true := by kernel_rfl
theorem ca28 : callable Try.prog 28 = true := by kernel_rfl
theorem ca29 : callable Try.prog 29 = true := by kernel_rfl
theorem ca30 : callable Try.prog 30 = true := by kernel_rfl
theorem ca31 : callable Try.prog 31 = true := by kernel_rfl
theorem ca32 : callable Try.prog 32 = true := by kernel_rfl
theorem ca33 : callable Try.prog 33 = true := by kernel_rfl
theorem ca34 : callable Try.prog 34 = true := by kernel_rfl
theorem ca35 : callable Try.prog 35 = true := by kernel_rfl
theorem ca36 : callable Try.prog 36 = true := by kernel_rfl
theorem ca37 : callable Try.prog 37 = true := by kernel_rfl
theorem ca38 : callable Try.prog 38 = true := by kernel_rfl
theorem ca39 : callable Try.prog 39 = true := by kernel_rfl
theorem ca40 : callable Try.prog 40 = true := by kernel_rfl
theorem ca41 : callable Try.prog 41 = true := by kernel_rfl
theorem ca42 : callable Try.prog 42 = true := by kernel_rfl
theorem ca43 : callable Try.prog 43 = true := by kernel_rfl
theorem ca44 : callable Try.prog 44 = true := by kernel_rfl
theorem ca45 : callable Try.prog 45 = true := by kernel_rfl
theorem ca46 : callable Try.prog 46 = true := by kernel_rfl
theorem ca47 : callable Try.prog 47 = true := by kernel_rfl
theorem ca48 : callable Try.prog 48 = true := by kernel_rfl
theorem ca49 : callable Try.prog 49 = true := by kernel_rfl
theorem ca50 : callable Try.prog 50 = true := by kernel_rfl
theorem ca51 : callable Try.prog 51 = true := by kernel_rfl
theorem ca52 : callable Try.prog 52 = true := by kernel_rfl
theorem ca53 : callable Try.prog 53 = true := by kernel_rfl
theorem ca54 : callable Try.prog 54 = true := by kernel_rfl
theorem ca55 : callable Try.prog 55 = true := by kernel_rfl
theorem ca56 : callable Try.prog 56 = true := by kernel_rfl
theorem ca57 : callable Try.prog 57 = true := by kernel_rfl
theorem ca58 : callable Try.prog 58 = true := by kernel_rfl
theorem ca59 : callable Try.prog 59 = true := by kernel_rfl
theorem ca60 : callable Try.prog 60 = true := by kernel_rfl
theorem ca61 : callable Try.prog 61 = true := by kernel_rfl
theorem ca62 : callable Try.prog 62 = true := by kernel_rfl
theorem ca63 : callable Try.prog 63 = true := by kernel_rfl
theorem ca64 : callable Try.prog 64 = true := by kernel_rfl
theorem ca65 : callable Try.prog 65 = true := by kernel_rfl
theorem ca66 : callable Try.prog 66 = true := by kernel_rfl
theorem ca67 : callable Try.prog 67 = true := by kernel_rfl
theorem ca68 : callable Try.prog 68 = true := by kernel_rfl
theorem ca69 : callable Try.prog 69 = true := by kernel_rfl
theorem ca70 : callable Try.prog 70 = true := by kernel_rfl
theorem ca71 : callable Try.prog 71 = true := by kernel_rfl
theorem ca72 : callable Try.prog 72 = true := by kernel_rfl
theorem ca73 : callable Try.prog 73 = true := by kernel_rfl
theorem ca74 : callable Try.prog 74 = true := by kernel_rfl
theorem ca75 : callable Try.prog 75 = true := by kernel_rfl
theorem ca76 : callable Try.prog 76 = true := by kernel_rfl
theorem ca77 : callable Try.prog 77 = true := by kernel_rfl
theorem ca78 : callable Try.prog 78 = true := by kernel_rfl
theorem ca79 : callable Try.prog 79 = true := by kernel_rfl
theorem ca80 : callable Try.prog 80 = true := by kernel_rfl
theorem mixed : Try.prog.follows .mixedOrders = true := by kernel_rfl
end Go.Proofs.Ytnghonabedcacaa
