/- The table of types of this seat, in the words of the logic; printed by sx.py. -/
import Derived.Test.YtoehnbacbobhiaaDoorSepx
import Derived.Test.YtoehnbacbobhiaaDoorProg
namespace Go.Proofs.YtoehnbacbobhiaaDoor
open Go.Sep
theorem c1 : CellTy Tryd.prog 1 := CellTy.of Tryd.underlying1 rfl (by kernel_rfl)
theorem c2 : CellTy Tryd.prog 2 := CellTy.of Tryd.underlying2 rfl (by kernel_rfl)
theorem z2 : ZeroTy Tryd.prog 2 [.int .i64 0] := by unfold ZeroTy; kernel_rfl
theorem c3 : CellTy Tryd.prog 3 := CellTy.of Tryd.underlying3 rfl (by kernel_rfl)
theorem z3 : ZeroTy Tryd.prog 3 [.int .i64 0] := by unfold ZeroTy; kernel_rfl
theorem c4 : CellTy Tryd.prog 4 := CellTy.of Tryd.underlying4 rfl (by kernel_rfl)
theorem z4 : ZeroTy Tryd.prog 4 [.bool false] := by unfold ZeroTy; kernel_rfl
theorem c5 : CellTy Tryd.prog 5 := CellTy.of Tryd.underlying5 rfl (by kernel_rfl)
theorem z5 : ZeroTy Tryd.prog 5 [.int .u8 0] := by unfold ZeroTy; kernel_rfl
theorem c6 : CellTy Tryd.prog 6 := CellTy.of Tryd.underlying6 rfl (by kernel_rfl)
theorem z6 : ZeroTy Tryd.prog 6 [.int .u8 0] := by unfold ZeroTy; kernel_rfl
theorem r7 : RowTy Tryd.prog 7 4 := RowTy.of Tryd.underlying7 rfl (by kernel_rfl)
theorem z7 : ZeroTy Tryd.prog 7 [.int .i64 0, .int .i64 0, .bool false, .int .u8 0] := by unfold ZeroTy; kernel_rfl
theorem fl7_0 : FieldTy Tryd.prog 7 0 0 := FieldTy.of (n := 0) Tryd.underlying7 rfl rfl (by kernel_rfl)
theorem fl7_1 : FieldTy Tryd.prog 7 1 1 := FieldTy.of (n := 0) Tryd.underlying7 rfl rfl (by kernel_rfl)
theorem fl7_2 : FieldTy Tryd.prog 7 2 2 := FieldTy.of (n := 0) Tryd.underlying7 rfl rfl (by kernel_rfl)
theorem fl7_3 : FieldTy Tryd.prog 7 3 3 := FieldTy.of (n := 0) Tryd.underlying7 rfl rfl (by kernel_rfl)
theorem r8 : RowTy Tryd.prog 8 4 := RowTy.of Tryd.underlying8 rfl (by kernel_rfl)
theorem z8 : ZeroTy Tryd.prog 8 [.int .i64 0, .int .i64 0, .bool false, .int .u8 0] := by unfold ZeroTy; kernel_rfl
theorem fl8_0 : FieldTy Tryd.prog 8 0 0 := FieldTy.of (n := 0) Tryd.underlying8 rfl rfl (by kernel_rfl)
theorem fl8_1 : FieldTy Tryd.prog 8 1 1 := FieldTy.of (n := 0) Tryd.underlying8 rfl rfl (by kernel_rfl)
theorem fl8_2 : FieldTy Tryd.prog 8 2 2 := FieldTy.of (n := 0) Tryd.underlying8 rfl rfl (by kernel_rfl)
theorem fl8_3 : FieldTy Tryd.prog 8 3 3 := FieldTy.of (n := 0) Tryd.underlying8 rfl rfl (by kernel_rfl)
theorem c9 : CellTy Tryd.prog 9 := CellTy.of Tryd.underlying9 rfl (by kernel_rfl)
theorem z9 : ZeroTy Tryd.prog 9 [.string ByteArray.empty] := by unfold ZeroTy; kernel_rfl
theorem c10 : CellTy Tryd.prog 10 := CellTy.of Tryd.underlying10 rfl (by kernel_rfl)
theorem z10 : ZeroTy Tryd.prog 10 [.string ByteArray.empty] := by unfold ZeroTy; kernel_rfl
theorem c11 : CellTy Tryd.prog 11 := CellTy.of Tryd.underlying11 rfl (by kernel_rfl)
theorem z11 : ZeroTy Tryd.prog 11 [.string ByteArray.empty] := by unfold ZeroTy; kernel_rfl
theorem c12 : CellTy Tryd.prog 12 := CellTy.of Tryd.underlying12 rfl (by kernel_rfl)
theorem z12 : ZeroTy Tryd.prog 12 [.int .u64 0] := by unfold ZeroTy; kernel_rfl
theorem r13 : RowTy Tryd.prog 13 2 := RowTy.of Tryd.underlying13 rfl (by kernel_rfl)
theorem z13 : ZeroTy Tryd.prog 13 [.string ByteArray.empty, .int .u64 0] := by unfold ZeroTy; kernel_rfl
theorem fl13_0 : FieldTy Tryd.prog 13 0 0 := FieldTy.of (n := 0) Tryd.underlying13 rfl rfl (by kernel_rfl)
theorem fl13_1 : FieldTy Tryd.prog 13 1 1 := FieldTy.of (n := 0) Tryd.underlying13 rfl rfl (by kernel_rfl)
theorem r14 : RowTy Tryd.prog 14 2 := RowTy.of Tryd.underlying14 rfl (by kernel_rfl)
theorem z14 : ZeroTy Tryd.prog 14 [.string ByteArray.empty, .int .u64 0] := by unfold ZeroTy; kernel_rfl
theorem fl14_0 : FieldTy Tryd.prog 14 0 0 := FieldTy.of (n := 0) Tryd.underlying14 rfl rfl (by kernel_rfl)
theorem fl14_1 : FieldTy Tryd.prog 14 1 1 := FieldTy.of (n := 0) Tryd.underlying14 rfl rfl (by kernel_rfl)
theorem c15 : CellTy Tryd.prog 15 := CellTy.of Tryd.underlying15 rfl (by kernel_rfl)
theorem z15 : ZeroTy Tryd.prog 15 [.pointer none] := by unfold ZeroTy; kernel_rfl
theorem c16 : CellTy Tryd.prog 16 := CellTy.of Tryd.underlying16 rfl (by kernel_rfl)
theorem z16 : ZeroTy Tryd.prog 16 [.pointer none] := by unfold ZeroTy; kernel_rfl
theorem c17 : CellTy Tryd.prog 17 := CellTy.of Tryd.underlying17 rfl (by kernel_rfl)
theorem z17 : ZeroTy Tryd.prog 17 [.pointer none] := by unfold ZeroTy; kernel_rfl
theorem r18 : RowTy Tryd.prog 18 1 := RowTy.of Tryd.underlying18 rfl (by kernel_rfl)
theorem z18 : ZeroTy Tryd.prog 18 [.pointer none] := by unfold ZeroTy; kernel_rfl
theorem fl18_0 : FieldTy Tryd.prog 18 0 0 := FieldTy.of (n := 0) Tryd.underlying18 rfl rfl (by kernel_rfl)
theorem r19 : RowTy Tryd.prog 19 1 := RowTy.of Tryd.underlying19 rfl (by kernel_rfl)
theorem z19 : ZeroTy Tryd.prog 19 [.pointer none] := by unfold ZeroTy; kernel_rfl
theorem fl19_0 : FieldTy Tryd.prog 19 0 0 := FieldTy.of (n := 0) Tryd.underlying19 rfl rfl (by kernel_rfl)
theorem c20 : CellTy Tryd.prog 20 := CellTy.of Tryd.underlying20 rfl (by kernel_rfl)
theorem z20 : ZeroTy Tryd.prog 20 [.nilIface] := by unfold ZeroTy; kernel_rfl
theorem c21 : CellTy Tryd.prog 21 := CellTy.of Tryd.underlying21 rfl (by kernel_rfl)
theorem z21 : ZeroTy Tryd.prog 21 [.int .i32 0] := by unfold ZeroTy; kernel_rfl
theorem c22 : CellTy Tryd.prog 22 := CellTy.of Tryd.underlying22 rfl (by kernel_rfl)
theorem z22 : ZeroTy Tryd.prog 22 [.int .u8 0] := by unfold ZeroTy; kernel_rfl
theorem r23 : RowTy Tryd.prog 23 4 := RowTy.of Tryd.underlying23 rfl (by kernel_rfl)
theorem z23 : ZeroTy Tryd.prog 23 [.int .u8 0, .int .i64 0, .int .i64 0, .int .i64 0] := by unfold ZeroTy; kernel_rfl
theorem fl23_0 : FieldTy Tryd.prog 23 0 0 := FieldTy.of (n := 0) Tryd.underlying23 rfl rfl (by kernel_rfl)
theorem fl23_1 : FieldTy Tryd.prog 23 1 1 := FieldTy.of (n := 0) Tryd.underlying23 rfl rfl (by kernel_rfl)
theorem fl23_2 : FieldTy Tryd.prog 23 2 2 := FieldTy.of (n := 0) Tryd.underlying23 rfl rfl (by kernel_rfl)
theorem fl23_3 : FieldTy Tryd.prog 23 3 3 := FieldTy.of (n := 0) Tryd.underlying23 rfl rfl (by kernel_rfl)
theorem r24 : RowTy Tryd.prog 24 4 := RowTy.of Tryd.underlying24 rfl (by kernel_rfl)
theorem z24 : ZeroTy Tryd.prog 24 [.int .u8 0, .int .i64 0, .int .i64 0, .int .i64 0] := by unfold ZeroTy; kernel_rfl
theorem fl24_0 : FieldTy Tryd.prog 24 0 0 := FieldTy.of (n := 0) Tryd.underlying24 rfl rfl (by kernel_rfl)
theorem fl24_1 : FieldTy Tryd.prog 24 1 1 := FieldTy.of (n := 0) Tryd.underlying24 rfl rfl (by kernel_rfl)
theorem fl24_2 : FieldTy Tryd.prog 24 2 2 := FieldTy.of (n := 0) Tryd.underlying24 rfl rfl (by kernel_rfl)
theorem fl24_3 : FieldTy Tryd.prog 24 3 3 := FieldTy.of (n := 0) Tryd.underlying24 rfl rfl (by kernel_rfl)
theorem c25 : CellTy Tryd.prog 25 := CellTy.of Tryd.underlying25 rfl (by kernel_rfl)
theorem z25 : ZeroTy Tryd.prog 25 [.slice none 0 0] := by unfold ZeroTy; kernel_rfl
theorem s25 : SliceTy Tryd.prog 25 24 4 32 [.int .u8 0, .int .i64 0, .int .i64 0, .int .i64 0] := SliceTy.of (z := .agg #[.int .u8 0, .int .i64 0, .int .i64 0, .int .i64 0]) Tryd.underlying25 (by kernel_rfl) rfl rfl rfl rfl
theorem r26 : RowTy Tryd.prog 26 3 := RowTy.of Tryd.underlying26 rfl (by kernel_rfl)
theorem z26 : ZeroTy Tryd.prog 26 [.int .i64 0, .int .i64 0, .slice none 0 0] := by unfold ZeroTy; kernel_rfl
theorem fl26_0 : FieldTy Tryd.prog 26 0 0 := FieldTy.of (n := 0) Tryd.underlying26 rfl rfl (by kernel_rfl)
theorem fl26_1 : FieldTy Tryd.prog 26 1 1 := FieldTy.of (n := 0) Tryd.underlying26 rfl rfl (by kernel_rfl)
theorem fl26_2 : FieldTy Tryd.prog 26 2 2 := FieldTy.of (n := 0) Tryd.underlying26 rfl rfl (by kernel_rfl)
theorem r27 : RowTy Tryd.prog 27 3 := RowTy.of Tryd.underlying27 rfl (by kernel_rfl)
theorem z27 : ZeroTy Tryd.prog 27 [.int .i64 0, .int .i64 0, .slice none 0 0] := by unfold ZeroTy; kernel_rfl
theorem fl27_0 : FieldTy Tryd.prog 27 0 0 := FieldTy.of (n := 0) Tryd.underlying27 rfl rfl (by kernel_rfl)
theorem fl27_1 : FieldTy Tryd.prog 27 1 1 := FieldTy.of (n := 0) Tryd.underlying27 rfl rfl (by kernel_rfl)
theorem fl27_2 : FieldTy Tryd.prog 27 2 2 := FieldTy.of (n := 0) Tryd.underlying27 rfl rfl (by kernel_rfl)
theorem c28 : CellTy Tryd.prog 28 := CellTy.of Tryd.underlying28 rfl (by kernel_rfl)
theorem z28 : ZeroTy Tryd.prog 28 [.slice none 0 0] := by unfold ZeroTy; kernel_rfl
theorem s28 : SliceTy Tryd.prog 28 2 1 8 [.int .i64 0] := SliceTy.of (z := .int .i64 0) Tryd.underlying28 (by kernel_rfl) rfl rfl rfl rfl
theorem c29 : CellTy Tryd.prog 29 := CellTy.of Tryd.underlying29 rfl (by kernel_rfl)
theorem z29 : ZeroTy Tryd.prog 29 [.slice none 0 0] := by unfold ZeroTy; kernel_rfl
theorem s29 : SliceTy Tryd.prog 29 32 1 24 [.slice none 0 0] := SliceTy.of (z := .agg #[.slice none 0 0]) Tryd.underlying29 (by kernel_rfl) rfl rfl rfl rfl
theorem c30 : CellTy Tryd.prog 30 := CellTy.of Tryd.underlying30 rfl (by kernel_rfl)
theorem z30 : ZeroTy Tryd.prog 30 [.slice none 0 0] := by unfold ZeroTy; kernel_rfl
theorem s30 : SliceTy Tryd.prog 30 89 2 16 [.int .i64 0, .int .i64 0] := SliceTy.of (z := .agg #[.int .i64 0, .int .i64 0]) Tryd.underlying30 (by kernel_rfl) rfl rfl rfl rfl
theorem r31 : RowTy Tryd.prog 31 1 := RowTy.of Tryd.underlying31 rfl (by kernel_rfl)
theorem z31 : ZeroTy Tryd.prog 31 [.slice none 0 0] := by unfold ZeroTy; kernel_rfl
theorem fl31_0 : FieldTy Tryd.prog 31 0 0 := FieldTy.of (n := 0) Tryd.underlying31 rfl rfl (by kernel_rfl)
theorem r32 : RowTy Tryd.prog 32 1 := RowTy.of Tryd.underlying32 rfl (by kernel_rfl)
theorem z32 : ZeroTy Tryd.prog 32 [.slice none 0 0] := by unfold ZeroTy; kernel_rfl
theorem fl32_0 : FieldTy Tryd.prog 32 0 0 := FieldTy.of (n := 0) Tryd.underlying32 rfl rfl (by kernel_rfl)
theorem r33 : RowTy Tryd.prog 33 3 := RowTy.of Tryd.underlying33 rfl (by kernel_rfl)
theorem z33 : ZeroTy Tryd.prog 33 [.slice none 0 0, .slice none 0 0, .slice none 0 0] := by unfold ZeroTy; kernel_rfl
theorem fl33_0 : FieldTy Tryd.prog 33 0 0 := FieldTy.of (n := 0) Tryd.underlying33 rfl rfl (by kernel_rfl)
theorem fl33_1 : FieldTy Tryd.prog 33 1 1 := FieldTy.of (n := 0) Tryd.underlying33 rfl rfl (by kernel_rfl)
theorem fl33_2 : FieldTy Tryd.prog 33 2 2 := FieldTy.of (n := 0) Tryd.underlying33 rfl rfl (by kernel_rfl)
theorem r34 : RowTy Tryd.prog 34 3 := RowTy.of Tryd.underlying34 rfl (by kernel_rfl)
theorem z34 : ZeroTy Tryd.prog 34 [.slice none 0 0, .slice none 0 0, .slice none 0 0] := by unfold ZeroTy; kernel_rfl
theorem fl34_0 : FieldTy Tryd.prog 34 0 0 := FieldTy.of (n := 0) Tryd.underlying34 rfl rfl (by kernel_rfl)
theorem fl34_1 : FieldTy Tryd.prog 34 1 1 := FieldTy.of (n := 0) Tryd.underlying34 rfl rfl (by kernel_rfl)
theorem fl34_2 : FieldTy Tryd.prog 34 2 2 := FieldTy.of (n := 0) Tryd.underlying34 rfl rfl (by kernel_rfl)
theorem c35 : CellTy Tryd.prog 35 := CellTy.of Tryd.underlying35 rfl (by kernel_rfl)
theorem z35 : ZeroTy Tryd.prog 35 [.slice none 0 0] := by unfold ZeroTy; kernel_rfl
theorem s35 : SliceTy Tryd.prog 35 48 8 80 [.int .u8 0, .int .i64 0, .int .i64 0, .int .i64 0, .int .i64 0, .int .i64 0, .bool false, .slice none 0 0] := SliceTy.of (z := .agg #[.int .u8 0, .int .i64 0, .int .i64 0, .int .i64 0, .int .i64 0, .int .i64 0, .bool false, .slice none 0 0]) Tryd.underlying35 (by kernel_rfl) rfl rfl rfl rfl
theorem r36 : RowTy Tryd.prog 36 5 := RowTy.of Tryd.underlying36 rfl (by kernel_rfl)
theorem z36 : ZeroTy Tryd.prog 36 [.slice none 0 0, .slice none 0 0, .slice none 0 0, .slice none 0 0, .int .i64 0] := by unfold ZeroTy; kernel_rfl
theorem fl36_0 : FieldTy Tryd.prog 36 0 0 := FieldTy.of (n := 2) Tryd.underlying36 rfl rfl (by kernel_rfl)
theorem fl36_1 : FieldTy Tryd.prog 36 1 3 := FieldTy.of (n := 0) Tryd.underlying36 rfl rfl (by kernel_rfl)
theorem fl36_2 : FieldTy Tryd.prog 36 2 4 := FieldTy.of (n := 0) Tryd.underlying36 rfl rfl (by kernel_rfl)
theorem r37 : RowTy Tryd.prog 37 5 := RowTy.of Tryd.underlying37 rfl (by kernel_rfl)
theorem z37 : ZeroTy Tryd.prog 37 [.slice none 0 0, .slice none 0 0, .slice none 0 0, .slice none 0 0, .int .i64 0] := by unfold ZeroTy; kernel_rfl
theorem fl37_0 : FieldTy Tryd.prog 37 0 0 := FieldTy.of (n := 2) Tryd.underlying37 rfl rfl (by kernel_rfl)
theorem fl37_1 : FieldTy Tryd.prog 37 1 3 := FieldTy.of (n := 0) Tryd.underlying37 rfl rfl (by kernel_rfl)
theorem fl37_2 : FieldTy Tryd.prog 37 2 4 := FieldTy.of (n := 0) Tryd.underlying37 rfl rfl (by kernel_rfl)
theorem c38 : CellTy Tryd.prog 38 := CellTy.of Tryd.underlying38 rfl (by kernel_rfl)
theorem z38 : ZeroTy Tryd.prog 38 [.int .i64 0] := by unfold ZeroTy; kernel_rfl
theorem c40 : CellTy Tryd.prog 40 := CellTy.of Tryd.underlying40 rfl (by kernel_rfl)
theorem c41 : CellTy Tryd.prog 41 := CellTy.of Tryd.underlying41 rfl (by kernel_rfl)
theorem z41 : ZeroTy Tryd.prog 41 [.slice none 0 0] := by unfold ZeroTy; kernel_rfl
theorem s41 : SliceTy Tryd.prog 41 4 1 1 [.bool false] := SliceTy.of (z := .bool false) Tryd.underlying41 (by kernel_rfl) rfl rfl rfl rfl
theorem c42 : CellTy Tryd.prog 42 := CellTy.of Tryd.underlying42 rfl (by kernel_rfl)
theorem z42 : ZeroTy Tryd.prog 42 [.slice none 0 0] := by unfold ZeroTy; kernel_rfl
theorem s42 : SliceTy Tryd.prog 42 3 1 8 [.int .i64 0] := SliceTy.of (z := .int .i64 0) Tryd.underlying42 (by kernel_rfl) rfl rfl rfl rfl
theorem r43 : RowTy Tryd.prog 43 5 := RowTy.of Tryd.underlying43 rfl (by kernel_rfl)
theorem z43 : ZeroTy Tryd.prog 43 [.slice none 0 0, .int .i64 0, .slice none 0 0, .int .i64 0, .slice none 0 0] := by unfold ZeroTy; kernel_rfl
theorem fl43_0 : FieldTy Tryd.prog 43 0 0 := FieldTy.of (n := 0) Tryd.underlying43 rfl rfl (by kernel_rfl)
theorem fl43_1 : FieldTy Tryd.prog 43 1 1 := FieldTy.of (n := 0) Tryd.underlying43 rfl rfl (by kernel_rfl)
theorem fl43_2 : FieldTy Tryd.prog 43 2 2 := FieldTy.of (n := 0) Tryd.underlying43 rfl rfl (by kernel_rfl)
theorem fl43_3 : FieldTy Tryd.prog 43 3 3 := FieldTy.of (n := 0) Tryd.underlying43 rfl rfl (by kernel_rfl)
theorem fl43_4 : FieldTy Tryd.prog 43 4 4 := FieldTy.of (n := 0) Tryd.underlying43 rfl rfl (by kernel_rfl)
theorem r44 : RowTy Tryd.prog 44 5 := RowTy.of Tryd.underlying44 rfl (by kernel_rfl)
theorem z44 : ZeroTy Tryd.prog 44 [.slice none 0 0, .int .i64 0, .slice none 0 0, .int .i64 0, .slice none 0 0] := by unfold ZeroTy; kernel_rfl
theorem fl44_0 : FieldTy Tryd.prog 44 0 0 := FieldTy.of (n := 0) Tryd.underlying44 rfl rfl (by kernel_rfl)
theorem fl44_1 : FieldTy Tryd.prog 44 1 1 := FieldTy.of (n := 0) Tryd.underlying44 rfl rfl (by kernel_rfl)
theorem fl44_2 : FieldTy Tryd.prog 44 2 2 := FieldTy.of (n := 0) Tryd.underlying44 rfl rfl (by kernel_rfl)
theorem fl44_3 : FieldTy Tryd.prog 44 3 3 := FieldTy.of (n := 0) Tryd.underlying44 rfl rfl (by kernel_rfl)
theorem fl44_4 : FieldTy Tryd.prog 44 4 4 := FieldTy.of (n := 0) Tryd.underlying44 rfl rfl (by kernel_rfl)
theorem c45 : CellTy Tryd.prog 45 := CellTy.of Tryd.underlying45 rfl (by kernel_rfl)
theorem c46 : CellTy Tryd.prog 46 := CellTy.of Tryd.underlying46 rfl (by kernel_rfl)
theorem z46 : ZeroTy Tryd.prog 46 [.int .u8 0] := by unfold ZeroTy; kernel_rfl
theorem r47 : RowTy Tryd.prog 47 8 := RowTy.of Tryd.underlying47 rfl (by kernel_rfl)
theorem z47 : ZeroTy Tryd.prog 47 [.int .u8 0, .int .i64 0, .int .i64 0, .int .i64 0, .int .i64 0, .int .i64 0, .bool false, .slice none 0 0] := by unfold ZeroTy; kernel_rfl
theorem fl47_0 : FieldTy Tryd.prog 47 0 0 := FieldTy.of (n := 0) Tryd.underlying47 rfl rfl (by kernel_rfl)
theorem fl47_1 : FieldTy Tryd.prog 47 1 1 := FieldTy.of (n := 0) Tryd.underlying47 rfl rfl (by kernel_rfl)
theorem fl47_2 : FieldTy Tryd.prog 47 2 2 := FieldTy.of (n := 0) Tryd.underlying47 rfl rfl (by kernel_rfl)
theorem fl47_3 : FieldTy Tryd.prog 47 3 3 := FieldTy.of (n := 0) Tryd.underlying47 rfl rfl (by kernel_rfl)
theorem fl47_4 : FieldTy Tryd.prog 47 4 4 := FieldTy.of (n := 0) Tryd.underlying47 rfl rfl (by kernel_rfl)
theorem fl47_5 : FieldTy Tryd.prog 47 5 5 := FieldTy.of (n := 0) Tryd.underlying47 rfl rfl (by kernel_rfl)
theorem fl47_6 : FieldTy Tryd.prog 47 6 6 := FieldTy.of (n := 0) Tryd.underlying47 rfl rfl (by kernel_rfl)
theorem fl47_7 : FieldTy Tryd.prog 47 7 7 := FieldTy.of (n := 0) Tryd.underlying47 rfl rfl (by kernel_rfl)
theorem r48 : RowTy Tryd.prog 48 8 := RowTy.of Tryd.underlying48 rfl (by kernel_rfl)
theorem z48 : ZeroTy Tryd.prog 48 [.int .u8 0, .int .i64 0, .int .i64 0, .int .i64 0, .int .i64 0, .int .i64 0, .bool false, .slice none 0 0] := by unfold ZeroTy; kernel_rfl
theorem fl48_0 : FieldTy Tryd.prog 48 0 0 := FieldTy.of (n := 0) Tryd.underlying48 rfl rfl (by kernel_rfl)
theorem fl48_1 : FieldTy Tryd.prog 48 1 1 := FieldTy.of (n := 0) Tryd.underlying48 rfl rfl (by kernel_rfl)
theorem fl48_2 : FieldTy Tryd.prog 48 2 2 := FieldTy.of (n := 0) Tryd.underlying48 rfl rfl (by kernel_rfl)
theorem fl48_3 : FieldTy Tryd.prog 48 3 3 := FieldTy.of (n := 0) Tryd.underlying48 rfl rfl (by kernel_rfl)
theorem fl48_4 : FieldTy Tryd.prog 48 4 4 := FieldTy.of (n := 0) Tryd.underlying48 rfl rfl (by kernel_rfl)
theorem fl48_5 : FieldTy Tryd.prog 48 5 5 := FieldTy.of (n := 0) Tryd.underlying48 rfl rfl (by kernel_rfl)
theorem fl48_6 : FieldTy Tryd.prog 48 6 6 := FieldTy.of (n := 0) Tryd.underlying48 rfl rfl (by kernel_rfl)
theorem fl48_7 : FieldTy Tryd.prog 48 7 7 := FieldTy.of (n := 0) Tryd.underlying48 rfl rfl (by kernel_rfl)
theorem c49 : CellTy Tryd.prog 49 := CellTy.of Tryd.underlying49 rfl (by kernel_rfl)
theorem c50 : CellTy Tryd.prog 50 := CellTy.of Tryd.underlying50 rfl (by kernel_rfl)
theorem z50 : ZeroTy Tryd.prog 50 [.slice none 0 0] := by unfold ZeroTy; kernel_rfl
theorem s50 : SliceTy Tryd.prog 50 77 2 16 [.int .i64 0, .int .i64 0] := SliceTy.of (z := .agg #[.int .i64 0, .int .i64 0]) Tryd.underlying50 (by kernel_rfl) rfl rfl rfl rfl
theorem c51 : CellTy Tryd.prog 51 := CellTy.of Tryd.underlying51 rfl (by kernel_rfl)
theorem z51 : ZeroTy Tryd.prog 51 [.slice none 0 0] := by unfold ZeroTy; kernel_rfl
theorem s51 : SliceTy Tryd.prog 51 5 1 1 [.int .u8 0] := SliceTy.of (z := .int .u8 0) Tryd.underlying51 (by kernel_rfl) rfl rfl rfl rfl
theorem r52 : RowTy Tryd.prog 52 8 := RowTy.of Tryd.underlying52 rfl (by kernel_rfl)
theorem z52 : ZeroTy Tryd.prog 52 [.slice none 0 0, .slice none 0 0, .slice none 0 0, .slice none 0 0, .int .i64 0, .int .u8 0, .int .u8 0, .slice none 0 0] := by unfold ZeroTy; kernel_rfl
theorem fl52_0 : FieldTy Tryd.prog 52 0 0 := FieldTy.of (n := 0) Tryd.underlying52 rfl rfl (by kernel_rfl)
theorem fl52_1 : FieldTy Tryd.prog 52 1 1 := FieldTy.of (n := 0) Tryd.underlying52 rfl rfl (by kernel_rfl)
theorem fl52_2 : FieldTy Tryd.prog 52 2 2 := FieldTy.of (n := 0) Tryd.underlying52 rfl rfl (by kernel_rfl)
theorem fl52_3 : FieldTy Tryd.prog 52 3 3 := FieldTy.of (n := 0) Tryd.underlying52 rfl rfl (by kernel_rfl)
theorem fl52_4 : FieldTy Tryd.prog 52 4 4 := FieldTy.of (n := 0) Tryd.underlying52 rfl rfl (by kernel_rfl)
theorem fl52_5 : FieldTy Tryd.prog 52 5 5 := FieldTy.of (n := 0) Tryd.underlying52 rfl rfl (by kernel_rfl)
theorem fl52_6 : FieldTy Tryd.prog 52 6 6 := FieldTy.of (n := 0) Tryd.underlying52 rfl rfl (by kernel_rfl)
theorem fl52_7 : FieldTy Tryd.prog 52 7 7 := FieldTy.of (n := 0) Tryd.underlying52 rfl rfl (by kernel_rfl)
theorem r53 : RowTy Tryd.prog 53 8 := RowTy.of Tryd.underlying53 rfl (by kernel_rfl)
theorem z53 : ZeroTy Tryd.prog 53 [.slice none 0 0, .slice none 0 0, .slice none 0 0, .slice none 0 0, .int .i64 0, .int .u8 0, .int .u8 0, .slice none 0 0] := by unfold ZeroTy; kernel_rfl
theorem fl53_0 : FieldTy Tryd.prog 53 0 0 := FieldTy.of (n := 0) Tryd.underlying53 rfl rfl (by kernel_rfl)
theorem fl53_1 : FieldTy Tryd.prog 53 1 1 := FieldTy.of (n := 0) Tryd.underlying53 rfl rfl (by kernel_rfl)
theorem fl53_2 : FieldTy Tryd.prog 53 2 2 := FieldTy.of (n := 0) Tryd.underlying53 rfl rfl (by kernel_rfl)
theorem fl53_3 : FieldTy Tryd.prog 53 3 3 := FieldTy.of (n := 0) Tryd.underlying53 rfl rfl (by kernel_rfl)
theorem fl53_4 : FieldTy Tryd.prog 53 4 4 := FieldTy.of (n := 0) Tryd.underlying53 rfl rfl (by kernel_rfl)
theorem fl53_5 : FieldTy Tryd.prog 53 5 5 := FieldTy.of (n := 0) Tryd.underlying53 rfl rfl (by kernel_rfl)
theorem fl53_6 : FieldTy Tryd.prog 53 6 6 := FieldTy.of (n := 0) Tryd.underlying53 rfl rfl (by kernel_rfl)
theorem fl53_7 : FieldTy Tryd.prog 53 7 7 := FieldTy.of (n := 0) Tryd.underlying53 rfl rfl (by kernel_rfl)
theorem c54 : CellTy Tryd.prog 54 := CellTy.of Tryd.underlying54 rfl (by kernel_rfl)
theorem z54 : ZeroTy Tryd.prog 54 [.slice none 0 0] := by unfold ZeroTy; kernel_rfl
theorem s54 : SliceTy Tryd.prog 54 55 1 24 [.slice none 0 0] := SliceTy.of (z := .slice none 0 0) Tryd.underlying54 (by kernel_rfl) rfl rfl rfl rfl
theorem c55 : CellTy Tryd.prog 55 := CellTy.of Tryd.underlying55 rfl (by kernel_rfl)
theorem z55 : ZeroTy Tryd.prog 55 [.slice none 0 0] := by unfold ZeroTy; kernel_rfl
theorem s55 : SliceTy Tryd.prog 55 77 2 16 [.int .i64 0, .int .i64 0] := SliceTy.of (z := .agg #[.int .i64 0, .int .i64 0]) Tryd.underlying55 (by kernel_rfl) rfl rfl rfl rfl
theorem r56 : RowTy Tryd.prog 56 3 := RowTy.of Tryd.underlying56 rfl (by kernel_rfl)
theorem z56 : ZeroTy Tryd.prog 56 [.slice none 0 0, .slice none 0 0, .slice none 0 0] := by unfold ZeroTy; kernel_rfl
theorem fl56_0 : FieldTy Tryd.prog 56 0 0 := FieldTy.of (n := 0) Tryd.underlying56 rfl rfl (by kernel_rfl)
theorem fl56_1 : FieldTy Tryd.prog 56 1 1 := FieldTy.of (n := 0) Tryd.underlying56 rfl rfl (by kernel_rfl)
theorem fl56_2 : FieldTy Tryd.prog 56 2 2 := FieldTy.of (n := 0) Tryd.underlying56 rfl rfl (by kernel_rfl)
theorem r57 : RowTy Tryd.prog 57 3 := RowTy.of Tryd.underlying57 rfl (by kernel_rfl)
theorem z57 : ZeroTy Tryd.prog 57 [.slice none 0 0, .slice none 0 0, .slice none 0 0] := by unfold ZeroTy; kernel_rfl
theorem fl57_0 : FieldTy Tryd.prog 57 0 0 := FieldTy.of (n := 0) Tryd.underlying57 rfl rfl (by kernel_rfl)
theorem fl57_1 : FieldTy Tryd.prog 57 1 1 := FieldTy.of (n := 0) Tryd.underlying57 rfl rfl (by kernel_rfl)
theorem fl57_2 : FieldTy Tryd.prog 57 2 2 := FieldTy.of (n := 0) Tryd.underlying57 rfl rfl (by kernel_rfl)
theorem r58 : RowTy Tryd.prog 58 5 := RowTy.of Tryd.underlying58 rfl (by kernel_rfl)
theorem z58 : ZeroTy Tryd.prog 58 [.slice none 0 0, .int .i64 0, .slice none 0 0, .int .i64 0, .slice none 0 0] := by unfold ZeroTy; kernel_rfl
theorem fl58_0 : FieldTy Tryd.prog 58 0 0 := FieldTy.of (n := 0) Tryd.underlying58 rfl rfl (by kernel_rfl)
theorem fl58_1 : FieldTy Tryd.prog 58 1 1 := FieldTy.of (n := 0) Tryd.underlying58 rfl rfl (by kernel_rfl)
theorem fl58_2 : FieldTy Tryd.prog 58 2 2 := FieldTy.of (n := 0) Tryd.underlying58 rfl rfl (by kernel_rfl)
theorem fl58_3 : FieldTy Tryd.prog 58 3 3 := FieldTy.of (n := 0) Tryd.underlying58 rfl rfl (by kernel_rfl)
theorem fl58_4 : FieldTy Tryd.prog 58 4 4 := FieldTy.of (n := 0) Tryd.underlying58 rfl rfl (by kernel_rfl)
theorem c60 : CellTy Tryd.prog 60 := CellTy.of Tryd.underlying60 rfl (by kernel_rfl)
theorem c61 : CellTy Tryd.prog 61 := CellTy.of Tryd.underlying61 rfl (by kernel_rfl)
theorem c62 : CellTy Tryd.prog 62 := CellTy.of Tryd.underlying62 rfl (by kernel_rfl)
theorem c63 : CellTy Tryd.prog 63 := CellTy.of Tryd.underlying63 rfl (by kernel_rfl)
theorem c64 : CellTy Tryd.prog 64 := CellTy.of Tryd.underlying64 rfl (by kernel_rfl)
theorem c65 : CellTy Tryd.prog 65 := CellTy.of Tryd.underlying65 rfl (by kernel_rfl)
theorem c66 : CellTy Tryd.prog 66 := CellTy.of Tryd.underlying66 rfl (by kernel_rfl)
theorem c67 : CellTy Tryd.prog 67 := CellTy.of Tryd.underlying67 rfl (by kernel_rfl)
theorem z67 : ZeroTy Tryd.prog 67 [.pointer none] := by unfold ZeroTy; kernel_rfl
theorem r68 : RowTy Tryd.prog 68 16 := RowTy.of Tryd.underlying68 rfl (by kernel_rfl)
theorem z68 : ZeroTy Tryd.prog 68 [.slice none 0 0, .slice none 0 0, .slice none 0 0, .slice none 0 0, .int .i64 0, .slice none 0 0, .slice none 0 0, .int .i64 0, .slice none 0 0, .int .i64 0, .slice none 0 0, .slice none 0 0, .int .i64 0, .int .i64 0, .int .i64 0, .bool false] := by unfold ZeroTy; kernel_rfl
theorem fl68_0 : FieldTy Tryd.prog 68 0 0 := FieldTy.of (n := 4) Tryd.underlying68 rfl rfl (by kernel_rfl)
theorem fl68_1 : FieldTy Tryd.prog 68 1 5 := FieldTy.of (n := 0) Tryd.underlying68 rfl rfl (by kernel_rfl)
theorem fl68_2 : FieldTy Tryd.prog 68 2 6 := FieldTy.of (n := 4) Tryd.underlying68 rfl rfl (by kernel_rfl)
theorem fl68_3 : FieldTy Tryd.prog 68 3 11 := FieldTy.of (n := 0) Tryd.underlying68 rfl rfl (by kernel_rfl)
theorem fl68_4 : FieldTy Tryd.prog 68 4 12 := FieldTy.of (n := 0) Tryd.underlying68 rfl rfl (by kernel_rfl)
theorem fl68_5 : FieldTy Tryd.prog 68 5 13 := FieldTy.of (n := 0) Tryd.underlying68 rfl rfl (by kernel_rfl)
theorem fl68_6 : FieldTy Tryd.prog 68 6 14 := FieldTy.of (n := 0) Tryd.underlying68 rfl rfl (by kernel_rfl)
theorem fl68_7 : FieldTy Tryd.prog 68 7 15 := FieldTy.of (n := 0) Tryd.underlying68 rfl rfl (by kernel_rfl)
theorem r69 : RowTy Tryd.prog 69 16 := RowTy.of Tryd.underlying69 rfl (by kernel_rfl)
theorem z69 : ZeroTy Tryd.prog 69 [.slice none 0 0, .slice none 0 0, .slice none 0 0, .slice none 0 0, .int .i64 0, .slice none 0 0, .slice none 0 0, .int .i64 0, .slice none 0 0, .int .i64 0, .slice none 0 0, .slice none 0 0, .int .i64 0, .int .i64 0, .int .i64 0, .bool false] := by unfold ZeroTy; kernel_rfl
theorem fl69_0 : FieldTy Tryd.prog 69 0 0 := FieldTy.of (n := 4) Tryd.underlying69 rfl rfl (by kernel_rfl)
theorem fl69_1 : FieldTy Tryd.prog 69 1 5 := FieldTy.of (n := 0) Tryd.underlying69 rfl rfl (by kernel_rfl)
theorem fl69_2 : FieldTy Tryd.prog 69 2 6 := FieldTy.of (n := 4) Tryd.underlying69 rfl rfl (by kernel_rfl)
theorem fl69_3 : FieldTy Tryd.prog 69 3 11 := FieldTy.of (n := 0) Tryd.underlying69 rfl rfl (by kernel_rfl)
theorem fl69_4 : FieldTy Tryd.prog 69 4 12 := FieldTy.of (n := 0) Tryd.underlying69 rfl rfl (by kernel_rfl)
theorem fl69_5 : FieldTy Tryd.prog 69 5 13 := FieldTy.of (n := 0) Tryd.underlying69 rfl rfl (by kernel_rfl)
theorem fl69_6 : FieldTy Tryd.prog 69 6 14 := FieldTy.of (n := 0) Tryd.underlying69 rfl rfl (by kernel_rfl)
theorem fl69_7 : FieldTy Tryd.prog 69 7 15 := FieldTy.of (n := 0) Tryd.underlying69 rfl rfl (by kernel_rfl)
theorem c70 : CellTy Tryd.prog 70 := CellTy.of Tryd.underlying70 rfl (by kernel_rfl)
theorem c71 : CellTy Tryd.prog 71 := CellTy.of Tryd.underlying71 rfl (by kernel_rfl)
theorem c72 : CellTy Tryd.prog 72 := CellTy.of Tryd.underlying72 rfl (by kernel_rfl)
theorem c73 : CellTy Tryd.prog 73 := CellTy.of Tryd.underlying73 rfl (by kernel_rfl)
theorem c74 : CellTy Tryd.prog 74 := CellTy.of Tryd.underlying74 rfl (by kernel_rfl)
theorem c75 : CellTy Tryd.prog 75 := CellTy.of Tryd.underlying75 rfl (by kernel_rfl)
theorem c76 : CellTy Tryd.prog 76 := CellTy.of Tryd.underlying76 rfl (by kernel_rfl)
theorem r77 : RowTy Tryd.prog 77 2 := RowTy.of Tryd.underlying77 rfl (by kernel_rfl)
theorem z77 : ZeroTy Tryd.prog 77 [.int .i64 0, .int .i64 0] := by unfold ZeroTy; kernel_rfl
theorem c78 : CellTy Tryd.prog 78 := CellTy.of Tryd.underlying78 rfl (by kernel_rfl)
theorem c79 : CellTy Tryd.prog 79 := CellTy.of Tryd.underlying79 rfl (by kernel_rfl)
theorem c80 : CellTy Tryd.prog 80 := CellTy.of Tryd.underlying80 rfl (by kernel_rfl)
theorem c81 : CellTy Tryd.prog 81 := CellTy.of Tryd.underlying81 rfl (by kernel_rfl)
theorem c83 : CellTy Tryd.prog 83 := CellTy.of Tryd.underlying83 rfl (by kernel_rfl)
theorem c84 : CellTy Tryd.prog 84 := CellTy.of Tryd.underlying84 rfl (by kernel_rfl)
theorem c85 : CellTy Tryd.prog 85 := CellTy.of Tryd.underlying85 rfl (by kernel_rfl)
theorem c86 : CellTy Tryd.prog 86 := CellTy.of Tryd.underlying86 rfl (by kernel_rfl)
theorem z86 : ZeroTy Tryd.prog 86 [.int .u64 0] := by unfold ZeroTy; kernel_rfl
theorem c87 : CellTy Tryd.prog 87 := CellTy.of Tryd.underlying87 rfl (by kernel_rfl)
theorem r88 : RowTy Tryd.prog 88 2 := RowTy.of Tryd.underlying88 rfl (by kernel_rfl)
theorem z88 : ZeroTy Tryd.prog 88 [.int .i64 0, .int .i64 0] := by unfold ZeroTy; kernel_rfl
theorem fl88_0 : FieldTy Tryd.prog 88 0 0 := FieldTy.of (n := 0) Tryd.underlying88 rfl rfl (by kernel_rfl)
theorem fl88_1 : FieldTy Tryd.prog 88 1 1 := FieldTy.of (n := 0) Tryd.underlying88 rfl rfl (by kernel_rfl)
theorem r89 : RowTy Tryd.prog 89 2 := RowTy.of Tryd.underlying89 rfl (by kernel_rfl)
theorem z89 : ZeroTy Tryd.prog 89 [.int .i64 0, .int .i64 0] := by unfold ZeroTy; kernel_rfl
theorem fl89_0 : FieldTy Tryd.prog 89 0 0 := FieldTy.of (n := 0) Tryd.underlying89 rfl rfl (by kernel_rfl)
theorem fl89_1 : FieldTy Tryd.prog 89 1 1 := FieldTy.of (n := 0) Tryd.underlying89 rfl rfl (by kernel_rfl)
theorem c90 : CellTy Tryd.prog 90 := CellTy.of Tryd.underlying90 rfl (by kernel_rfl)
theorem c91 : CellTy Tryd.prog 91 := CellTy.of Tryd.underlying91 rfl (by kernel_rfl)
theorem c92 : CellTy Tryd.prog 92 := CellTy.of Tryd.underlying92 rfl (by kernel_rfl)
theorem c93 : CellTy Tryd.prog 93 := CellTy.of Tryd.underlying93 rfl (by kernel_rfl)
theorem c94 : CellTy Tryd.prog 94 := CellTy.of Tryd.underlying94 rfl (by kernel_rfl)
theorem c95 : CellTy Tryd.prog 95 := CellTy.of Tryd.underlying95 rfl (by kernel_rfl)
theorem c96 : CellTy Tryd.prog 96 := CellTy.of Tryd.underlying96 rfl (by kernel_rfl)
theorem c97 : CellTy Tryd.prog 97 := CellTy.of Tryd.underlying97 rfl (by kernel_rfl)
theorem r98 : RowTy Tryd.prog 98 4 := RowTy.of Tryd.underlying98 rfl (by kernel_rfl)
theorem z98 : ZeroTy Tryd.prog 98 [.string ByteArray.empty, .string ByteArray.empty, .int .i64 0, .int .i64 0] := by unfold ZeroTy; kernel_rfl
theorem fl98_0 : FieldTy Tryd.prog 98 0 0 := FieldTy.of (n := 0) Tryd.underlying98 rfl rfl (by kernel_rfl)
theorem fl98_1 : FieldTy Tryd.prog 98 1 1 := FieldTy.of (n := 0) Tryd.underlying98 rfl rfl (by kernel_rfl)
theorem fl98_2 : FieldTy Tryd.prog 98 2 2 := FieldTy.of (n := 0) Tryd.underlying98 rfl rfl (by kernel_rfl)
theorem fl98_3 : FieldTy Tryd.prog 98 3 3 := FieldTy.of (n := 0) Tryd.underlying98 rfl rfl (by kernel_rfl)
theorem r99 : RowTy Tryd.prog 99 4 := RowTy.of Tryd.underlying99 rfl (by kernel_rfl)
theorem z99 : ZeroTy Tryd.prog 99 [.string ByteArray.empty, .string ByteArray.empty, .int .i64 0, .int .i64 0] := by unfold ZeroTy; kernel_rfl
theorem fl99_0 : FieldTy Tryd.prog 99 0 0 := FieldTy.of (n := 0) Tryd.underlying99 rfl rfl (by kernel_rfl)
theorem fl99_1 : FieldTy Tryd.prog 99 1 1 := FieldTy.of (n := 0) Tryd.underlying99 rfl rfl (by kernel_rfl)
theorem fl99_2 : FieldTy Tryd.prog 99 2 2 := FieldTy.of (n := 0) Tryd.underlying99 rfl rfl (by kernel_rfl)
theorem fl99_3 : FieldTy Tryd.prog 99 3 3 := FieldTy.of (n := 0) Tryd.underlying99 rfl rfl (by kernel_rfl)
theorem c100 : CellTy Tryd.prog 100 := CellTy.of Tryd.underlying100 rfl (by kernel_rfl)
theorem c101 : CellTy Tryd.prog 101 := CellTy.of Tryd.underlying101 rfl (by kernel_rfl)
theorem c102 : CellTy Tryd.prog 102 := CellTy.of Tryd.underlying102 rfl (by kernel_rfl)
theorem z102 : ZeroTy Tryd.prog 102 [.int .i64 0] := by unfold ZeroTy; kernel_rfl
theorem c104 : CellTy Tryd.prog 104 := CellTy.of Tryd.underlying104 rfl (by kernel_rfl)
theorem c105 : CellTy Tryd.prog 105 := CellTy.of Tryd.underlying105 rfl (by kernel_rfl)
theorem c106 : CellTy Tryd.prog 106 := CellTy.of Tryd.underlying106 rfl (by kernel_rfl)
theorem c107 : CellTy Tryd.prog 107 := CellTy.of Tryd.underlying107 rfl (by kernel_rfl)
theorem c108 : CellTy Tryd.prog 108 := CellTy.of Tryd.underlying108 rfl (by kernel_rfl)
theorem c109 : CellTy Tryd.prog 109 := CellTy.of Tryd.underlying109 rfl (by kernel_rfl)
theorem z109 : ZeroTy Tryd.prog 109 [.int .u32 0] := by unfold ZeroTy; kernel_rfl
theorem c110 : CellTy Tryd.prog 110 := CellTy.of Tryd.underlying110 rfl (by kernel_rfl)
theorem c111 : CellTy Tryd.prog 111 := CellTy.of Tryd.underlying111 rfl (by kernel_rfl)
theorem z111 : ZeroTy Tryd.prog 111 [.int .u64 0] := by unfold ZeroTy; kernel_rfl
theorem c112 : CellTy Tryd.prog 112 := CellTy.of Tryd.underlying112 rfl (by kernel_rfl)
theorem c113 : CellTy Tryd.prog 113 := CellTy.of Tryd.underlying113 rfl (by kernel_rfl)
theorem c115 : CellTy Tryd.prog 115 := CellTy.of Tryd.underlying115 rfl (by kernel_rfl)
theorem c116 : CellTy Tryd.prog 116 := CellTy.of Tryd.underlying116 rfl (by kernel_rfl)
theorem z116 : ZeroTy Tryd.prog 116 [.int .u8 0] := by unfold ZeroTy; kernel_rfl
theorem c117 : CellTy Tryd.prog 117 := CellTy.of Tryd.underlying117 rfl (by kernel_rfl)
theorem c118 : CellTy Tryd.prog 118 := CellTy.of Tryd.underlying118 rfl (by kernel_rfl)
theorem c119 : CellTy Tryd.prog 119 := CellTy.of Tryd.underlying119 rfl (by kernel_rfl)
theorem z119 : ZeroTy Tryd.prog 119 [.pointer none] := by unfold ZeroTy; kernel_rfl
theorem c120 : CellTy Tryd.prog 120 := CellTy.of Tryd.underlying120 rfl (by kernel_rfl)
theorem c121 : CellTy Tryd.prog 121 := CellTy.of Tryd.underlying121 rfl (by kernel_rfl)
theorem c122 : CellTy Tryd.prog 122 := CellTy.of Tryd.underlying122 rfl (by kernel_rfl)
theorem c123 : CellTy Tryd.prog 123 := CellTy.of Tryd.underlying123 rfl (by kernel_rfl)
theorem c124 : CellTy Tryd.prog 124 := CellTy.of Tryd.underlying124 rfl (by kernel_rfl)
theorem c126 : CellTy Tryd.prog 126 := CellTy.of Tryd.underlying126 rfl (by kernel_rfl)
theorem z126 : ZeroTy Tryd.prog 126 [.int .u64 0] := by unfold ZeroTy; kernel_rfl
theorem c127 : CellTy Tryd.prog 127 := CellTy.of Tryd.underlying127 rfl (by kernel_rfl)
theorem c128 : CellTy Tryd.prog 128 := CellTy.of Tryd.underlying128 rfl (by kernel_rfl)
theorem c129 : CellTy Tryd.prog 129 := CellTy.of Tryd.underlying129 rfl (by kernel_rfl)
theorem c130 : CellTy Tryd.prog 130 := CellTy.of Tryd.underlying130 rfl (by kernel_rfl)
theorem z130 : ZeroTy Tryd.prog 130 [.pointer none] := by unfold ZeroTy; kernel_rfl
theorem c131 : CellTy Tryd.prog 131 := CellTy.of Tryd.underlying131 rfl (by kernel_rfl)
theorem c132 : CellTy Tryd.prog 132 := CellTy.of Tryd.underlying132 rfl (by kernel_rfl)
theorem c133 : CellTy Tryd.prog 133 := CellTy.of Tryd.underlying133 rfl (by kernel_rfl)
theorem c134 : CellTy Tryd.prog 134 := CellTy.of Tryd.underlying134 rfl (by kernel_rfl)
theorem c136 : CellTy Tryd.prog 136 := CellTy.of Tryd.underlying136 rfl (by kernel_rfl)
theorem c137 : CellTy Tryd.prog 137 := CellTy.of Tryd.underlying137 rfl (by kernel_rfl)
theorem c138 : CellTy Tryd.prog 138 := CellTy.of Tryd.underlying138 rfl (by kernel_rfl)
theorem c139 : CellTy Tryd.prog 139 := CellTy.of Tryd.underlying139 rfl (by kernel_rfl)
theorem c140 : CellTy Tryd.prog 140 := CellTy.of Tryd.underlying140 rfl (by kernel_rfl)
theorem c141 : CellTy Tryd.prog 141 := CellTy.of Tryd.underlying141 rfl (by kernel_rfl)
theorem c142 : CellTy Tryd.prog 142 := CellTy.of Tryd.underlying142 rfl (by kernel_rfl)
theorem z142 : ZeroTy Tryd.prog 142 [.pointer none] := by unfold ZeroTy; kernel_rfl
theorem c144 : CellTy Tryd.prog 144 := CellTy.of Tryd.underlying144 rfl (by kernel_rfl)
theorem c145 : CellTy Tryd.prog 145 := CellTy.of Tryd.underlying145 rfl (by kernel_rfl)
theorem c146 : CellTy Tryd.prog 146 := CellTy.of Tryd.underlying146 rfl (by kernel_rfl)
theorem c147 : CellTy Tryd.prog 147 := CellTy.of Tryd.underlying147 rfl (by kernel_rfl)
theorem c148 : CellTy Tryd.prog 148 := CellTy.of Tryd.underlying148 rfl (by kernel_rfl)
theorem c149 : CellTy Tryd.prog 149 := CellTy.of Tryd.underlying149 rfl (by kernel_rfl)
theorem c150 : CellTy Tryd.prog 150 := CellTy.of Tryd.underlying150 rfl (by kernel_rfl)
theorem z150 : ZeroTy Tryd.prog 150 [.slice none 0 0] := by unfold ZeroTy; kernel_rfl
theorem s150 : SliceTy Tryd.prog 150 30 1 24 [.slice none 0 0] := SliceTy.of (z := .slice none 0 0) Tryd.underlying150 (by kernel_rfl) rfl rfl rfl rfl
theorem c151 : CellTy Tryd.prog 151 := CellTy.of Tryd.underlying151 rfl (by kernel_rfl)
theorem c152 : CellTy Tryd.prog 152 := CellTy.of Tryd.underlying152 rfl (by kernel_rfl)
theorem r153 : RowTy Tryd.prog 153 4 := RowTy.of Tryd.underlying153 rfl (by kernel_rfl)
theorem z153 : ZeroTy Tryd.prog 153 [.pointer none, .pointer none, .pointer none, .string ByteArray.empty] := by unfold ZeroTy; kernel_rfl
theorem fl153_0 : FieldTy Tryd.prog 153 0 0 := FieldTy.of (n := 0) Tryd.underlying153 rfl rfl (by kernel_rfl)
theorem fl153_1 : FieldTy Tryd.prog 153 1 1 := FieldTy.of (n := 0) Tryd.underlying153 rfl rfl (by kernel_rfl)
theorem fl153_2 : FieldTy Tryd.prog 153 2 2 := FieldTy.of (n := 0) Tryd.underlying153 rfl rfl (by kernel_rfl)
theorem fl153_3 : FieldTy Tryd.prog 153 3 3 := FieldTy.of (n := 0) Tryd.underlying153 rfl rfl (by kernel_rfl)
theorem r154 : RowTy Tryd.prog 154 4 := RowTy.of Tryd.underlying154 rfl (by kernel_rfl)
theorem z154 : ZeroTy Tryd.prog 154 [.pointer none, .pointer none, .pointer none, .string ByteArray.empty] := by unfold ZeroTy; kernel_rfl
theorem fl154_0 : FieldTy Tryd.prog 154 0 0 := FieldTy.of (n := 0) Tryd.underlying154 rfl rfl (by kernel_rfl)
theorem fl154_1 : FieldTy Tryd.prog 154 1 1 := FieldTy.of (n := 0) Tryd.underlying154 rfl rfl (by kernel_rfl)
theorem fl154_2 : FieldTy Tryd.prog 154 2 2 := FieldTy.of (n := 0) Tryd.underlying154 rfl rfl (by kernel_rfl)
theorem fl154_3 : FieldTy Tryd.prog 154 3 3 := FieldTy.of (n := 0) Tryd.underlying154 rfl rfl (by kernel_rfl)
theorem r155 : RowTy Tryd.prog 155 0 := RowTy.of Tryd.underlying155 rfl (by kernel_rfl)
theorem z155 : ZeroTy Tryd.prog 155 [] := by unfold ZeroTy; kernel_rfl
theorem r156 : RowTy Tryd.prog 156 0 := RowTy.of Tryd.underlying156 rfl (by kernel_rfl)
theorem z156 : ZeroTy Tryd.prog 156 [] := by unfold ZeroTy; kernel_rfl
theorem r157 : RowTy Tryd.prog 157 0 := RowTy.of Tryd.underlying157 rfl (by kernel_rfl)
theorem z157 : ZeroTy Tryd.prog 157 [] := by unfold ZeroTy; kernel_rfl
theorem c158 : CellTy Tryd.prog 158 := CellTy.of Tryd.underlying158 rfl (by kernel_rfl)
theorem z158 : ZeroTy Tryd.prog 158 [.int .u8 0] := by unfold ZeroTy; kernel_rfl
theorem c159 : CellTy Tryd.prog 159 := CellTy.of Tryd.underlying159 rfl (by kernel_rfl)
theorem z159 : ZeroTy Tryd.prog 159 [.int .u8 0] := by unfold ZeroTy; kernel_rfl
theorem c160 : CellTy Tryd.prog 160 := CellTy.of Tryd.underlying160 rfl (by kernel_rfl)
theorem c161 : CellTy Tryd.prog 161 := CellTy.of Tryd.underlying161 rfl (by kernel_rfl)
theorem z161 : ZeroTy Tryd.prog 161 [.pointer none] := by unfold ZeroTy; kernel_rfl
theorem c162 : CellTy Tryd.prog 162 := CellTy.of Tryd.underlying162 rfl (by kernel_rfl)
theorem z162 : ZeroTy Tryd.prog 162 [.int .i32 0] := by unfold ZeroTy; kernel_rfl
theorem c163 : CellTy Tryd.prog 163 := CellTy.of Tryd.underlying163 rfl (by kernel_rfl)
theorem z163 : ZeroTy Tryd.prog 163 [.int .i32 0] := by unfold ZeroTy; kernel_rfl
theorem r164 : RowTy Tryd.prog 164 11 := RowTy.of Tryd.underlying164 rfl (by kernel_rfl)
theorem z164 : ZeroTy Tryd.prog 164 [.int .u64 0, .int .u64 0, .int .u32 0, .int .u8 0, .int .u8 0, .int .u8 0, .int .u8 0, .nilFunc, .pointer none, .int .i32 0, .int .i32 0] := by unfold ZeroTy; kernel_rfl
theorem fl164_0 : FieldTy Tryd.prog 164 0 0 := FieldTy.of (n := 0) Tryd.underlying164 rfl rfl (by kernel_rfl)
theorem fl164_1 : FieldTy Tryd.prog 164 1 1 := FieldTy.of (n := 0) Tryd.underlying164 rfl rfl (by kernel_rfl)
theorem fl164_2 : FieldTy Tryd.prog 164 2 2 := FieldTy.of (n := 0) Tryd.underlying164 rfl rfl (by kernel_rfl)
theorem fl164_3 : FieldTy Tryd.prog 164 3 3 := FieldTy.of (n := 0) Tryd.underlying164 rfl rfl (by kernel_rfl)
theorem fl164_4 : FieldTy Tryd.prog 164 4 4 := FieldTy.of (n := 0) Tryd.underlying164 rfl rfl (by kernel_rfl)
theorem fl164_5 : FieldTy Tryd.prog 164 5 5 := FieldTy.of (n := 0) Tryd.underlying164 rfl rfl (by kernel_rfl)
theorem fl164_6 : FieldTy Tryd.prog 164 6 6 := FieldTy.of (n := 0) Tryd.underlying164 rfl rfl (by kernel_rfl)
theorem fl164_7 : FieldTy Tryd.prog 164 7 7 := FieldTy.of (n := 0) Tryd.underlying164 rfl rfl (by kernel_rfl)
theorem fl164_8 : FieldTy Tryd.prog 164 8 8 := FieldTy.of (n := 0) Tryd.underlying164 rfl rfl (by kernel_rfl)
theorem fl164_9 : FieldTy Tryd.prog 164 9 9 := FieldTy.of (n := 0) Tryd.underlying164 rfl rfl (by kernel_rfl)
theorem fl164_10 : FieldTy Tryd.prog 164 10 10 := FieldTy.of (n := 0) Tryd.underlying164 rfl rfl (by kernel_rfl)
theorem r165 : RowTy Tryd.prog 165 11 := RowTy.of Tryd.underlying165 rfl (by kernel_rfl)
theorem z165 : ZeroTy Tryd.prog 165 [.int .u64 0, .int .u64 0, .int .u32 0, .int .u8 0, .int .u8 0, .int .u8 0, .int .u8 0, .nilFunc, .pointer none, .int .i32 0, .int .i32 0] := by unfold ZeroTy; kernel_rfl
theorem fl165_0 : FieldTy Tryd.prog 165 0 0 := FieldTy.of (n := 0) Tryd.underlying165 rfl rfl (by kernel_rfl)
theorem fl165_1 : FieldTy Tryd.prog 165 1 1 := FieldTy.of (n := 0) Tryd.underlying165 rfl rfl (by kernel_rfl)
theorem fl165_2 : FieldTy Tryd.prog 165 2 2 := FieldTy.of (n := 0) Tryd.underlying165 rfl rfl (by kernel_rfl)
theorem fl165_3 : FieldTy Tryd.prog 165 3 3 := FieldTy.of (n := 0) Tryd.underlying165 rfl rfl (by kernel_rfl)
theorem fl165_4 : FieldTy Tryd.prog 165 4 4 := FieldTy.of (n := 0) Tryd.underlying165 rfl rfl (by kernel_rfl)
theorem fl165_5 : FieldTy Tryd.prog 165 5 5 := FieldTy.of (n := 0) Tryd.underlying165 rfl rfl (by kernel_rfl)
theorem fl165_6 : FieldTy Tryd.prog 165 6 6 := FieldTy.of (n := 0) Tryd.underlying165 rfl rfl (by kernel_rfl)
theorem fl165_7 : FieldTy Tryd.prog 165 7 7 := FieldTy.of (n := 0) Tryd.underlying165 rfl rfl (by kernel_rfl)
theorem fl165_8 : FieldTy Tryd.prog 165 8 8 := FieldTy.of (n := 0) Tryd.underlying165 rfl rfl (by kernel_rfl)
theorem fl165_9 : FieldTy Tryd.prog 165 9 9 := FieldTy.of (n := 0) Tryd.underlying165 rfl rfl (by kernel_rfl)
theorem fl165_10 : FieldTy Tryd.prog 165 10 10 := FieldTy.of (n := 0) Tryd.underlying165 rfl rfl (by kernel_rfl)
theorem c166 : CellTy Tryd.prog 166 := CellTy.of Tryd.underlying166 rfl (by kernel_rfl)
theorem r168 : RowTy Tryd.prog 168 4 := RowTy.of Tryd.underlying168 rfl (by kernel_rfl)
theorem z168 : ZeroTy Tryd.prog 168 [.int .i64 0, .bool false, .int .i64 0, .string ByteArray.empty] := by unfold ZeroTy; kernel_rfl
theorem fl168_0 : FieldTy Tryd.prog 168 0 0 := FieldTy.of (n := 0) Tryd.underlying168 rfl rfl (by kernel_rfl)
theorem fl168_1 : FieldTy Tryd.prog 168 1 1 := FieldTy.of (n := 0) Tryd.underlying168 rfl rfl (by kernel_rfl)
theorem fl168_2 : FieldTy Tryd.prog 168 2 2 := FieldTy.of (n := 0) Tryd.underlying168 rfl rfl (by kernel_rfl)
theorem fl168_3 : FieldTy Tryd.prog 168 3 3 := FieldTy.of (n := 0) Tryd.underlying168 rfl rfl (by kernel_rfl)
theorem r169 : RowTy Tryd.prog 169 4 := RowTy.of Tryd.underlying169 rfl (by kernel_rfl)
theorem z169 : ZeroTy Tryd.prog 169 [.int .i64 0, .bool false, .int .i64 0, .string ByteArray.empty] := by unfold ZeroTy; kernel_rfl
theorem fl169_0 : FieldTy Tryd.prog 169 0 0 := FieldTy.of (n := 0) Tryd.underlying169 rfl rfl (by kernel_rfl)
theorem fl169_1 : FieldTy Tryd.prog 169 1 1 := FieldTy.of (n := 0) Tryd.underlying169 rfl rfl (by kernel_rfl)
theorem fl169_2 : FieldTy Tryd.prog 169 2 2 := FieldTy.of (n := 0) Tryd.underlying169 rfl rfl (by kernel_rfl)
theorem fl169_3 : FieldTy Tryd.prog 169 3 3 := FieldTy.of (n := 0) Tryd.underlying169 rfl rfl (by kernel_rfl)
theorem ca2 : callable Tryd.prog 2 = true := by kernel_rfl
theorem ca3 : callable Tryd.prog 3 = true := by kernel_rfl
theorem ca4 : callable Tryd.prog 4 = true := by kernel_rfl
theorem ca5 : callable Tryd.prog 5 = true := by kernel_rfl
theorem ca6 : callable Tryd.prog 6 = true := by kernel_rfl
theorem ca7 : callable Tryd.prog 7 = true := by kernel_rfl
theorem ca8 : callable Tryd.prog 8 = true := by kernel_rfl
theorem ca9 : callable Tryd.prog 9 = true := by kernel_rfl
theorem ca10 : callable Tryd.prog 10 = true := by kernel_rfl
theorem ca11 : callable Tryd.prog 11 = true := by kernel_rfl
theorem ca12 : callable Tryd.prog 12 = true := by kernel_rfl
theorem ca13 : callable Tryd.prog 13 = true := by kernel_rfl
theorem ca14 : callable Tryd.prog 14 = true := by kernel_rfl
theorem ca15 : callable Tryd.prog 15 = true := by kernel_rfl
theorem ca16 : callable Tryd.prog 16 = true := by kernel_rfl
theorem ca17 : callable Tryd.prog 17 = true := by kernel_rfl
theorem ca18 : callable Tryd.prog 18 = true := by kernel_rfl
theorem ca19 : callable Tryd.prog 19 = true := by kernel_rfl
theorem ca20 : callable Tryd.prog 20 = true := by kernel_rfl
theorem ca21 : callable Tryd.prog 21 = true := by kernel_rfl
theorem ca22 : callable Tryd.prog 22 = true := by kernel_rfl
theorem ca23 : callable Tryd.prog 23 = true := by kernel_rfl
theorem ca24 : callable Tryd.prog 24 = true := by kernel_rfl
theorem ca25 : callable Tryd.prog 25 = true := by kernel_rfl
theorem ca26 : callable Tryd.prog 26 = true := by kernel_rfl
theorem ca27 : callable Tryd.prog 27 = true := by kernel_rfl
theorem ca28 : callable Tryd.prog 28 = true := by kernel_rfl
theorem ca29 : callable Tryd.prog 29 = true := by kernel_rfl
theorem ca30 : callable Tryd.prog 30 = true := by kernel_rfl
theorem ca31 : callable Tryd.prog 31 = true := by kernel_rfl
theorem ca32 : callable Tryd.prog 32 = true := by kernel_rfl
theorem ca33 : callable Tryd.prog 33 = true := by kernel_rfl
theorem ca34 : callable Tryd.prog 34 = true := by kernel_rfl
theorem ca35 : callable Tryd.prog 35 = true := by kernel_rfl
theorem ca36 : callable Tryd.prog 36 = true := by kernel_rfl
theorem ca37 : callable Tryd.prog 37 = true := by kernel_rfl
theorem ca38 : callable Tryd.prog 38 = true := by kernel_rfl
theorem ca39 : callable Tryd.prog 39 = true := by kernel_rfl
theorem ca40 : callable Tryd.prog 40 = true := by kernel_rfl
theorem ca41 : callable Tryd.prog 41 = true := by kernel_rfl
theorem ca42 : callable Tryd.prog 42 = true := by kernel_rfl
theorem ca43 : callable Tryd.prog 43 = true := by kernel_rfl
theorem ca44 : callable Tryd.prog 44 = true := by kernel_rfl
theorem ca45 : callable Tryd.prog 45 = true := by kernel_rfl
theorem ca46 : callable Tryd.prog 46 = true := by kernel_rfl
theorem ca47 : callable Tryd.prog 47 = true := by kernel_rfl
theorem ca48 : callable Tryd.prog 48 = true := by kernel_rfl
theorem ca49 : callable Tryd.prog 49 = true := by kernel_rfl
theorem ca50 : callable Tryd.prog 50 = true := by kernel_rfl
theorem ca51 : callable Tryd.prog 51 = true := by kernel_rfl
theorem ca52 : callable Tryd.prog 52 = true := by kernel_rfl
theorem ca53 : callable Tryd.prog 53 = true := by kernel_rfl
theorem ca54 : callable Tryd.prog 54 = true := by kernel_rfl
theorem ca55 : callable Tryd.prog 55 = true := by kernel_rfl
theorem ca56 : callable Tryd.prog 56 = true := by kernel_rfl
theorem ca57 : callable Tryd.prog 57 = true := by kernel_rfl
theorem ca58 : callable Tryd.prog 58 = true := by kernel_rfl
theorem ca59 : callable Tryd.prog 59 = true := by kernel_rfl
theorem ca60 : callable Tryd.prog 60 = true := by kernel_rfl
theorem ca61 : callable Tryd.prog 61 = true := by kernel_rfl
theorem ca62 : callable Tryd.prog 62 = true := by kernel_rfl
theorem ca63 : callable Tryd.prog 63 = true := by kernel_rfl
theorem ca64 : callable Tryd.prog 64 = true := by kernel_rfl
theorem ca65 : callable Tryd.prog 65 = true := by kernel_rfl
theorem ca66 : callable Tryd.prog 66 = true := by kernel_rfl
theorem ca67 : callable Tryd.prog 67 = true := by kernel_rfl
theorem ca68 : callable Tryd.prog 68 = true := by kernel_rfl
theorem ca69 : callable Tryd.prog 69 = true := by kernel_rfl
theorem ca70 : callable Tryd.prog 70 = true := by kernel_rfl
theorem ca71 : callable Tryd.prog 71 = true := by kernel_rfl
theorem ca72 : callable Tryd.prog 72 = true := by kernel_rfl
theorem ca73 : callable Tryd.prog 73 = true := by kernel_rfl
theorem ca74 : callable Tryd.prog 74 = true := by kernel_rfl
theorem ca75 : callable Tryd.prog 75 = true := by kernel_rfl
theorem ca76 : callable Tryd.prog 76 = true := by kernel_rfl
theorem ca77 : callable Tryd.prog 77 = true := by kernel_rfl
theorem ca78 : callable Tryd.prog 78 = true := by kernel_rfl
theorem ca79 : callable Tryd.prog 79 = true := by kernel_rfl
theorem ca80 : callable Tryd.prog 80 = true := by kernel_rfl
theorem ca81 : callable Tryd.prog 81 = true := by kernel_rfl
theorem ca82 : callable Tryd.prog 82 = true := by kernel_rfl
theorem ca84 : callable Tryd.prog 84 = true := by kernel_rfl
theorem ca85 : callable Tryd.prog 85 = true := by kernel_rfl
theorem ca86 : callable Tryd.prog 86 = true := by kernel_rfl
theorem ca87 : callable Tryd.prog 87 = true := by kernel_rfl
theorem ca109 : callable Tryd.prog 109 = true := by kernel_rfl
theorem mixed : Tryd.prog.follows .mixedOrders = true := by kernel_rfl
end Go.Proofs.YtoehnbacbobhiaaDoor
