/- The table of types of this seat, in the words of the logic; printed by sx.py. -/
import Derived.Test.YtoehnbacbobhiaaGreatDoorL1
import Derived.Test.YtoehnbacbobhiaaGreatDoorProg
set_option linter.unusedVariables false
set_option linter.unusedSimpArgs false
namespace Go.Proofs.YtoehnbacbobhiaaGreatDoor
open Go.Sep
theorem c1 : CellTy Tryz.prog 1 := CellTy.of Tryz.underlying1 rfl (by kernel_rfl)
theorem c2 : CellTy Tryz.prog 2 := CellTy.of Tryz.underlying2 rfl (by kernel_rfl)
theorem z2 : ZeroTy Tryz.prog 2 [.int .i64 0] := by unfold ZeroTy; kernel_rfl
theorem c3 : CellTy Tryz.prog 3 := CellTy.of Tryz.underlying3 rfl (by kernel_rfl)
theorem z3 : ZeroTy Tryz.prog 3 [.int .i64 0] := by unfold ZeroTy; kernel_rfl
theorem c4 : CellTy Tryz.prog 4 := CellTy.of Tryz.underlying4 rfl (by kernel_rfl)
theorem z4 : ZeroTy Tryz.prog 4 [.bool false] := by unfold ZeroTy; kernel_rfl
theorem c5 : CellTy Tryz.prog 5 := CellTy.of Tryz.underlying5 rfl (by kernel_rfl)
theorem c6 : CellTy Tryz.prog 6 := CellTy.of Tryz.underlying6 rfl (by kernel_rfl)
theorem r7 : RowTy Tryz.prog 7 4 := RowTy.of Tryz.underlying7 rfl (by kernel_rfl)
theorem c9 : CellTy Tryz.prog 9 := CellTy.of Tryz.underlying9 rfl (by kernel_rfl)
theorem c10 : CellTy Tryz.prog 10 := CellTy.of Tryz.underlying10 rfl (by kernel_rfl)
theorem c11 : CellTy Tryz.prog 11 := CellTy.of Tryz.underlying11 rfl (by kernel_rfl)
theorem c12 : CellTy Tryz.prog 12 := CellTy.of Tryz.underlying12 rfl (by kernel_rfl)
theorem c15 : CellTy Tryz.prog 15 := CellTy.of Tryz.underlying15 rfl (by kernel_rfl)
theorem c16 : CellTy Tryz.prog 16 := CellTy.of Tryz.underlying16 rfl (by kernel_rfl)
theorem c17 : CellTy Tryz.prog 17 := CellTy.of Tryz.underlying17 rfl (by kernel_rfl)
theorem c20 : CellTy Tryz.prog 20 := CellTy.of Tryz.underlying20 rfl (by kernel_rfl)
theorem c21 : CellTy Tryz.prog 21 := CellTy.of Tryz.underlying21 rfl (by kernel_rfl)
theorem c22 : CellTy Tryz.prog 22 := CellTy.of Tryz.underlying22 rfl (by kernel_rfl)
theorem s22 : SliceTy Tryz.prog 22 33 4 32 [.int .u8 0, .int .i64 0, .int .i64 0, .int .i64 0] := SliceTy.of (z := .agg #[.int .u8 0, .int .i64 0, .int .i64 0, .int .i64 0]) Tryz.underlying22 (by kernel_rfl) rfl rfl rfl rfl
theorem r23 : RowTy Tryz.prog 23 4 := RowTy.of Tryz.underlying23 rfl (by kernel_rfl)
theorem c24 : CellTy Tryz.prog 24 := CellTy.of Tryz.underlying24 rfl (by kernel_rfl)
theorem s24 : SliceTy Tryz.prog 24 2 1 8 [.int .i64 0] := SliceTy.of (z := .int .i64 0) Tryz.underlying24 (by kernel_rfl) rfl rfl rfl rfl
theorem c25 : CellTy Tryz.prog 25 := CellTy.of Tryz.underlying25 rfl (by kernel_rfl)
theorem s25 : SliceTy Tryz.prog 25 108 2 16 [.int .i64 0, .int .i64 0] := SliceTy.of (z := .agg #[.int .i64 0, .int .i64 0]) Tryz.underlying25 (by kernel_rfl) rfl rfl rfl rfl
theorem c26 : CellTy Tryz.prog 26 := CellTy.of Tryz.underlying26 rfl (by kernel_rfl)
theorem s26 : SliceTy Tryz.prog 26 5 1 1 [.int .u8 0] := SliceTy.of (z := .int .u8 0) Tryz.underlying26 (by kernel_rfl) rfl rfl rfl rfl
theorem r28 : RowTy Tryz.prog 28 8 := RowTy.of Tryz.underlying28 rfl (by kernel_rfl)
theorem fl28_0 : FieldTy Tryz.prog 28 0 0 := FieldTy.of (n := 0) Tryz.underlying28 rfl rfl (by kernel_rfl)
theorem fl28_1 : FieldTy Tryz.prog 28 1 1 := FieldTy.of (n := 0) Tryz.underlying28 rfl rfl (by kernel_rfl)
theorem fl28_2 : FieldTy Tryz.prog 28 2 2 := FieldTy.of (n := 0) Tryz.underlying28 rfl rfl (by kernel_rfl)
theorem fl28_3 : FieldTy Tryz.prog 28 3 3 := FieldTy.of (n := 0) Tryz.underlying28 rfl rfl (by kernel_rfl)
theorem fl28_4 : FieldTy Tryz.prog 28 4 4 := FieldTy.of (n := 0) Tryz.underlying28 rfl rfl (by kernel_rfl)
theorem fl28_5 : FieldTy Tryz.prog 28 5 5 := FieldTy.of (n := 0) Tryz.underlying28 rfl rfl (by kernel_rfl)
theorem fl28_6 : FieldTy Tryz.prog 28 6 6 := FieldTy.of (n := 0) Tryz.underlying28 rfl rfl (by kernel_rfl)
theorem fl28_7 : FieldTy Tryz.prog 28 7 7 := FieldTy.of (n := 0) Tryz.underlying28 rfl rfl (by kernel_rfl)
theorem c29 : CellTy Tryz.prog 29 := CellTy.of Tryz.underlying29 rfl (by kernel_rfl)
theorem s29 : SliceTy Tryz.prog 29 36 4 32 [.int .u8 0, .int .i64 0, .int .i64 0, .int .i64 0] := SliceTy.of (z := .agg #[.int .u8 0, .int .i64 0, .int .i64 0, .int .i64 0]) Tryz.underlying29 (by kernel_rfl) rfl rfl rfl rfl
theorem r31 : RowTy Tryz.prog 31 3 := RowTy.of Tryz.underlying31 rfl (by kernel_rfl)
theorem z31 : ZeroTy Tryz.prog 31 [.int .i64 0, .int .i64 0, .slice none 0 0] := by unfold ZeroTy; kernel_rfl
theorem fl31_0 : FieldTy Tryz.prog 31 0 0 := FieldTy.of (n := 0) Tryz.underlying31 rfl rfl (by kernel_rfl)
theorem fl31_1 : FieldTy Tryz.prog 31 1 1 := FieldTy.of (n := 0) Tryz.underlying31 rfl rfl (by kernel_rfl)
theorem fl31_2 : FieldTy Tryz.prog 31 2 2 := FieldTy.of (n := 0) Tryz.underlying31 rfl rfl (by kernel_rfl)
theorem r33 : RowTy Tryz.prog 33 4 := RowTy.of Tryz.underlying33 rfl (by kernel_rfl)
theorem z33 : ZeroTy Tryz.prog 33 [.int .u8 0, .int .i64 0, .int .i64 0, .int .i64 0] := by unfold ZeroTy; kernel_rfl
theorem fl33_0 : FieldTy Tryz.prog 33 0 0 := FieldTy.of (n := 0) Tryz.underlying33 rfl rfl (by kernel_rfl)
theorem fl33_1 : FieldTy Tryz.prog 33 1 1 := FieldTy.of (n := 0) Tryz.underlying33 rfl rfl (by kernel_rfl)
theorem fl33_2 : FieldTy Tryz.prog 33 2 2 := FieldTy.of (n := 0) Tryz.underlying33 rfl rfl (by kernel_rfl)
theorem fl33_3 : FieldTy Tryz.prog 33 3 3 := FieldTy.of (n := 0) Tryz.underlying33 rfl rfl (by kernel_rfl)
theorem c34 : CellTy Tryz.prog 34 := CellTy.of Tryz.underlying34 rfl (by kernel_rfl)
theorem r36 : RowTy Tryz.prog 36 4 := RowTy.of Tryz.underlying36 rfl (by kernel_rfl)
theorem z36 : ZeroTy Tryz.prog 36 [.int .u8 0, .int .i64 0, .int .i64 0, .int .i64 0] := by unfold ZeroTy; kernel_rfl
theorem fl36_0 : FieldTy Tryz.prog 36 0 0 := FieldTy.of (n := 0) Tryz.underlying36 rfl rfl (by kernel_rfl)
theorem fl36_1 : FieldTy Tryz.prog 36 1 1 := FieldTy.of (n := 0) Tryz.underlying36 rfl rfl (by kernel_rfl)
theorem fl36_2 : FieldTy Tryz.prog 36 2 2 := FieldTy.of (n := 0) Tryz.underlying36 rfl rfl (by kernel_rfl)
theorem fl36_3 : FieldTy Tryz.prog 36 3 3 := FieldTy.of (n := 0) Tryz.underlying36 rfl rfl (by kernel_rfl)
theorem c37 : CellTy Tryz.prog 37 := CellTy.of Tryz.underlying37 rfl (by kernel_rfl)
theorem s37 : SliceTy Tryz.prog 37 40 1 24 [.slice none 0 0] := SliceTy.of (z := .agg #[.slice none 0 0]) Tryz.underlying37 (by kernel_rfl) rfl rfl rfl rfl
theorem c38 : CellTy Tryz.prog 38 := CellTy.of Tryz.underlying38 rfl (by kernel_rfl)
theorem s38 : SliceTy Tryz.prog 38 110 2 16 [.int .i64 0, .int .i64 0] := SliceTy.of (z := .agg #[.int .i64 0, .int .i64 0]) Tryz.underlying38 (by kernel_rfl) rfl rfl rfl rfl
theorem r40 : RowTy Tryz.prog 40 1 := RowTy.of Tryz.underlying40 rfl (by kernel_rfl)
theorem z40 : ZeroTy Tryz.prog 40 [.slice none 0 0] := by unfold ZeroTy; kernel_rfl
theorem fl40_0 : FieldTy Tryz.prog 40 0 0 := FieldTy.of (n := 0) Tryz.underlying40 rfl rfl (by kernel_rfl)
theorem r42 : RowTy Tryz.prog 42 3 := RowTy.of Tryz.underlying42 rfl (by kernel_rfl)
theorem z42 : ZeroTy Tryz.prog 42 [.slice none 0 0, .slice none 0 0, .slice none 0 0] := by unfold ZeroTy; kernel_rfl
theorem fl42_0 : FieldTy Tryz.prog 42 0 0 := FieldTy.of (n := 0) Tryz.underlying42 rfl rfl (by kernel_rfl)
theorem fl42_1 : FieldTy Tryz.prog 42 1 1 := FieldTy.of (n := 0) Tryz.underlying42 rfl rfl (by kernel_rfl)
theorem fl42_2 : FieldTy Tryz.prog 42 2 2 := FieldTy.of (n := 0) Tryz.underlying42 rfl rfl (by kernel_rfl)
theorem c43 : CellTy Tryz.prog 43 := CellTy.of Tryz.underlying43 rfl (by kernel_rfl)
theorem s43 : SliceTy Tryz.prog 43 44 1 24 [.slice none 0 0] := SliceTy.of (z := .slice none 0 0) Tryz.underlying43 (by kernel_rfl) rfl rfl rfl rfl
theorem c44 : CellTy Tryz.prog 44 := CellTy.of Tryz.underlying44 rfl (by kernel_rfl)
theorem s44 : SliceTy Tryz.prog 44 108 2 16 [.int .i64 0, .int .i64 0] := SliceTy.of (z := .agg #[.int .i64 0, .int .i64 0]) Tryz.underlying44 (by kernel_rfl) rfl rfl rfl rfl
theorem r46 : RowTy Tryz.prog 46 3 := RowTy.of Tryz.underlying46 rfl (by kernel_rfl)
theorem z46 : ZeroTy Tryz.prog 46 [.slice none 0 0, .slice none 0 0, .slice none 0 0] := by unfold ZeroTy; kernel_rfl
theorem fl46_0 : FieldTy Tryz.prog 46 0 0 := FieldTy.of (n := 0) Tryz.underlying46 rfl rfl (by kernel_rfl)
theorem fl46_1 : FieldTy Tryz.prog 46 1 1 := FieldTy.of (n := 0) Tryz.underlying46 rfl rfl (by kernel_rfl)
theorem fl46_2 : FieldTy Tryz.prog 46 2 2 := FieldTy.of (n := 0) Tryz.underlying46 rfl rfl (by kernel_rfl)
theorem c47 : CellTy Tryz.prog 47 := CellTy.of Tryz.underlying47 rfl (by kernel_rfl)
theorem s47 : SliceTy Tryz.prog 47 4 1 1 [.bool false] := SliceTy.of (z := .bool false) Tryz.underlying47 (by kernel_rfl) rfl rfl rfl rfl
theorem c48 : CellTy Tryz.prog 48 := CellTy.of Tryz.underlying48 rfl (by kernel_rfl)
theorem z48 : ZeroTy Tryz.prog 48 [.slice none 0 0] := by unfold ZeroTy; kernel_rfl
theorem s48 : SliceTy Tryz.prog 48 3 1 8 [.int .i64 0] := SliceTy.of (z := .int .i64 0) Tryz.underlying48 (by kernel_rfl) rfl rfl rfl rfl
theorem r50 : RowTy Tryz.prog 50 5 := RowTy.of Tryz.underlying50 rfl (by kernel_rfl)
theorem z50 : ZeroTy Tryz.prog 50 [.slice none 0 0, .int .i64 0, .slice none 0 0, .int .i64 0, .slice none 0 0] := by unfold ZeroTy; kernel_rfl
theorem fl50_0 : FieldTy Tryz.prog 50 0 0 := FieldTy.of (n := 0) Tryz.underlying50 rfl rfl (by kernel_rfl)
theorem fl50_1 : FieldTy Tryz.prog 50 1 1 := FieldTy.of (n := 0) Tryz.underlying50 rfl rfl (by kernel_rfl)
theorem fl50_2 : FieldTy Tryz.prog 50 2 2 := FieldTy.of (n := 0) Tryz.underlying50 rfl rfl (by kernel_rfl)
theorem fl50_3 : FieldTy Tryz.prog 50 3 3 := FieldTy.of (n := 0) Tryz.underlying50 rfl rfl (by kernel_rfl)
theorem fl50_4 : FieldTy Tryz.prog 50 4 4 := FieldTy.of (n := 0) Tryz.underlying50 rfl rfl (by kernel_rfl)
theorem r51 : RowTy Tryz.prog 51 5 := RowTy.of Tryz.underlying51 rfl (by kernel_rfl)
theorem z51 : ZeroTy Tryz.prog 51 [.slice none 0 0, .int .i64 0, .slice none 0 0, .int .i64 0, .slice none 0 0] := by unfold ZeroTy; kernel_rfl
theorem fl51_0 : FieldTy Tryz.prog 51 0 0 := FieldTy.of (n := 0) Tryz.underlying51 rfl rfl (by kernel_rfl)
theorem fl51_1 : FieldTy Tryz.prog 51 1 1 := FieldTy.of (n := 0) Tryz.underlying51 rfl rfl (by kernel_rfl)
theorem fl51_2 : FieldTy Tryz.prog 51 2 2 := FieldTy.of (n := 0) Tryz.underlying51 rfl rfl (by kernel_rfl)
theorem fl51_3 : FieldTy Tryz.prog 51 3 3 := FieldTy.of (n := 0) Tryz.underlying51 rfl rfl (by kernel_rfl)
theorem fl51_4 : FieldTy Tryz.prog 51 4 4 := FieldTy.of (n := 0) Tryz.underlying51 rfl rfl (by kernel_rfl)
theorem c54 : CellTy Tryz.prog 54 := CellTy.of Tryz.underlying54 rfl (by kernel_rfl)
theorem s54 : SliceTy Tryz.prog 54 84 8 80 [.int .u8 0, .int .i64 0, .int .i64 0, .int .i64 0, .int .i64 0, .int .i64 0, .bool false, .slice none 0 0] := SliceTy.of (z := .agg #[.int .u8 0, .int .i64 0, .int .i64 0, .int .i64 0, .int .i64 0, .int .i64 0, .bool false, .slice none 0 0]) Tryz.underlying54 (by kernel_rfl) rfl rfl rfl rfl
theorem r56 : RowTy Tryz.prog 56 5 := RowTy.of Tryz.underlying56 rfl (by kernel_rfl)
theorem z56 : ZeroTy Tryz.prog 56 [.slice none 0 0, .slice none 0 0, .slice none 0 0, .slice none 0 0, .int .i64 0] := by unfold ZeroTy; kernel_rfl
theorem fl56_0 : FieldTy Tryz.prog 56 0 0 := FieldTy.of (n := 2) Tryz.underlying56 rfl rfl (by kernel_rfl)
theorem fl56_1 : FieldTy Tryz.prog 56 1 3 := FieldTy.of (n := 0) Tryz.underlying56 rfl rfl (by kernel_rfl)
theorem fl56_2 : FieldTy Tryz.prog 56 2 4 := FieldTy.of (n := 0) Tryz.underlying56 rfl rfl (by kernel_rfl)
theorem s63 : SliceTy Tryz.prog 63 89 4 32 [.int .i64 0, .int .i64 0, .int .i64 0, .int .i64 0] := SliceTy.of (z := .agg #[.int .i64 0, .int .i64 0, .int .i64 0, .int .i64 0]) Tryz.underlying63 (by kernel_rfl) rfl rfl rfl rfl
theorem c66 : CellTy Tryz.prog 66 := CellTy.of Tryz.underlying66 rfl (by kernel_rfl)
theorem s66 : SliceTy Tryz.prog 66 92 8 80 [.int .i64 0, .int .i64 0, .int .i64 0, .int .i64 0, .int .i64 0, .int .i64 0, .bool false, .slice none 0 0] := SliceTy.of (z := .agg #[.int .i64 0, .int .i64 0, .int .i64 0, .int .i64 0, .int .i64 0, .int .i64 0, .bool false, .slice none 0 0]) Tryz.underlying66 (by kernel_rfl) rfl rfl rfl rfl
theorem r68 : RowTy Tryz.prog 68 5 := RowTy.of Tryz.underlying68 rfl (by kernel_rfl)
theorem z68 : ZeroTy Tryz.prog 68 [.slice none 0 0, .slice none 0 0, .slice none 0 0, .slice none 0 0, .int .i64 0] := by unfold ZeroTy; kernel_rfl
theorem fl68_0 : FieldTy Tryz.prog 68 0 0 := FieldTy.of (n := 2) Tryz.underlying68 rfl rfl (by kernel_rfl)
theorem fl68_1 : FieldTy Tryz.prog 68 1 3 := FieldTy.of (n := 0) Tryz.underlying68 rfl rfl (by kernel_rfl)
theorem fl68_2 : FieldTy Tryz.prog 68 2 4 := FieldTy.of (n := 0) Tryz.underlying68 rfl rfl (by kernel_rfl)
theorem fl77_0 : FieldTy Tryz.prog 77 0 0 := FieldTy.of (n := 4) Tryz.underlying77 rfl rfl (by kernel_rfl)
theorem fl77_1 : FieldTy Tryz.prog 77 1 5 := FieldTy.of (n := 0) Tryz.underlying77 rfl rfl (by kernel_rfl)
theorem fl77_2 : FieldTy Tryz.prog 77 2 6 := FieldTy.of (n := 4) Tryz.underlying77 rfl rfl (by kernel_rfl)
theorem fl77_3 : FieldTy Tryz.prog 77 3 11 := FieldTy.of (n := 0) Tryz.underlying77 rfl rfl (by kernel_rfl)
theorem fl77_4 : FieldTy Tryz.prog 77 4 12 := FieldTy.of (n := 0) Tryz.underlying77 rfl rfl (by kernel_rfl)
theorem fl77_5 : FieldTy Tryz.prog 77 5 13 := FieldTy.of (n := 0) Tryz.underlying77 rfl rfl (by kernel_rfl)
theorem fl77_6 : FieldTy Tryz.prog 77 6 14 := FieldTy.of (n := 0) Tryz.underlying77 rfl rfl (by kernel_rfl)
theorem fl77_7 : FieldTy Tryz.prog 77 7 15 := FieldTy.of (n := 0) Tryz.underlying77 rfl rfl (by kernel_rfl)
theorem c82 : CellTy Tryz.prog 82 := CellTy.of Tryz.underlying82 rfl (by kernel_rfl)
theorem r84 : RowTy Tryz.prog 84 8 := RowTy.of Tryz.underlying84 rfl (by kernel_rfl)
theorem z84 : ZeroTy Tryz.prog 84 [.int .u8 0, .int .i64 0, .int .i64 0, .int .i64 0, .int .i64 0, .int .i64 0, .bool false, .slice none 0 0] := by unfold ZeroTy; kernel_rfl
theorem fl84_0 : FieldTy Tryz.prog 84 0 0 := FieldTy.of (n := 0) Tryz.underlying84 rfl rfl (by kernel_rfl)
theorem fl84_1 : FieldTy Tryz.prog 84 1 1 := FieldTy.of (n := 0) Tryz.underlying84 rfl rfl (by kernel_rfl)
theorem fl84_2 : FieldTy Tryz.prog 84 2 2 := FieldTy.of (n := 0) Tryz.underlying84 rfl rfl (by kernel_rfl)
theorem fl84_3 : FieldTy Tryz.prog 84 3 3 := FieldTy.of (n := 0) Tryz.underlying84 rfl rfl (by kernel_rfl)
theorem fl84_4 : FieldTy Tryz.prog 84 4 4 := FieldTy.of (n := 0) Tryz.underlying84 rfl rfl (by kernel_rfl)
theorem fl84_5 : FieldTy Tryz.prog 84 5 5 := FieldTy.of (n := 0) Tryz.underlying84 rfl rfl (by kernel_rfl)
theorem fl84_6 : FieldTy Tryz.prog 84 6 6 := FieldTy.of (n := 0) Tryz.underlying84 rfl rfl (by kernel_rfl)
theorem fl84_7 : FieldTy Tryz.prog 84 7 7 := FieldTy.of (n := 0) Tryz.underlying84 rfl rfl (by kernel_rfl)
theorem r89 : RowTy Tryz.prog 89 4 := RowTy.of Tryz.underlying89 rfl (by kernel_rfl)
theorem z89 : ZeroTy Tryz.prog 89 [.int .i64 0, .int .i64 0, .int .i64 0, .int .i64 0] := by unfold ZeroTy; kernel_rfl
theorem fl89_0 : FieldTy Tryz.prog 89 0 0 := FieldTy.of (n := 0) Tryz.underlying89 rfl rfl (by kernel_rfl)
theorem fl89_1 : FieldTy Tryz.prog 89 1 1 := FieldTy.of (n := 0) Tryz.underlying89 rfl rfl (by kernel_rfl)
theorem fl89_2 : FieldTy Tryz.prog 89 2 2 := FieldTy.of (n := 0) Tryz.underlying89 rfl rfl (by kernel_rfl)
theorem fl89_3 : FieldTy Tryz.prog 89 3 3 := FieldTy.of (n := 0) Tryz.underlying89 rfl rfl (by kernel_rfl)
theorem r92 : RowTy Tryz.prog 92 8 := RowTy.of Tryz.underlying92 rfl (by kernel_rfl)
theorem z92 : ZeroTy Tryz.prog 92 [.int .i64 0, .int .i64 0, .int .i64 0, .int .i64 0, .int .i64 0, .int .i64 0, .bool false, .slice none 0 0] := by unfold ZeroTy; kernel_rfl
theorem fl92_0 : FieldTy Tryz.prog 92 0 0 := FieldTy.of (n := 0) Tryz.underlying92 rfl rfl (by kernel_rfl)
theorem fl92_1 : FieldTy Tryz.prog 92 1 1 := FieldTy.of (n := 0) Tryz.underlying92 rfl rfl (by kernel_rfl)
theorem fl92_2 : FieldTy Tryz.prog 92 2 2 := FieldTy.of (n := 0) Tryz.underlying92 rfl rfl (by kernel_rfl)
theorem fl92_3 : FieldTy Tryz.prog 92 3 3 := FieldTy.of (n := 0) Tryz.underlying92 rfl rfl (by kernel_rfl)
theorem fl92_4 : FieldTy Tryz.prog 92 4 4 := FieldTy.of (n := 0) Tryz.underlying92 rfl rfl (by kernel_rfl)
theorem fl92_5 : FieldTy Tryz.prog 92 5 5 := FieldTy.of (n := 0) Tryz.underlying92 rfl rfl (by kernel_rfl)
theorem fl92_6 : FieldTy Tryz.prog 92 6 6 := FieldTy.of (n := 0) Tryz.underlying92 rfl rfl (by kernel_rfl)
theorem fl92_7 : FieldTy Tryz.prog 92 7 7 := FieldTy.of (n := 0) Tryz.underlying92 rfl rfl (by kernel_rfl)
theorem fl106_0 : FieldTy Tryz.prog 106 0 0 := FieldTy.of (n := 4) Tryz.underlying106 rfl rfl (by kernel_rfl)
theorem fl106_1 : FieldTy Tryz.prog 106 1 5 := FieldTy.of (n := 4) Tryz.underlying106 rfl rfl (by kernel_rfl)
theorem fl106_2 : FieldTy Tryz.prog 106 2 10 := FieldTy.of (n := 0) Tryz.underlying106 rfl rfl (by kernel_rfl)
theorem fl106_3 : FieldTy Tryz.prog 106 3 11 := FieldTy.of (n := 0) Tryz.underlying106 rfl rfl (by kernel_rfl)
theorem fl106_4 : FieldTy Tryz.prog 106 4 12 := FieldTy.of (n := 0) Tryz.underlying106 rfl rfl (by kernel_rfl)
theorem fl106_5 : FieldTy Tryz.prog 106 5 13 := FieldTy.of (n := 0) Tryz.underlying106 rfl rfl (by kernel_rfl)
theorem r108 : RowTy Tryz.prog 108 2 := RowTy.of Tryz.underlying108 rfl (by kernel_rfl)
theorem z108 : ZeroTy Tryz.prog 108 [.int .i64 0, .int .i64 0] := by unfold ZeroTy; kernel_rfl
theorem r110 : RowTy Tryz.prog 110 2 := RowTy.of Tryz.underlying110 rfl (by kernel_rfl)
theorem z110 : ZeroTy Tryz.prog 110 [.int .i64 0, .int .i64 0] := by unfold ZeroTy; kernel_rfl
theorem fl110_0 : FieldTy Tryz.prog 110 0 0 := FieldTy.of (n := 0) Tryz.underlying110 rfl rfl (by kernel_rfl)
theorem fl110_1 : FieldTy Tryz.prog 110 1 1 := FieldTy.of (n := 0) Tryz.underlying110 rfl rfl (by kernel_rfl)
theorem r123 : RowTy Tryz.prog 123 4 := RowTy.of Tryz.underlying123 rfl (by kernel_rfl)
theorem z123 : ZeroTy Tryz.prog 123 [.string ByteArray.empty, .string ByteArray.empty, .int .i64 0, .int .i64 0] := by unfold ZeroTy; kernel_rfl
theorem fl123_2 : FieldTy Tryz.prog 123 2 2 := FieldTy.of (n := 0) Tryz.underlying123 rfl rfl (by kernel_rfl)
theorem fl123_3 : FieldTy Tryz.prog 123 3 3 := FieldTy.of (n := 0) Tryz.underlying123 rfl rfl (by kernel_rfl)
theorem c140 : CellTy Tryz.prog 140 := CellTy.of Tryz.underlying140 rfl (by kernel_rfl)
theorem s185 : SliceTy Tryz.prog 185 38 1 24 [.slice none 0 0] := SliceTy.of (z := .slice none 0 0) Tryz.underlying185 (by kernel_rfl) rfl rfl rfl rfl
theorem ca4 : callable Tryz.prog 4 = true := by kernel_rfl
theorem ca5 : callable Tryz.prog 5 = true := by kernel_rfl
theorem ca6 : callable Tryz.prog 6 = true := by kernel_rfl
theorem ca7 : callable Tryz.prog 7 = true := by kernel_rfl
theorem ca8 : callable Tryz.prog 8 = true := by kernel_rfl
theorem ca9 : callable Tryz.prog 9 = true := by kernel_rfl
theorem ca10 : callable Tryz.prog 10 = true := by kernel_rfl
theorem ca11 : callable Tryz.prog 11 = true := by kernel_rfl
theorem ca12 : callable Tryz.prog 12 = true := by kernel_rfl
theorem ca13 : callable Tryz.prog 13 = true := by kernel_rfl
theorem ca14 : callable Tryz.prog 14 = true := by kernel_rfl
theorem ca15 : callable Tryz.prog 15 = true := by kernel_rfl
theorem ca16 : callable Tryz.prog 16 = true := by kernel_rfl
theorem ca17 : callable Tryz.prog 17 = true := by kernel_rfl
theorem ca18 : callable Tryz.prog 18 = true := by kernel_rfl
theorem ca19 : callable Tryz.prog 19 = true := by kernel_rfl
theorem ca20 : callable Tryz.prog 20 = true := by kernel_rfl
theorem ca21 : callable Tryz.prog 21 = true := by kernel_rfl
theorem ca22 : callable Tryz.prog 22 = true := by kernel_rfl
theorem ca23 : callable Tryz.prog 23 = true := by kernel_rfl
theorem ca24 : callable Tryz.prog 24 = true := by kernel_rfl
theorem ca25 : callable Tryz.prog 25 = true := by kernel_rfl
theorem ca26 : callable Tryz.prog 26 = true := by kernel_rfl
theorem ca27 : callable Tryz.prog 27 = true := by kernel_rfl
theorem ca28 : callable Tryz.prog 28 = true := by kernel_rfl
theorem ca29 : callable Tryz.prog 29 = true := by kernel_rfl
theorem ca30 : callable Tryz.prog 30 = true := by kernel_rfl
theorem ca31 : callable Tryz.prog 31 = true := by kernel_rfl
theorem ca32 : callable Tryz.prog 32 = true := by kernel_rfl
theorem ca33 : callable Tryz.prog 33 = true := by kernel_rfl
theorem ca34 : callable Tryz.prog 34 = true := by kernel_rfl
theorem ca35 : callable Tryz.prog 35 = true := by kernel_rfl
theorem ca36 : callable Tryz.prog 36 = true := by kernel_rfl
theorem ca37 : callable Tryz.prog 37 = true := by kernel_rfl
theorem ca38 : callable Tryz.prog 38 = true := by kernel_rfl
theorem ca39 : callable Tryz.prog 39 = true := by kernel_rfl
theorem ca40 : callable Tryz.prog 40 = true := by kernel_rfl
theorem ca41 : callable Tryz.prog 41 = true := by kernel_rfl
theorem ca42 : callable Tryz.prog 42 = true := by kernel_rfl
theorem ca43 : callable Tryz.prog 43 = true := by kernel_rfl
theorem ca44 : callable Tryz.prog 44 = true := by kernel_rfl
theorem ca45 : callable Tryz.prog 45 = true := by kernel_rfl
theorem ca46 : callable Tryz.prog 46 = true := by kernel_rfl
theorem ca47 : callable Tryz.prog 47 = true := by kernel_rfl
theorem ca48 : callable Tryz.prog 48 = true := by kernel_rfl
theorem ca49 : callable Tryz.prog 49 = true := by kernel_rfl
theorem ca50 : callable Tryz.prog 50 = true := by kernel_rfl
theorem ca51 : callable Tryz.prog 51 = true := by kernel_rfl
theorem ca52 : callable Tryz.prog 52 = true := by kernel_rfl
theorem ca58 : callable Tryz.prog 58 = true := by kernel_rfl
theorem ca62 : callable Tryz.prog 62 = true := by kernel_rfl
theorem ca63 : callable Tryz.prog 63 = true := by kernel_rfl
theorem ca64 : callable Tryz.prog 64 = true := by kernel_rfl
theorem ca65 : callable Tryz.prog 65 = true := by kernel_rfl
theorem ca66 : callable Tryz.prog 66 = true := by kernel_rfl
theorem ca67 : callable Tryz.prog 67 = true := by kernel_rfl
theorem ca68 : callable Tryz.prog 68 = true := by kernel_rfl
theorem ca69 : callable Tryz.prog 69 = true := by kernel_rfl
theorem ca70 : callable Tryz.prog 70 = true := by kernel_rfl
theorem ca71 : callable Tryz.prog 71 = true := by kernel_rfl
theorem ca72 : callable Tryz.prog 72 = true := by kernel_rfl
theorem ca73 : callable Tryz.prog 73 = true := by kernel_rfl
theorem ca74 : callable Tryz.prog 74 = true := by kernel_rfl
theorem ca75 : callable Tryz.prog 75 = true := by kernel_rfl
theorem ca76 : callable Tryz.prog 76 = true := by kernel_rfl
theorem ca83 : callable Tryz.prog 83 = true := by kernel_rfl
theorem ca84 : callable Tryz.prog 84 = true := by kernel_rfl
theorem ca85 : callable Tryz.prog 85 = true := by kernel_rfl
theorem ca86 : callable Tryz.prog 86 = true := by kernel_rfl
theorem ca87 : callable Tryz.prog 87 = true := by kernel_rfl
theorem ca88 : callable Tryz.prog 88 = true := by kernel_rfl
theorem ca89 : callable Tryz.prog 89 = true := by kernel_rfl
theorem ca90 : callable Tryz.prog 90 = true := by kernel_rfl
theorem ca91 : callable Tryz.prog 91 = true := by kernel_rfl
theorem ca92 : callable Tryz.prog 92 = true := by kernel_rfl
theorem ca95 : callable Tryz.prog 95 = true := by kernel_rfl
theorem ca96 : callable Tryz.prog 96 = true := by kernel_rfl
theorem ca97 : callable Tryz.prog 97 = true := by kernel_rfl
theorem ca98 : callable Tryz.prog 98 = true := by kernel_rfl
theorem ca101 : callable Tryz.prog 101 = true := by kernel_rfl
theorem ca102 : callable Tryz.prog 102 = true := by kernel_rfl
theorem ca103 : callable Tryz.prog 103 = true := by kernel_rfl
theorem mixed : Tryz.prog.follows .mixedOrders = true := by kernel_rfl
end Go.Proofs.YtoehnbacbobhiaaGreatDoor
