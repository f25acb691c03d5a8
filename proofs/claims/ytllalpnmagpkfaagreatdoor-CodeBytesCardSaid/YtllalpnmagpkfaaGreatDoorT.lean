/- The table of types of this seat, in the words of the logic; printed by sx.py. -/
import Derived.Test.YtllalpnmagpkfaaGreatDoorL1
import Derived.Test.YtllalpnmagpkfaaGreatDoorProg
set_option linter.unusedVariables false
set_option linter.unusedSimpArgs false
namespace Go.Proofs.YtllalpnmagpkfaaGreatDoor
open Go.Sep
theorem c1 : CellTy Tryz.prog 1 := CellTy.of Tryz.underlying1 rfl (by kernel_rfl)
theorem c2 : CellTy Tryz.prog 2 := CellTy.of Tryz.underlying2 rfl (by kernel_rfl)
theorem z2 : ZeroTy Tryz.prog 2 [.int .i64 0] := by unfold ZeroTy; kernel_rfl
theorem c3 : CellTy Tryz.prog 3 := CellTy.of Tryz.underlying3 rfl (by kernel_rfl)
theorem c4 : CellTy Tryz.prog 4 := CellTy.of Tryz.underlying4 rfl (by kernel_rfl)
theorem c5 : CellTy Tryz.prog 5 := CellTy.of Tryz.underlying5 rfl (by kernel_rfl)
theorem z5 : ZeroTy Tryz.prog 5 [.int .u8 0] := by unfold ZeroTy; kernel_rfl
theorem c6 : CellTy Tryz.prog 6 := CellTy.of Tryz.underlying6 rfl (by kernel_rfl)
theorem c9 : CellTy Tryz.prog 9 := CellTy.of Tryz.underlying9 rfl (by kernel_rfl)
theorem c10 : CellTy Tryz.prog 10 := CellTy.of Tryz.underlying10 rfl (by kernel_rfl)
theorem c11 : CellTy Tryz.prog 11 := CellTy.of Tryz.underlying11 rfl (by kernel_rfl)
theorem c12 : CellTy Tryz.prog 12 := CellTy.of Tryz.underlying12 rfl (by kernel_rfl)
theorem c15 : CellTy Tryz.prog 15 := CellTy.of Tryz.underlying15 rfl (by kernel_rfl)
theorem c16 : CellTy Tryz.prog 16 := CellTy.of Tryz.underlying16 rfl (by kernel_rfl)
theorem c17 : CellTy Tryz.prog 17 := CellTy.of Tryz.underlying17 rfl (by kernel_rfl)
theorem c20 : CellTy Tryz.prog 20 := CellTy.of Tryz.underlying20 rfl (by kernel_rfl)
theorem c21 : CellTy Tryz.prog 21 := CellTy.of Tryz.underlying21 rfl (by kernel_rfl)
theorem c22 : CellTy Tryz.prog 22 := CellTy.of Tryz.underlying22 rfl (by kernel_rfl)
theorem s22 : SliceTy Tryz.prog 22 5 1 1 [.int .u8 0] := SliceTy.of (z := .int .u8 0) Tryz.underlying22 (by kernel_rfl) rfl rfl rfl rfl
theorem c23 : CellTy Tryz.prog 23 := CellTy.of Tryz.underlying23 rfl (by kernel_rfl)
theorem s23 : SliceTy Tryz.prog 23 200 4 56 [.int .u8 0, .int .u8 0, .slice none 0 0, .slice none 0 0] := SliceTy.of (z := .agg #[.int .u8 0, .int .u8 0, .slice none 0 0, .slice none 0 0]) Tryz.underlying23 (by kernel_rfl) rfl rfl rfl rfl
theorem r25 : RowTy Tryz.prog 25 3 := RowTy.of Tryz.underlying25 rfl (by kernel_rfl)
theorem fl25_0 : FieldTy Tryz.prog 25 0 0 := FieldTy.of (n := 0) Tryz.underlying25 rfl rfl (by kernel_rfl)
theorem fl25_1 : FieldTy Tryz.prog 25 1 1 := FieldTy.of (n := 0) Tryz.underlying25 rfl rfl (by kernel_rfl)
theorem fl25_2 : FieldTy Tryz.prog 25 2 2 := FieldTy.of (n := 0) Tryz.underlying25 rfl rfl (by kernel_rfl)
theorem c26 : CellTy Tryz.prog 26 := CellTy.of Tryz.underlying26 rfl (by kernel_rfl)
theorem c27 : CellTy Tryz.prog 27 := CellTy.of Tryz.underlying27 rfl (by kernel_rfl)
theorem c28 : CellTy Tryz.prog 28 := CellTy.of Tryz.underlying28 rfl (by kernel_rfl)
theorem s28 : SliceTy Tryz.prog 28 190 2 24 [.string bE, .bool false] := SliceTy.of (z := .agg #[.string bE, .bool false]) Tryz.underlying28 (by kernel_rfl) rfl rfl rfl rfl
theorem c29 : CellTy Tryz.prog 29 := CellTy.of Tryz.underlying29 rfl (by kernel_rfl)
theorem s29 : SliceTy Tryz.prog 29 192 3 40 [.string bE, .string bE, .int .i64 0] := SliceTy.of (z := .agg #[.string bE, .string bE, .int .i64 0]) Tryz.underlying29 (by kernel_rfl) rfl rfl rfl rfl
theorem c30 : CellTy Tryz.prog 30 := CellTy.of Tryz.underlying30 rfl (by kernel_rfl)
theorem s30 : SliceTy Tryz.prog 30 103 3 64 [.string bE, .slice none 0 0, .slice none 0 0] := SliceTy.of (z := .agg #[.string bE, .slice none 0 0, .slice none 0 0]) Tryz.underlying30 (by kernel_rfl) rfl rfl rfl rfl
theorem r32 : RowTy Tryz.prog 32 4 := RowTy.of Tryz.underlying32 rfl (by kernel_rfl)
theorem z32 : ZeroTy Tryz.prog 32 [.string bE, .slice none 0 0, .slice none 0 0, .slice none 0 0] := by unfold ZeroTy; kernel_rfl
theorem fl32_1 : FieldTy Tryz.prog 32 1 1 := FieldTy.of (n := 0) Tryz.underlying32 rfl rfl (by kernel_rfl)
theorem fl32_2 : FieldTy Tryz.prog 32 2 2 := FieldTy.of (n := 0) Tryz.underlying32 rfl rfl (by kernel_rfl)
theorem fl32_3 : FieldTy Tryz.prog 32 3 3 := FieldTy.of (n := 0) Tryz.underlying32 rfl rfl (by kernel_rfl)
theorem c35 : CellTy Tryz.prog 35 := CellTy.of Tryz.underlying35 rfl (by kernel_rfl)
theorem s35 : SliceTy Tryz.prog 35 54 4 32 [.int .i64 0, .int .i64 0, .int .i64 0, .int .i64 0] := SliceTy.of (z := .agg #[.int .i64 0, .int .i64 0, .int .i64 0, .int .i64 0]) Tryz.underlying35 (by kernel_rfl) rfl rfl rfl rfl
theorem r37 : RowTy Tryz.prog 37 3 := RowTy.of Tryz.underlying37 rfl (by kernel_rfl)
theorem z37 : ZeroTy Tryz.prog 37 [.int .i64 0, .int .i64 0, .slice none 0 0] := by unfold ZeroTy; kernel_rfl
theorem fl37_0 : FieldTy Tryz.prog 37 0 0 := FieldTy.of (n := 0) Tryz.underlying37 rfl rfl (by kernel_rfl)
theorem fl37_1 : FieldTy Tryz.prog 37 1 1 := FieldTy.of (n := 0) Tryz.underlying37 rfl rfl (by kernel_rfl)
theorem fl37_2 : FieldTy Tryz.prog 37 2 2 := FieldTy.of (n := 0) Tryz.underlying37 rfl rfl (by kernel_rfl)
theorem c39 : CellTy Tryz.prog 39 := CellTy.of Tryz.underlying39 rfl (by kernel_rfl)
theorem c40 : CellTy Tryz.prog 40 := CellTy.of Tryz.underlying40 rfl (by kernel_rfl)
theorem s40 : SliceTy Tryz.prog 40 109 4 32 [.int .u8 0, .int .i64 0, .int .i64 0, .int .i64 0] := SliceTy.of (z := .agg #[.int .u8 0, .int .i64 0, .int .i64 0, .int .i64 0]) Tryz.underlying40 (by kernel_rfl) rfl rfl rfl rfl
theorem r42 : RowTy Tryz.prog 42 3 := RowTy.of Tryz.underlying42 rfl (by kernel_rfl)
theorem z42 : ZeroTy Tryz.prog 42 [.int .i64 0, .int .i64 0, .slice none 0 0] := by unfold ZeroTy; kernel_rfl
theorem fl42_0 : FieldTy Tryz.prog 42 0 0 := FieldTy.of (n := 0) Tryz.underlying42 rfl rfl (by kernel_rfl)
theorem fl42_1 : FieldTy Tryz.prog 42 1 1 := FieldTy.of (n := 0) Tryz.underlying42 rfl rfl (by kernel_rfl)
theorem fl42_2 : FieldTy Tryz.prog 42 2 2 := FieldTy.of (n := 0) Tryz.underlying42 rfl rfl (by kernel_rfl)
theorem c47 : CellTy Tryz.prog 47 := CellTy.of Tryz.underlying47 rfl (by kernel_rfl)
theorem r54 : RowTy Tryz.prog 54 4 := RowTy.of Tryz.underlying54 rfl (by kernel_rfl)
theorem z54 : ZeroTy Tryz.prog 54 [.int .i64 0, .int .i64 0, .int .i64 0, .int .i64 0] := by unfold ZeroTy; kernel_rfl
theorem fl54_0 : FieldTy Tryz.prog 54 0 0 := FieldTy.of (n := 0) Tryz.underlying54 rfl rfl (by kernel_rfl)
theorem fl54_1 : FieldTy Tryz.prog 54 1 1 := FieldTy.of (n := 0) Tryz.underlying54 rfl rfl (by kernel_rfl)
theorem fl54_2 : FieldTy Tryz.prog 54 2 2 := FieldTy.of (n := 0) Tryz.underlying54 rfl rfl (by kernel_rfl)
theorem fl54_3 : FieldTy Tryz.prog 54 3 3 := FieldTy.of (n := 0) Tryz.underlying54 rfl rfl (by kernel_rfl)
theorem c55 : CellTy Tryz.prog 55 := CellTy.of Tryz.underlying55 rfl (by kernel_rfl)
theorem c58 : CellTy Tryz.prog 58 := CellTy.of Tryz.underlying58 rfl (by kernel_rfl)
theorem c64 : CellTy Tryz.prog 64 := CellTy.of Tryz.underlying64 rfl (by kernel_rfl)
theorem c66 : CellTy Tryz.prog 66 := CellTy.of Tryz.underlying66 rfl (by kernel_rfl)
theorem c70 : CellTy Tryz.prog 70 := CellTy.of Tryz.underlying70 rfl (by kernel_rfl)
theorem c73 : CellTy Tryz.prog 73 := CellTy.of Tryz.underlying73 rfl (by kernel_rfl)
theorem c74 : CellTy Tryz.prog 74 := CellTy.of Tryz.underlying74 rfl (by kernel_rfl)
theorem s74 : SliceTy Tryz.prog 74 9 1 16 [.string bE] := SliceTy.of (z := .string bE) Tryz.underlying74 (by kernel_rfl) rfl rfl rfl rfl
theorem c82 : CellTy Tryz.prog 82 := CellTy.of Tryz.underlying82 rfl (by kernel_rfl)
theorem c85 : CellTy Tryz.prog 85 := CellTy.of Tryz.underlying85 rfl (by kernel_rfl)
theorem c90 : CellTy Tryz.prog 90 := CellTy.of Tryz.underlying90 rfl (by kernel_rfl)
theorem c91 : CellTy Tryz.prog 91 := CellTy.of Tryz.underlying91 rfl (by kernel_rfl)
theorem c100 : CellTy Tryz.prog 100 := CellTy.of Tryz.underlying100 rfl (by kernel_rfl)
theorem s100 : SliceTy Tryz.prog 100 194 3 32 [.string bE, .int .i64 0, .int .i64 0] := SliceTy.of (z := .agg #[.string bE, .int .i64 0, .int .i64 0]) Tryz.underlying100 (by kernel_rfl) rfl rfl rfl rfl
theorem c101 : CellTy Tryz.prog 101 := CellTy.of Tryz.underlying101 rfl (by kernel_rfl)
theorem s101 : SliceTy Tryz.prog 101 195 1 24 [.slice none 0 0] := SliceTy.of (z := .slice none 0 0) Tryz.underlying101 (by kernel_rfl) rfl rfl rfl rfl
theorem r103 : RowTy Tryz.prog 103 3 := RowTy.of Tryz.underlying103 rfl (by kernel_rfl)
theorem z103 : ZeroTy Tryz.prog 103 [.string bE, .slice none 0 0, .slice none 0 0] := by unfold ZeroTy; kernel_rfl
theorem fl103_0 : FieldTy Tryz.prog 103 0 0 := FieldTy.of (n := 0) Tryz.underlying103 rfl rfl (by kernel_rfl)
theorem fl103_1 : FieldTy Tryz.prog 103 1 1 := FieldTy.of (n := 0) Tryz.underlying103 rfl rfl (by kernel_rfl)
theorem fl103_2 : FieldTy Tryz.prog 103 2 2 := FieldTy.of (n := 0) Tryz.underlying103 rfl rfl (by kernel_rfl)
theorem c107 : CellTy Tryz.prog 107 := CellTy.of Tryz.underlying107 rfl (by kernel_rfl)
theorem r109 : RowTy Tryz.prog 109 4 := RowTy.of Tryz.underlying109 rfl (by kernel_rfl)
theorem z109 : ZeroTy Tryz.prog 109 [.int .u8 0, .int .i64 0, .int .i64 0, .int .i64 0] := by unfold ZeroTy; kernel_rfl
theorem fl109_0 : FieldTy Tryz.prog 109 0 0 := FieldTy.of (n := 0) Tryz.underlying109 rfl rfl (by kernel_rfl)
theorem fl109_1 : FieldTy Tryz.prog 109 1 1 := FieldTy.of (n := 0) Tryz.underlying109 rfl rfl (by kernel_rfl)
theorem fl109_2 : FieldTy Tryz.prog 109 2 2 := FieldTy.of (n := 0) Tryz.underlying109 rfl rfl (by kernel_rfl)
theorem fl109_3 : FieldTy Tryz.prog 109 3 3 := FieldTy.of (n := 0) Tryz.underlying109 rfl rfl (by kernel_rfl)
theorem c111 : CellTy Tryz.prog 111 := CellTy.of Tryz.underlying111 rfl (by kernel_rfl)
theorem c123 : CellTy Tryz.prog 123 := CellTy.of Tryz.underlying123 rfl (by kernel_rfl)
theorem s123 : SliceTy Tryz.prog 123 125 4 56 [.int .i64 0, .string bE, .int .i64 0, .slice none 0 0] := SliceTy.of (z := .agg #[.int .i64 0, .string bE, .int .i64 0, .slice none 0 0]) Tryz.underlying123 (by kernel_rfl) rfl rfl rfl rfl
theorem r125 : RowTy Tryz.prog 125 4 := RowTy.of Tryz.underlying125 rfl (by kernel_rfl)
theorem z125 : ZeroTy Tryz.prog 125 [.int .i64 0, .string bE, .int .i64 0, .slice none 0 0] := by unfold ZeroTy; kernel_rfl
theorem fl125_0 : FieldTy Tryz.prog 125 0 0 := FieldTy.of (n := 0) Tryz.underlying125 rfl rfl (by kernel_rfl)
theorem fl125_1 : FieldTy Tryz.prog 125 1 1 := FieldTy.of (n := 0) Tryz.underlying125 rfl rfl (by kernel_rfl)
theorem fl125_2 : FieldTy Tryz.prog 125 2 2 := FieldTy.of (n := 0) Tryz.underlying125 rfl rfl (by kernel_rfl)
theorem fl125_3 : FieldTy Tryz.prog 125 3 3 := FieldTy.of (n := 0) Tryz.underlying125 rfl rfl (by kernel_rfl)
theorem s136 : SliceTy Tryz.prog 136 2 1 8 [.int .i64 0] := SliceTy.of (z := .int .i64 0) Tryz.underlying136 (by kernel_rfl) rfl rfl rfl rfl
theorem c140 : CellTy Tryz.prog 140 := CellTy.of Tryz.underlying140 rfl (by kernel_rfl)
theorem c141 : CellTy Tryz.prog 141 := CellTy.of Tryz.underlying141 rfl (by kernel_rfl)
theorem c147 : CellTy Tryz.prog 147 := CellTy.of Tryz.underlying147 rfl (by kernel_rfl)
theorem s147 : SliceTy Tryz.prog 147 269 6 112 [.int .i64 0, .string bE, .string bE, .slice none 0 0, .slice none 0 0, .slice none 0 0] := SliceTy.of (z := .agg #[.int .i64 0, .string bE, .string bE, .slice none 0 0, .slice none 0 0, .slice none 0 0]) Tryz.underlying147 (by kernel_rfl) rfl rfl rfl rfl
theorem r149 : RowTy Tryz.prog 149 3 := RowTy.of Tryz.underlying149 rfl (by kernel_rfl)
theorem z149 : ZeroTy Tryz.prog 149 [.string bE, .slice none 0 0, .slice none 0 0] := by unfold ZeroTy; kernel_rfl
theorem fl149_0 : FieldTy Tryz.prog 149 0 0 := FieldTy.of (n := 0) Tryz.underlying149 rfl rfl (by kernel_rfl)
theorem fl149_1 : FieldTy Tryz.prog 149 1 1 := FieldTy.of (n := 0) Tryz.underlying149 rfl rfl (by kernel_rfl)
theorem fl149_2 : FieldTy Tryz.prog 149 2 2 := FieldTy.of (n := 0) Tryz.underlying149 rfl rfl (by kernel_rfl)
theorem fl154_0 : FieldTy Tryz.prog 154 0 0 := FieldTy.of (n := 3) Tryz.underlying154 rfl rfl (by kernel_rfl)
theorem fl154_1 : FieldTy Tryz.prog 154 1 4 := FieldTy.of (n := 0) Tryz.underlying154 rfl rfl (by kernel_rfl)
theorem fl154_2 : FieldTy Tryz.prog 154 2 5 := FieldTy.of (n := 0) Tryz.underlying154 rfl rfl (by kernel_rfl)
theorem fl154_3 : FieldTy Tryz.prog 154 3 6 := FieldTy.of (n := 0) Tryz.underlying154 rfl rfl (by kernel_rfl)
theorem c166 : CellTy Tryz.prog 166 := CellTy.of Tryz.underlying166 rfl (by kernel_rfl)
theorem c182 : CellTy Tryz.prog 182 := CellTy.of Tryz.underlying182 rfl (by kernel_rfl)
theorem c183 : CellTy Tryz.prog 183 := CellTy.of Tryz.underlying183 rfl (by kernel_rfl)
theorem r190 : RowTy Tryz.prog 190 2 := RowTy.of Tryz.underlying190 rfl (by kernel_rfl)
theorem z190 : ZeroTy Tryz.prog 190 [.string bE, .bool false] := by unfold ZeroTy; kernel_rfl
theorem fl190_0 : FieldTy Tryz.prog 190 0 0 := FieldTy.of (n := 0) Tryz.underlying190 rfl rfl (by kernel_rfl)
theorem r194 : RowTy Tryz.prog 194 3 := RowTy.of Tryz.underlying194 rfl (by kernel_rfl)
theorem z194 : ZeroTy Tryz.prog 194 [.string bE, .int .i64 0, .int .i64 0] := by unfold ZeroTy; kernel_rfl
theorem fl194_0 : FieldTy Tryz.prog 194 0 0 := FieldTy.of (n := 0) Tryz.underlying194 rfl rfl (by kernel_rfl)
theorem fl194_1 : FieldTy Tryz.prog 194 1 1 := FieldTy.of (n := 0) Tryz.underlying194 rfl rfl (by kernel_rfl)
theorem c195 : CellTy Tryz.prog 195 := CellTy.of Tryz.underlying195 rfl (by kernel_rfl)
theorem s195 : SliceTy Tryz.prog 195 149 3 64 [.string bE, .slice none 0 0, .slice none 0 0] := SliceTy.of (z := .agg #[.string bE, .slice none 0 0, .slice none 0 0]) Tryz.underlying195 (by kernel_rfl) rfl rfl rfl rfl
theorem c198 : CellTy Tryz.prog 198 := CellTy.of Tryz.underlying198 rfl (by kernel_rfl)
theorem s198 : SliceTy Tryz.prog 198 208 2 32 [.int .u8 0, .slice none 0 0] := SliceTy.of (z := .agg #[.int .u8 0, .slice none 0 0]) Tryz.underlying198 (by kernel_rfl) rfl rfl rfl rfl
theorem r200 : RowTy Tryz.prog 200 4 := RowTy.of Tryz.underlying200 rfl (by kernel_rfl)
theorem z200 : ZeroTy Tryz.prog 200 [.int .u8 0, .int .u8 0, .slice none 0 0, .slice none 0 0] := by unfold ZeroTy; kernel_rfl
theorem fl200_0 : FieldTy Tryz.prog 200 0 0 := FieldTy.of (n := 0) Tryz.underlying200 rfl rfl (by kernel_rfl)
theorem fl200_1 : FieldTy Tryz.prog 200 1 1 := FieldTy.of (n := 0) Tryz.underlying200 rfl rfl (by kernel_rfl)
theorem fl200_2 : FieldTy Tryz.prog 200 2 2 := FieldTy.of (n := 0) Tryz.underlying200 rfl rfl (by kernel_rfl)
theorem fl200_3 : FieldTy Tryz.prog 200 3 3 := FieldTy.of (n := 0) Tryz.underlying200 rfl rfl (by kernel_rfl)
theorem c201 : CellTy Tryz.prog 201 := CellTy.of Tryz.underlying201 rfl (by kernel_rfl)
theorem c202 : CellTy Tryz.prog 202 := CellTy.of Tryz.underlying202 rfl (by kernel_rfl)
theorem s202 : SliceTy Tryz.prog 202 203 1 24 [.slice none 0 0] := SliceTy.of (z := .slice none 0 0) Tryz.underlying202 (by kernel_rfl) rfl rfl rfl rfl
theorem c203 : CellTy Tryz.prog 203 := CellTy.of Tryz.underlying203 rfl (by kernel_rfl)
theorem s203 : SliceTy Tryz.prog 203 3 1 8 [.int .i64 0] := SliceTy.of (z := .int .i64 0) Tryz.underlying203 (by kernel_rfl) rfl rfl rfl rfl
theorem r206 : RowTy Tryz.prog 206 8 := RowTy.of Tryz.underlying206 rfl (by kernel_rfl)
theorem z206 : ZeroTy Tryz.prog 206 [.int .i64 0, .int .i64 0, .int .i64 0, .int .i64 0, .slice none 0 0, .int .i64 0, .slice none 0 0, .int .i64 0] := by unfold ZeroTy; kernel_rfl
theorem fl206_0 : FieldTy Tryz.prog 206 0 0 := FieldTy.of (n := 0) Tryz.underlying206 rfl rfl (by kernel_rfl)
theorem fl206_1 : FieldTy Tryz.prog 206 1 1 := FieldTy.of (n := 0) Tryz.underlying206 rfl rfl (by kernel_rfl)
theorem fl206_2 : FieldTy Tryz.prog 206 2 2 := FieldTy.of (n := 0) Tryz.underlying206 rfl rfl (by kernel_rfl)
theorem fl206_3 : FieldTy Tryz.prog 206 3 3 := FieldTy.of (n := 0) Tryz.underlying206 rfl rfl (by kernel_rfl)
theorem fl206_4 : FieldTy Tryz.prog 206 4 4 := FieldTy.of (n := 0) Tryz.underlying206 rfl rfl (by kernel_rfl)
theorem fl206_5 : FieldTy Tryz.prog 206 5 5 := FieldTy.of (n := 0) Tryz.underlying206 rfl rfl (by kernel_rfl)
theorem fl206_6 : FieldTy Tryz.prog 206 6 6 := FieldTy.of (n := 0) Tryz.underlying206 rfl rfl (by kernel_rfl)
theorem fl206_7 : FieldTy Tryz.prog 206 7 7 := FieldTy.of (n := 0) Tryz.underlying206 rfl rfl (by kernel_rfl)
theorem r208 : RowTy Tryz.prog 208 2 := RowTy.of Tryz.underlying208 rfl (by kernel_rfl)
theorem z208 : ZeroTy Tryz.prog 208 [.int .u8 0, .slice none 0 0] := by unfold ZeroTy; kernel_rfl
theorem fl208_0 : FieldTy Tryz.prog 208 0 0 := FieldTy.of (n := 0) Tryz.underlying208 rfl rfl (by kernel_rfl)
theorem fl208_1 : FieldTy Tryz.prog 208 1 1 := FieldTy.of (n := 0) Tryz.underlying208 rfl rfl (by kernel_rfl)
theorem c214 : CellTy Tryz.prog 214 := CellTy.of Tryz.underlying214 rfl (by kernel_rfl)
theorem c261 : CellTy Tryz.prog 261 := CellTy.of Tryz.underlying261 rfl (by kernel_rfl)
theorem z261 : ZeroTy Tryz.prog 261 [.pointer none] := by unfold ZeroTy; kernel_rfl
theorem c265 : CellTy Tryz.prog 265 := CellTy.of Tryz.underlying265 rfl (by kernel_rfl)
theorem s265 : SliceTy Tryz.prog 265 331 3 32 [.int .u8 0, .string bE, .int .i64 0] := SliceTy.of (z := .agg #[.int .u8 0, .string bE, .int .i64 0]) Tryz.underlying265 (by kernel_rfl) rfl rfl rfl rfl
theorem fl267_0 : FieldTy Tryz.prog 267 0 0 := FieldTy.of (n := 0) Tryz.underlying267 rfl rfl (by kernel_rfl)
theorem r269 : RowTy Tryz.prog 269 6 := RowTy.of Tryz.underlying269 rfl (by kernel_rfl)
theorem z269 : ZeroTy Tryz.prog 269 [.int .i64 0, .string bE, .string bE, .slice none 0 0, .slice none 0 0, .slice none 0 0] := by unfold ZeroTy; kernel_rfl
theorem fl269_0 : FieldTy Tryz.prog 269 0 0 := FieldTy.of (n := 0) Tryz.underlying269 rfl rfl (by kernel_rfl)
theorem fl269_1 : FieldTy Tryz.prog 269 1 1 := FieldTy.of (n := 0) Tryz.underlying269 rfl rfl (by kernel_rfl)
theorem fl269_2 : FieldTy Tryz.prog 269 2 2 := FieldTy.of (n := 0) Tryz.underlying269 rfl rfl (by kernel_rfl)
theorem fl269_3 : FieldTy Tryz.prog 269 3 3 := FieldTy.of (n := 0) Tryz.underlying269 rfl rfl (by kernel_rfl)
theorem fl269_4 : FieldTy Tryz.prog 269 4 4 := FieldTy.of (n := 0) Tryz.underlying269 rfl rfl (by kernel_rfl)
theorem fl269_5 : FieldTy Tryz.prog 269 5 5 := FieldTy.of (n := 0) Tryz.underlying269 rfl rfl (by kernel_rfl)
theorem fl305_0 : FieldTy Tryz.prog 305 0 0 := FieldTy.of (n := 0) Tryz.underlying305 rfl rfl (by kernel_rfl)
theorem fl305_1 : FieldTy Tryz.prog 305 1 1 := FieldTy.of (n := 0) Tryz.underlying305 rfl rfl (by kernel_rfl)
theorem r331 : RowTy Tryz.prog 331 3 := RowTy.of Tryz.underlying331 rfl (by kernel_rfl)
theorem z331 : ZeroTy Tryz.prog 331 [.int .u8 0, .string bE, .int .i64 0] := by unfold ZeroTy; kernel_rfl
theorem ca12 : callable Tryz.prog 12 = true := by kernel_rfl
theorem ca14 : callable Tryz.prog 14 = true := by kernel_rfl
theorem ca16 : callable Tryz.prog 16 = true := by kernel_rfl
theorem ca17 : callable Tryz.prog 17 = true := by kernel_rfl
theorem ca18 : callable Tryz.prog 18 = true := by kernel_rfl
theorem ca23 : callable Tryz.prog 23 = true := by kernel_rfl
theorem ca28 : callable Tryz.prog 28 = true := by kernel_rfl
theorem ca32 : callable Tryz.prog 32 = true := by kernel_rfl
theorem ca33 : callable Tryz.prog 33 = true := by kernel_rfl
theorem ca34 : callable Tryz.prog 34 = true := by kernel_rfl
theorem ca43 : callable Tryz.prog 43 = true := by kernel_rfl
theorem ca44 : callable Tryz.prog 44 = true := by kernel_rfl
theorem ca45 : callable Tryz.prog 45 = true := by kernel_rfl
theorem ca58 : callable Tryz.prog 58 = true := by kernel_rfl
theorem ca59 : callable Tryz.prog 59 = true := by kernel_rfl
theorem ca60 : callable Tryz.prog 60 = true := by kernel_rfl
theorem ca61 : callable Tryz.prog 61 = true := by kernel_rfl
theorem ca75 : callable Tryz.prog 75 = true := by kernel_rfl
theorem ca76 : callable Tryz.prog 76 = true := by kernel_rfl
theorem ca77 : callable Tryz.prog 77 = true := by kernel_rfl
theorem ca78 : callable Tryz.prog 78 = true := by kernel_rfl
theorem ca79 : callable Tryz.prog 79 = true := by kernel_rfl
theorem ca80 : callable Tryz.prog 80 = true := by kernel_rfl
theorem ca81 : callable Tryz.prog 81 = true := by kernel_rfl
theorem ca82 : callable Tryz.prog 82 = true := by kernel_rfl
theorem ca83 : callable Tryz.prog 83 = true := by kernel_rfl
theorem ca84 : callable Tryz.prog 84 = true := by kernel_rfl
theorem ca85 : callable Tryz.prog 85 = true := by kernel_rfl
theorem ca103 : callable Tryz.prog 103 = true := by kernel_rfl
theorem ca104 : callable Tryz.prog 104 = true := by kernel_rfl
theorem ca105 : callable Tryz.prog 105 = true := by kernel_rfl
theorem ca110 : callable Tryz.prog 110 = true := by kernel_rfl
theorem ca136 : callable Tryz.prog 136 = true := by kernel_rfl
theorem ca137 : callable Tryz.prog 137 = true := by kernel_rfl
theorem ca138 : callable Tryz.prog 138 = true := by kernel_rfl
theorem ca139 : callable Tryz.prog 139 = true := by kernel_rfl
theorem ca140 : callable Tryz.prog 140 = true := by kernel_rfl
theorem ca141 : callable Tryz.prog 141 = true := by kernel_rfl
theorem ca156 : callable Tryz.prog 156 = true := by kernel_rfl
theorem ca165 : callable Tryz.prog 165 = true := by kernel_rfl
theorem ca166 : callable Tryz.prog 166 = true := by kernel_rfl
theorem ca167 : callable Tryz.prog 167 = true := by kernel_rfl
theorem ca168 : callable Tryz.prog 168 = true := by kernel_rfl
theorem ca169 : callable Tryz.prog 169 = true := by kernel_rfl
theorem ca176 : callable Tryz.prog 176 = true := by kernel_rfl
theorem ca177 : callable Tryz.prog 177 = true := by kernel_rfl
theorem ca180 : callable Tryz.prog 180 = true := by kernel_rfl
theorem ca188 : callable Tryz.prog 188 = true := by kernel_rfl
theorem ca195 : callable Tryz.prog 195 = true := by kernel_rfl
theorem ca196 : callable Tryz.prog 196 = true := by kernel_rfl
theorem ca203 : callable Tryz.prog 203 = true := by kernel_rfl
theorem ca210 : callable Tryz.prog 210 = true := by kernel_rfl
theorem ca211 : callable Tryz.prog 211 = true := by kernel_rfl
theorem ca212 : callable Tryz.prog 212 = true := by kernel_rfl
theorem ca213 : callable Tryz.prog 213 = true := by kernel_rfl
theorem ca230 : callable Tryz.prog 230 = true := by kernel_rfl
theorem mixed : Tryz.prog.follows .mixedOrders = true := by kernel_rfl
end Go.Proofs.YtllalpnmagpkfaaGreatDoor
