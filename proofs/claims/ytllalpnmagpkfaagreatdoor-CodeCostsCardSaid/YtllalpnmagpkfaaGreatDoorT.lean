/- The table of types of this seat, in the words of the logic; printed by sx.py. -/
import Derived.Test.YtllalpnmagpkfaaGreatDoorL3
import Derived.Test.YtllalpnmagpkfaaGreatDoorProg
set_option linter.unusedVariables false
set_option linter.unusedSimpArgs false
namespace Go.Proofs.YtllalpnmagpkfaaGreatDoor
open Go.Proofs.Tryz
open Go.Sep
instance c1:CellTy prog 1:= .of underlying1
instance c2:CellTy prog 2:= .of underlying2
instance z2:ZeroTy prog 2 [.int .i64 0]:= .of
instance c3:CellTy prog 3:= .of underlying3
instance z3:ZeroTy prog 3 [.int .i64 0]:= .of
instance c4:CellTy prog 4:= .of underlying4
instance z4:ZeroTy prog 4 [.bool false]:= .of
instance c5:CellTy prog 5:= .of underlying5
instance z5:ZeroTy prog 5 [.int .u8 0]:= .of
instance c6:CellTy prog 6:= .of underlying6
instance c9:CellTy prog 9:= .of underlying9
instance z9:ZeroTy prog 9 [.string bE]:= .of
instance c10:CellTy prog 10:= .of underlying10
instance c11:CellTy prog 11:= .of underlying11
instance c12:CellTy prog 12:= .of underlying12
instance c15:CellTy prog 15:= .of underlying15
instance c16:CellTy prog 16:= .of underlying16
instance c17:CellTy prog 17:= .of underlying17
instance c20:CellTy prog 20:= .of underlying20
instance z20:ZeroTy prog 20 [.nilIface]:= .of
instance c22:CellTy prog 22:= .of underlying22
instance s22:SliceTy prog 22 5 1 1 [.int .u8 0]:= .ofV underlying22
instance c23:CellTy prog 23:= .of underlying23
instance s23:SliceTy prog 23 200 4 56 [.int .u8 0, .int .u8 0, .slice none 0 0, .slice none 0 0]:= .ofS underlying23
instance:RowTy prog 25 3:= .of underlying25
instance:FieldTy prog 25 0 0:= .of underlying25
instance:FieldTy prog 25 1 1:= .of underlying25
instance:FieldTy prog 25 2 2:= .of underlying25
instance c26:CellTy prog 26:= .of underlying26
instance c28:CellTy prog 28:= .of underlying28
instance s28:SliceTy prog 28 190 2 24 [.string bE, .bool false]:= .ofS underlying28
instance c29:CellTy prog 29:= .of underlying29
instance s29:SliceTy prog 29 192 3 40 [.string bE, .string bE, .int .i64 0]:= .ofS underlying29
instance c30:CellTy prog 30:= .of underlying30
instance s30:SliceTy prog 30 103 3 64 [.string bE, .slice none 0 0, .slice none 0 0]:= .ofS underlying30
instance r32:RowTy prog 32 4:= .of underlying32
instance:ZeroTy prog 32 [.string bE, .slice none 0 0, .slice none 0 0, .slice none 0 0]:= .of
instance:FieldTy prog 32 0 0:= .of underlying32
instance:FieldTy prog 32 1 1:= .of underlying32
instance:FieldTy prog 32 2 2:= .of underlying32
instance:FieldTy prog 32 3 3:= .of underlying32
instance c34:CellTy prog 34:= .of underlying34
instance z37:ZeroTy prog 37 [.int .i64 0, .int .i64 0, .slice none 0 0]:= .of
instance c40:CellTy prog 40:= .of underlying40
instance s40:SliceTy prog 40 109 4 32 [.int .u8 0, .int .i64 0, .int .i64 0, .int .i64 0]:= .ofS underlying40
instance r42:RowTy prog 42 3:= .of underlying42
instance:ZeroTy prog 42 [.int .i64 0, .int .i64 0, .slice none 0 0]:= .of
instance:FieldTy prog 42 0 0:= .of underlying42
instance:FieldTy prog 42 1 1:= .of underlying42
instance:FieldTy prog 42 2 2:= .of underlying42
instance c52:CellTy prog 52:= .of underlying52
instance z53:ZeroTy prog 53 [.int .i64 0, .int .i64 0, .int .i64 0, .int .i64 0]:= .of
instance c55:CellTy prog 55:= .of underlying55
instance c58:CellTy prog 58:= .of underlying58
instance s58:SliceTy prog 58 191 2 24 [.string bE, .bool false]:= .ofS underlying58
instance:CellTy prog 59:= .of underlying59
instance s59:SliceTy prog 59 89 3 40 [.string bE, .string bE, .int .i64 0]:= .ofS underlying59
instance c60:CellTy prog 60:= .of underlying60
instance s60:SliceTy prog 60 69 3 64 [.string bE, .slice none 0 0, .slice none 0 0]:= .ofS underlying60
instance r62:RowTy prog 62 4:= .of underlying62
instance:ZeroTy prog 62 [.string bE, .slice none 0 0, .slice none 0 0, .slice none 0 0]:= .of
instance:FieldTy prog 62 0 0:= .of underlying62
instance:FieldTy prog 62 1 1:= .of underlying62
instance:FieldTy prog 62 2 2:= .of underlying62
instance:FieldTy prog 62 3 3:= .of underlying62
instance c63:CellTy prog 63:= .of underlying63
instance c64:CellTy prog 64:= .of underlying64
instance c65:CellTy prog 65:= .of underlying65
instance:CellTy prog 66:= .of underlying66
instance s66:SliceTy prog 66 72 3 32 [.string bE, .int .u8 0, .int .i64 0]:= .ofS underlying66
instance c67:CellTy prog 67:= .of underlying67
instance s67:SliceTy prog 67 80 1 24 [.slice none 0 0]:= .ofS underlying67
instance r69:RowTy prog 69 3:= .of underlying69
instance z69:ZeroTy prog 69 [.string bE, .slice none 0 0, .slice none 0 0]:= .of
instance:FieldTy prog 69 0 0:= .of underlying69
instance:FieldTy prog 69 1 1:= .of underlying69
instance:FieldTy prog 69 2 2:= .of underlying69
instance:CellTy prog 70:= .of underlying70
instance r72:RowTy prog 72 3:= .of underlying72
instance z72:ZeroTy prog 72 [.string bE, .int .u8 0, .int .i64 0]:= .of
instance:FieldTy prog 72 0 0:= .of underlying72
instance:FieldTy prog 72 1 1:= .of underlying72
instance:FieldTy prog 72 2 2:= .of underlying72
instance c73:CellTy prog 73:= .of underlying73
instance c74:CellTy prog 74:= .of underlying74
instance s74:SliceTy prog 74 9 1 16 [.string bE]:= .ofV underlying74
instance c75:CellTy prog 75:= .of underlying75
instance s75:SliceTy prog 75 84 6 112 [.int .u8 0, .string bE, .string bE, .slice none 0 0, .slice none 0 0, .slice none 0 0]:= .ofS underlying75
instance r77:RowTy prog 77 3:= .of underlying77
instance z77:ZeroTy prog 77 [.string bE, .slice none 0 0, .slice none 0 0]:= .of
instance:FieldTy prog 77 0 0:= .of underlying77
instance:FieldTy prog 77 1 1:= .of underlying77
instance:FieldTy prog 77 2 2:= .of underlying77
instance c78:CellTy prog 78:= .of underlying78
instance s78:SliceTy prog 78 77 3 64 [.string bE, .slice none 0 0, .slice none 0 0]:= .ofS underlying78
instance:RowTy prog 80 1:= .of underlying80
instance:ZeroTy prog 80 [.slice none 0 0]:= .of
instance:FieldTy prog 80 0 0:= .of underlying80
instance c81:CellTy prog 81:= .of underlying81
instance c82:CellTy prog 82:= .of underlying82
instance s82:SliceTy prog 82 87 4 56 [.int .u8 0, .string bE, .int .i64 0, .slice none 0 0]:= .ofS underlying82
instance r84:RowTy prog 84 6:= .of underlying84
instance z84:ZeroTy prog 84 [.int .u8 0, .string bE, .string bE, .slice none 0 0, .slice none 0 0, .slice none 0 0]:= .of
instance:FieldTy prog 84 0 0:= .of underlying84
instance:FieldTy prog 84 1 1:= .of underlying84
instance:FieldTy prog 84 2 2:= .of underlying84
instance:FieldTy prog 84 3 3:= .of underlying84
instance:FieldTy prog 84 4 4:= .of underlying84
instance:FieldTy prog 84 5 5:= .of underlying84
instance c85:CellTy prog 85:= .of underlying85
instance r87:RowTy prog 87 4:= .of underlying87
instance:ZeroTy prog 87 [.int .u8 0, .string bE, .int .i64 0, .slice none 0 0]:= .of
instance:FieldTy prog 87 0 0:= .of underlying87
instance:FieldTy prog 87 1 1:= .of underlying87
instance:FieldTy prog 87 2 2:= .of underlying87
instance:FieldTy prog 87 3 3:= .of underlying87
instance:RowTy prog 89 3:= .of underlying89
instance:ZeroTy prog 89 [.string bE, .string bE, .int .i64 0]:= .of
instance:FieldTy prog 89 0 0:= .of underlying89
instance:FieldTy prog 89 1 1:= .of underlying89
instance:FieldTy prog 89 2 2:= .of underlying89
instance:CellTy prog 90:= .of underlying90
instance r93:RowTy prog 93 3:= .of underlying93
instance:ZeroTy prog 93 [.string bE, .string bE, .int .i64 0]:= .of
instance:FieldTy prog 93 2 2:= .of underlying93
instance c100:CellTy prog 100:= .of underlying100
instance s100:SliceTy prog 100 194 3 32 [.string bE, .int .i64 0, .int .i64 0]:= .ofS underlying100
instance c101:CellTy prog 101:= .of underlying101
instance s101:SliceTy prog 101 195 1 24 [.slice none 0 0]:= .ofV underlying101
instance:RowTy prog 103 3:= .of underlying103
instance:ZeroTy prog 103 [.string bE, .slice none 0 0, .slice none 0 0]:= .of
instance:FieldTy prog 103 0 0:= .of underlying103
instance:FieldTy prog 103 1 1:= .of underlying103
instance:FieldTy prog 103 2 2:= .of underlying103
instance:CellTy prog 107:= .of underlying107
instance:RowTy prog 109 4:= .of underlying109
instance:ZeroTy prog 109 [.int .u8 0, .int .i64 0, .int .i64 0, .int .i64 0]:= .of
instance:FieldTy prog 109 0 0:= .of underlying109
instance:FieldTy prog 109 1 1:= .of underlying109
instance:FieldTy prog 109 2 2:= .of underlying109
instance:FieldTy prog 109 3 3:= .of underlying109
instance c110:CellTy prog 110:= .of underlying110
instance c111:CellTy prog 111:= .of underlying111
instance c123:CellTy prog 123:= .of underlying123
instance s123:SliceTy prog 123 125 4 56 [.int .i64 0, .string bE, .int .i64 0, .slice none 0 0]:= .ofS underlying123
instance r125:RowTy prog 125 4:= .of underlying125
instance:ZeroTy prog 125 [.int .i64 0, .string bE, .int .i64 0, .slice none 0 0]:= .of
instance:FieldTy prog 125 0 0:= .of underlying125
instance:FieldTy prog 125 1 1:= .of underlying125
instance:FieldTy prog 125 2 2:= .of underlying125
instance:FieldTy prog 125 3 3:= .of underlying125
instance c140:CellTy prog 140:= .of underlying140
instance c141:CellTy prog 141:= .of underlying141
instance:CellTy prog 147:= .of underlying147
instance s147:SliceTy prog 147 269 6 112 [.int .i64 0, .string bE, .string bE, .slice none 0 0, .slice none 0 0, .slice none 0 0]:= .ofS underlying147
instance:RowTy prog 149 3:= .of underlying149
instance:ZeroTy prog 149 [.string bE, .slice none 0 0, .slice none 0 0]:= .of
instance:FieldTy prog 149 0 0:= .of underlying149
instance:FieldTy prog 149 1 1:= .of underlying149
instance:FieldTy prog 149 2 2:= .of underlying149
instance c158:CellTy prog 158:= .of underlying158
instance s158:SliceTy prog 158 164 3 72 [.slice none 0 0, .slice none 0 0, .slice none 0 0]:= .ofS underlying158
instance:FieldTy prog 160 0 0:= .of underlying160
instance c161:CellTy prog 161:= .of underlying161
instance s161:SliceTy prog 161 166 1 24 [.slice none 0 0]:= .ofV underlying161
instance c162:CellTy prog 162:= .of underlying162
instance s162:SliceTy prog 162 165 1 24 [.slice none 0 0]:= .ofV underlying162
instance r164:RowTy prog 164 3:= .of underlying164
instance:ZeroTy prog 164 [.slice none 0 0, .slice none 0 0, .slice none 0 0]:= .of
instance:FieldTy prog 164 0 0:= .of underlying164
instance:FieldTy prog 164 1 1:= .of underlying164
instance:FieldTy prog 164 2 2:= .of underlying164
instance:CellTy prog 165:= .of underlying165
instance s165:SliceTy prog 165 4 1 1 [.bool false]:= .ofV underlying165
instance c166:CellTy prog 166:= .of underlying166
instance s166:SliceTy prog 166 42 3 40 [.int .i64 0, .int .i64 0, .slice none 0 0]:= .ofS underlying166
instance z171:ZeroTy prog 171 [.pointer none]:= .of
instance z173:ZeroTy prog 173 [.pointer none, .slice none 0 0]:= .of
instance r180:RowTy prog 180 4:= .of underlying180
instance:ZeroTy prog 180 [.string bE, .string bE, .int .i64 0, .int .i64 0]:= .of
instance:FieldTy prog 180 2 2:= .of underlying180
instance:FieldTy prog 180 3 3:= .of underlying180
instance c182:CellTy prog 182:= .of underlying182
instance:RowTy prog 190 2:= .of underlying190
instance:ZeroTy prog 190 [.string bE, .bool false]:= .of
instance:FieldTy prog 190 0 0:= .of underlying190
instance:FieldTy prog 190 1 1:= .of underlying190
instance:RowTy prog 191 2:= .of underlying191
instance:ZeroTy prog 191 [.string bE, .bool false]:= .of
instance:FieldTy prog 191 0 0:= .of underlying191
instance:RowTy prog 192 3:= .of underlying192
instance:ZeroTy prog 192 [.string bE, .string bE, .int .i64 0]:= .of
instance:FieldTy prog 192 0 0:= .of underlying192
instance:FieldTy prog 192 1 1:= .of underlying192
instance:FieldTy prog 192 2 2:= .of underlying192
instance:RowTy prog 194 3:= .of underlying194
instance:ZeroTy prog 194 [.string bE, .int .i64 0, .int .i64 0]:= .of
instance:FieldTy prog 194 0 0:= .of underlying194
instance:FieldTy prog 194 1 1:= .of underlying194
instance:FieldTy prog 194 2 2:= .of underlying194
instance:CellTy prog 195:= .of underlying195
instance s195:SliceTy prog 195 149 3 64 [.string bE, .slice none 0 0, .slice none 0 0]:= .ofS underlying195
instance:CellTy prog 198:= .of underlying198
instance s198:SliceTy prog 198 208 2 32 [.int .u8 0, .slice none 0 0]:= .ofS underlying198
instance:RowTy prog 200 4:= .of underlying200
instance:ZeroTy prog 200 [.int .u8 0, .int .u8 0, .slice none 0 0, .slice none 0 0]:= .of
instance:FieldTy prog 200 0 0:= .of underlying200
instance:FieldTy prog 200 1 1:= .of underlying200
instance:FieldTy prog 200 2 2:= .of underlying200
instance:FieldTy prog 200 3 3:= .of underlying200
instance c201:CellTy prog 201:= .of underlying201
instance:CellTy prog 202:= .of underlying202
instance s202:SliceTy prog 202 203 1 24 [.slice none 0 0]:= .ofV underlying202
instance:CellTy prog 203:= .of underlying203
instance:ZeroTy prog 203 [.slice none 0 0]:= .of
instance s203:SliceTy prog 203 3 1 8 [.int .i64 0]:= .ofV underlying203
instance:RowTy prog 206 8:= .of underlying206
instance:ZeroTy prog 206 [.int .i64 0, .int .i64 0, .int .i64 0, .int .i64 0, .slice none 0 0, .int .i64 0, .slice none 0 0, .int .i64 0]:= .of
instance:FieldTy prog 206 0 0:= .of underlying206
instance:FieldTy prog 206 1 1:= .of underlying206
instance:FieldTy prog 206 2 2:= .of underlying206
instance:FieldTy prog 206 3 3:= .of underlying206
instance:FieldTy prog 206 4 4:= .of underlying206
instance:FieldTy prog 206 5 5:= .of underlying206
instance:FieldTy prog 206 6 6:= .of underlying206
instance:FieldTy prog 206 7 7:= .of underlying206
instance:RowTy prog 208 2:= .of underlying208
instance:ZeroTy prog 208 [.int .u8 0, .slice none 0 0]:= .of
instance:FieldTy prog 208 0 0:= .of underlying208
instance:FieldTy prog 208 1 1:= .of underlying208
instance:CellTy prog 211:= .of underlying211
instance z212:ZeroTy prog 212 [.string bE, .slice none 0 0, .slice none 0 0, .slice none 0 0, .string bE, .string bE, .string bE, .int .i64 0]:= .of
instance z213:ZeroTy prog 213 [.string bE, .slice none 0 0, .slice none 0 0, .slice none 0 0, .string bE, .string bE, .string bE, .int .i64 0]:= .of
instance:FieldTy prog 213 0 0:= .of underlying213
instance:FieldTy prog 213 1 4:= .of underlying213
instance:FieldTy prog 213 2 5:= .of underlying213
instance c214:CellTy prog 214:= .of underlying214
instance c217:CellTy prog 217:= .of underlying217
instance s217:SliceTy prog 217 74 1 24 [.slice none 0 0]:= .ofV underlying217
instance:FieldTy prog 219 0 0:= .of underlying219
instance:FieldTy prog 219 1 4:= .of underlying219
instance:FieldTy prog 219 2 5:= .of underlying219
instance:FieldTy prog 219 3 6:= .of underlying219
instance:FieldTy prog 219 4 7:= .of underlying219
instance:FieldTy prog 219 5 8:= .of underlying219
instance:FieldTy prog 219 6 9:= .of underlying219
instance:FieldTy prog 219 7 10:= .of underlying219
instance:CellTy prog 227:= .of underlying227
instance r241:RowTy prog 241 3:= .of underlying241
instance:FieldTy prog 241 0 0:= .of underlying241
instance:FieldTy prog 241 1 1:= .of underlying241
instance:FieldTy prog 241 2 2:= .of underlying241
instance c261:CellTy prog 261:= .of underlying261
instance:ZeroTy prog 261 [.pointer none]:= .of
instance c265:CellTy prog 265:= .of underlying265
instance s265:SliceTy prog 265 331 3 32 [.int .u8 0, .string bE, .int .i64 0]:= .ofS underlying265
instance fl267_0:FieldTy prog 267 0 0:= .of underlying267
instance:FieldTy prog 267 5 8:= .of underlying267
instance r269:RowTy prog 269 6:= .of underlying269
instance:ZeroTy prog 269 [.int .i64 0, .string bE, .string bE, .slice none 0 0, .slice none 0 0, .slice none 0 0]:= .of
instance:FieldTy prog 269 0 0:= .of underlying269
instance:FieldTy prog 269 1 1:= .of underlying269
instance:FieldTy prog 269 2 2:= .of underlying269
instance:FieldTy prog 269 3 3:= .of underlying269
instance:FieldTy prog 269 4 4:= .of underlying269
instance:FieldTy prog 269 5 5:= .of underlying269
instance r331:RowTy prog 331 3:= .of underlying331
instance z331:ZeroTy prog 331 [.int .u8 0, .string bE, .int .i64 0]:= .of
instance:ZeroTy prog 342 [.int .u8 0, .int .u8 0, .int .u8 0, .int .u8 0, .int .u8 0, .int .u8 0, .int .u8 0, .int .u8 0, .int .u8 0, .int .u8 0, .int .u8 0, .int .u8 0, .int .u8 0, .int .u8 0, .int .u8 0, .int .u8 0, .int .u8 0, .int .u8 0, .int .u8 0, .int .u8 0, .int .u8 0, .int .u8 0, .int .u8 0, .int .u8 0]:= .of
instance:RowTy prog 353 6:= .of underlying353
instance:ZeroTy prog 353 [.bool false, .bool false, .int .i64 0, .int .i64 0, .bool false, .bool false]:= .of
instance:FieldTy prog 353 0 0:= .of underlying353
instance:FieldTy prog 353 1 1:= .of underlying353
instance:FieldTy prog 353 2 2:= .of underlying353
instance:FieldTy prog 353 3 3:= .of underlying353
instance:FieldTy prog 353 4 4:= .of underlying353
instance:FieldTy prog 353 5 5:= .of underlying353
instance:FieldTy prog 362 0 0:= .of underlying362
instance:FieldTy prog 362 1 1:= .of underlying362
instance:FieldTy prog 362 2 4:= .of underlying362
instance:FieldTy prog 362 3 7:= .of underlying362
instance:FieldTy prog 362 4 8:= .of underlying362
instance:RowTy prog 367 4:= .of underlying367
instance:ZeroTy prog 367 [.int .i64 0, .bool false, .int .i64 0, .string bE]:= .of
instance:FieldTy prog 367 0 0:= .of underlying367
instance:FieldTy prog 367 1 1:= .of underlying367
instance:ZeroTy prog 383 [.int .u8 0, .int .u8 0, .int .u8 0, .int .u8 0, .int .u8 0, .int .u8 0, .int .u8 0, .int .u8 0, .int .u8 0, .int .u8 0, .int .u8 0, .int .u8 0, .int .u8 0, .int .u8 0, .int .u8 0, .int .u8 0, .int .u8 0, .int .u8 0, .int .u8 0, .int .u8 0, .int .u8 0, .int .u8 0, .int .u8 0, .int .u8 0, .int .u8 0, .int .u8 0, .int .u8 0, .int .u8 0, .int .u8 0, .int .u8 0, .int .u8 0, .int .u8 0, .int .u8 0, .int .u8 0, .int .u8 0, .int .u8 0, .int .u8 0, .int .u8 0, .int .u8 0, .int .u8 0, .int .u8 0, .int .u8 0, .int .u8 0, .int .u8 0, .int .u8 0, .int .u8 0, .int .u8 0, .int .u8 0, .int .u8 0, .int .u8 0, .int .u8 0, .int .u8 0, .int .u8 0, .int .u8 0, .int .u8 0, .int .u8 0, .int .u8 0, .int .u8 0, .int .u8 0, .int .u8 0, .int .u8 0, .int .u8 0, .int .u8 0, .int .u8 0, .int .u8 0]:= .of
theorem ca12:callable prog 12=true:=by kernel_rfl
theorem ca13:callable prog 13=true:=by kernel_rfl
theorem ca15:callable prog 15=true:=by kernel_rfl
theorem ca22:callable prog 22=true:=by kernel_rfl
theorem ca23:callable prog 23=true:=by kernel_rfl
theorem ca24:callable prog 24=true:=by kernel_rfl
theorem ca25:callable prog 25=true:=by kernel_rfl
theorem ca26:callable prog 26=true:=by kernel_rfl
theorem ca27:callable prog 27=true:=by kernel_rfl
theorem ca29:callable prog 29=true:=by kernel_rfl
theorem ca30:callable prog 30=true:=by kernel_rfl
theorem ca35:callable prog 35=true:=by kernel_rfl
theorem ca46:callable prog 46=true:=by kernel_rfl
theorem ca48:callable prog 48=true:=by kernel_rfl
theorem ca49:callable prog 49=true:=by kernel_rfl
theorem ca50:callable prog 50=true:=by kernel_rfl
theorem ca57:callable prog 57=true:=by kernel_rfl
theorem ca58:callable prog 58=true:=by kernel_rfl
theorem ca59:callable prog 59=true:=by kernel_rfl
theorem ca60:callable prog 60=true:=by kernel_rfl
theorem ca61:callable prog 61=true:=by kernel_rfl
theorem ca62:callable prog 62=true:=by kernel_rfl
theorem ca63:callable prog 63=true:=by kernel_rfl
theorem ca64:callable prog 64=true:=by kernel_rfl
theorem ca65:callable prog 65=true:=by kernel_rfl
theorem ca66:callable prog 66=true:=by kernel_rfl
theorem ca67:callable prog 67=true:=by kernel_rfl
theorem ca68:callable prog 68=true:=by kernel_rfl
theorem ca69:callable prog 69=true:=by kernel_rfl
theorem ca70:callable prog 70=true:=by kernel_rfl
theorem ca71:callable prog 71=true:=by kernel_rfl
theorem ca72:callable prog 72=true:=by kernel_rfl
theorem ca73:callable prog 73=true:=by kernel_rfl
theorem ca88:callable prog 88=true:=by kernel_rfl
theorem ca108:callable prog 108=true:=by kernel_rfl
theorem ca110:callable prog 110=true:=by kernel_rfl
theorem ca111:callable prog 111=true:=by kernel_rfl
theorem ca112:callable prog 112=true:=by kernel_rfl
theorem ca113:callable prog 113=true:=by kernel_rfl
theorem ca114:callable prog 114=true:=by kernel_rfl
theorem ca115:callable prog 115=true:=by kernel_rfl
theorem ca116:callable prog 116=true:=by kernel_rfl
theorem ca117:callable prog 117=true:=by kernel_rfl
theorem ca118:callable prog 118=true:=by kernel_rfl
theorem ca119:callable prog 119=true:=by kernel_rfl
theorem ca120:callable prog 120=true:=by kernel_rfl
theorem ca121:callable prog 121=true:=by kernel_rfl
theorem ca122:callable prog 122=true:=by kernel_rfl
theorem ca123:callable prog 123=true:=by kernel_rfl
theorem ca124:callable prog 124=true:=by kernel_rfl
theorem ca125:callable prog 125=true:=by kernel_rfl
theorem ca126:callable prog 126=true:=by kernel_rfl
theorem ca127:callable prog 127=true:=by kernel_rfl
theorem ca128:callable prog 128=true:=by kernel_rfl
theorem ca129:callable prog 129=true:=by kernel_rfl
theorem ca130:callable prog 130=true:=by kernel_rfl
theorem ca131:callable prog 131=true:=by kernel_rfl
theorem ca132:callable prog 132=true:=by kernel_rfl
theorem ca133:callable prog 133=true:=by kernel_rfl
theorem ca134:callable prog 134=true:=by kernel_rfl
theorem ca135:callable prog 135=true:=by kernel_rfl
theorem ca142:callable prog 142=true:=by kernel_rfl
theorem ca143:callable prog 143=true:=by kernel_rfl
theorem ca144:callable prog 144=true:=by kernel_rfl
theorem ca145:callable prog 145=true:=by kernel_rfl
theorem ca146:callable prog 146=true:=by kernel_rfl
theorem ca147:callable prog 147=true:=by kernel_rfl
theorem ca148:callable prog 148=true:=by kernel_rfl
theorem ca149:callable prog 149=true:=by kernel_rfl
theorem ca156:callable prog 156=true:=by kernel_rfl
theorem ca171:callable prog 171=true:=by kernel_rfl
theorem ca176:callable prog 176=true:=by kernel_rfl
theorem ca177:callable prog 177=true:=by kernel_rfl
theorem ca178:callable prog 178=true:=by kernel_rfl
theorem ca179:callable prog 179=true:=by kernel_rfl
theorem ca180:callable prog 180=true:=by kernel_rfl
theorem ca181:callable prog 181=true:=by kernel_rfl
theorem ca182:callable prog 182=true:=by kernel_rfl
theorem ca183:callable prog 183=true:=by kernel_rfl
theorem ca184:callable prog 184=true:=by kernel_rfl
theorem ca185:callable prog 185=true:=by kernel_rfl
theorem ca186:callable prog 186=true:=by kernel_rfl
theorem ca187:callable prog 187=true:=by kernel_rfl
theorem ca189:callable prog 189=true:=by kernel_rfl
theorem ca190:callable prog 190=true:=by kernel_rfl
theorem ca195:callable prog 195=true:=by kernel_rfl
theorem ca196:callable prog 196=true:=by kernel_rfl
theorem ca210:callable prog 210=true:=by kernel_rfl
theorem ca211:callable prog 211=true:=by kernel_rfl
theorem ca212:callable prog 212=true:=by kernel_rfl
theorem ca213:callable prog 213=true:=by kernel_rfl
theorem ca220:callable prog 220=true:=by kernel_rfl
theorem ca221:callable prog 221=true:=by kernel_rfl
theorem ca222:callable prog 222=true:=by kernel_rfl
theorem ca234:callable prog 234=true:=by kernel_rfl
theorem ca235:callable prog 235=true:=by kernel_rfl
theorem ca236:callable prog 236=true:=by kernel_rfl
theorem ca237:callable prog 237=true:=by kernel_rfl
theorem ca238:callable prog 238=true:=by kernel_rfl
theorem ca239:callable prog 239=true:=by kernel_rfl
theorem ca240:callable prog 240=true:=by kernel_rfl
theorem ca241:callable prog 241=true:=by kernel_rfl
theorem ca244:callable prog 244=true:=by kernel_rfl
theorem ca250:callable prog 250=true:=by kernel_rfl
theorem mixed:prog.follows .mixedOrders=true:=by kernel_rfl
abbrev Dz:=Does prog
end Go.Proofs.YtllalpnmagpkfaaGreatDoor
