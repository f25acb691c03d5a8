/- The table of types of this seat, in the words of the logic; printed by sx.py. -/
import Derived.Test.YtihgdnjkofpgiaaGreatDoorL3
import Derived.Test.YtihgdnjkofpgiaaGreatDoorProg
set_option linter.unusedVariables false
set_option linter.unusedSimpArgs false
namespace Go.Proofs.YtihgdnjkofpgiaaGreatDoor
open Go.Sep
instance c1:CellTy Tryz.prog 1:= .of Tryz.underlying1
instance c2:CellTy Tryz.prog 2:= .of Tryz.underlying2
instance z2:ZeroTy Tryz.prog 2 [.int .i64 0]:= .of
instance c3:CellTy Tryz.prog 3:= .of Tryz.underlying3
instance z3:ZeroTy Tryz.prog 3 [.int .i64 0]:= .of
instance c4:CellTy Tryz.prog 4:= .of Tryz.underlying4
instance z4:ZeroTy Tryz.prog 4 [.bool false]:= .of
instance c5:CellTy Tryz.prog 5:= .of Tryz.underlying5
instance z5:ZeroTy Tryz.prog 5 [.int .u8 0]:= .of
instance c6:CellTy Tryz.prog 6:= .of Tryz.underlying6
instance c9:CellTy Tryz.prog 9:= .of Tryz.underlying9
instance z9:ZeroTy Tryz.prog 9 [.string bE]:= .of
instance c10:CellTy Tryz.prog 10:= .of Tryz.underlying10
instance c11:CellTy Tryz.prog 11:= .of Tryz.underlying11
instance c12:CellTy Tryz.prog 12:= .of Tryz.underlying12
instance c15:CellTy Tryz.prog 15:= .of Tryz.underlying15
instance c16:CellTy Tryz.prog 16:= .of Tryz.underlying16
instance c20:CellTy Tryz.prog 20:= .of Tryz.underlying20
instance z20:ZeroTy Tryz.prog 20 [.nilIface]:= .of
instance c21:CellTy Tryz.prog 21:= .of Tryz.underlying21
instance c22:CellTy Tryz.prog 22:= .of Tryz.underlying22
instance s22:SliceTy Tryz.prog 22 5 1 1 [.int .u8 0]:= .ofV Tryz.underlying22
instance c23:CellTy Tryz.prog 23:= .of Tryz.underlying23
instance c27:CellTy Tryz.prog 27:= .of Tryz.underlying27
instance c29:CellTy Tryz.prog 29:= .of Tryz.underlying29
instance c34:CellTy Tryz.prog 34:= .of Tryz.underlying34
instance c36:CellTy Tryz.prog 36:= .of Tryz.underlying36
instance z37:ZeroTy Tryz.prog 37 [.string bE, .slice none 0 0, .slice none 0 0]:= .of
instance c40:CellTy Tryz.prog 40:= .of Tryz.underlying40
instance c52:CellTy Tryz.prog 52:= .of Tryz.underlying52
instance:CellTy Tryz.prog 54:= .of Tryz.underlying54
instance s54:SliceTy Tryz.prog 54 9 1 16 [.string bE]:= .ofV Tryz.underlying54
instance:SliceTy Tryz.prog 57 3 1 8 [.int .i64 0]:= .ofV Tryz.underlying57
instance c60:CellTy Tryz.prog 60:= .of Tryz.underlying60
instance r63:RowTy Tryz.prog 63 3:= .of Tryz.underlying63
instance:ZeroTy Tryz.prog 63 [.int .i64 0, .int .i64 0, .slice none 0 0]:= .of
instance c65:CellTy Tryz.prog 65:= .of Tryz.underlying65
instance c66:CellTy Tryz.prog 66:= .of Tryz.underlying66
instance c67:CellTy Tryz.prog 67:= .of Tryz.underlying67
instance c70:CellTy Tryz.prog 70:= .of Tryz.underlying70
instance s70:SliceTy Tryz.prog 70 169 2 24 [.string bE, .bool false]:= .ofS Tryz.underlying70
instance c71:CellTy Tryz.prog 71:= .of Tryz.underlying71
instance s71:SliceTy Tryz.prog 71 162 3 40 [.string bE, .string bE, .int .i64 0]:= .ofS Tryz.underlying71
instance c72:CellTy Tryz.prog 72:= .of Tryz.underlying72
instance s72:SliceTy Tryz.prog 72 107 3 64 [.string bE, .slice none 0 0, .slice none 0 0]:= .ofS Tryz.underlying72
instance r74:RowTy Tryz.prog 74 4:= .of Tryz.underlying74
instance:ZeroTy Tryz.prog 74 [.string bE, .slice none 0 0, .slice none 0 0, .slice none 0 0]:= .of
instance:FieldTy Tryz.prog 74 0 0:= .of Tryz.underlying74
instance:FieldTy Tryz.prog 74 1 1:= .of Tryz.underlying74
instance:FieldTy Tryz.prog 74 2 2:= .of Tryz.underlying74
instance:FieldTy Tryz.prog 74 3 3:= .of Tryz.underlying74
instance:CellTy Tryz.prog 88:= .of Tryz.underlying88
instance:ZeroTy Tryz.prog 88 [.slice none 0 0]:= .of
instance s88:SliceTy Tryz.prog 88 92 3 32 [.string bE, .int .u8 0, .int .i64 0]:= .ofS Tryz.underlying88
instance:CellTy Tryz.prog 90:= .of Tryz.underlying90
instance:RowTy Tryz.prog 92 3:= .of Tryz.underlying92
instance:ZeroTy Tryz.prog 92 [.string bE, .int .u8 0, .int .i64 0]:= .of
instance:FieldTy Tryz.prog 92 0 0:= .of Tryz.underlying92
instance:FieldTy Tryz.prog 92 1 1:= .of Tryz.underlying92
instance:FieldTy Tryz.prog 92 2 2:= .of Tryz.underlying92
instance r96:RowTy Tryz.prog 96 32:= .of Tryz.underlying96
instance z96:ZeroTy Tryz.prog 96 [.int .u8 0, .int .u8 0, .int .u8 0, .int .u8 0, .int .u8 0, .int .u8 0, .int .u8 0, .int .u8 0, .int .u8 0, .int .u8 0, .int .u8 0, .int .u8 0, .int .u8 0, .int .u8 0, .int .u8 0, .int .u8 0, .int .u8 0, .int .u8 0, .int .u8 0, .int .u8 0, .int .u8 0, .int .u8 0, .int .u8 0, .int .u8 0, .int .u8 0, .int .u8 0, .int .u8 0, .int .u8 0, .int .u8 0, .int .u8 0, .int .u8 0, .int .u8 0]:= .of
instance:CellTy Tryz.prog 105:= .of Tryz.underlying105
instance s105:SliceTy Tryz.prog 105 117 1 24 [.slice none 0 0]:= .ofS Tryz.underlying105
instance r107:RowTy Tryz.prog 107 3:= .of Tryz.underlying107
instance:ZeroTy Tryz.prog 107 [.string bE, .slice none 0 0, .slice none 0 0]:= .of
instance:FieldTy Tryz.prog 107 0 0:= .of Tryz.underlying107
instance:FieldTy Tryz.prog 107 1 1:= .of Tryz.underlying107
instance:FieldTy Tryz.prog 107 2 2:= .of Tryz.underlying107
instance:FieldTy Tryz.prog 110 0 0:= .of Tryz.underlying110
instance:FieldTy Tryz.prog 110 1 4:= .of Tryz.underlying110
instance:FieldTy Tryz.prog 110 2 5:= .of Tryz.underlying110
instance:FieldTy Tryz.prog 110 3 37:= .of Tryz.underlying110
instance:CellTy Tryz.prog 115:= .of Tryz.underlying115
instance s115:SliceTy Tryz.prog 115 120 3 64 [.string bE, .slice none 0 0, .slice none 0 0]:= .ofS Tryz.underlying115
instance r117:RowTy Tryz.prog 117 1:= .of Tryz.underlying117
instance:ZeroTy Tryz.prog 117 [.slice none 0 0]:= .of
instance:FieldTy Tryz.prog 117 0 0:= .of Tryz.underlying117
instance c118:CellTy Tryz.prog 118:= .of Tryz.underlying118
instance s118:SliceTy Tryz.prog 118 212 6 112 [.int .u8 0, .string bE, .string bE, .slice none 0 0, .slice none 0 0, .slice none 0 0]:= .ofS Tryz.underlying118
instance r120:RowTy Tryz.prog 120 3:= .of Tryz.underlying120
instance:ZeroTy Tryz.prog 120 [.string bE, .slice none 0 0, .slice none 0 0]:= .of
instance:FieldTy Tryz.prog 120 0 0:= .of Tryz.underlying120
instance:FieldTy Tryz.prog 120 1 1:= .of Tryz.underlying120
instance:FieldTy Tryz.prog 120 2 2:= .of Tryz.underlying120
instance c133:CellTy Tryz.prog 133:= .of Tryz.underlying133
instance:SliceTy Tryz.prog 133 139 3 72 [.slice none 0 0, .slice none 0 0, .slice none 0 0]:= .ofS Tryz.underlying133
instance:FieldTy Tryz.prog 135 0 0:= .of Tryz.underlying135
instance:FieldTy Tryz.prog 139 0 0:= .of Tryz.underlying139
instance:CellTy Tryz.prog 148:= .of Tryz.underlying148
instance:ZeroTy Tryz.prog 150 [.pointer none, .slice none 0 0]:= .of
instance:FieldTy Tryz.prog 150 0 0:= .of Tryz.underlying150
instance:FieldTy Tryz.prog 150 1 1:= .of Tryz.underlying150
instance:RowTy Tryz.prog 162 3:= .of Tryz.underlying162
instance:ZeroTy Tryz.prog 162 [.string bE, .string bE, .int .i64 0]:= .of
instance:FieldTy Tryz.prog 162 0 0:= .of Tryz.underlying162
instance:FieldTy Tryz.prog 162 1 1:= .of Tryz.underlying162
instance:FieldTy Tryz.prog 162 2 2:= .of Tryz.underlying162
instance r169:RowTy Tryz.prog 169 2:= .of Tryz.underlying169
instance:ZeroTy Tryz.prog 169 [.string bE, .bool false]:= .of
instance:FieldTy Tryz.prog 169 0 0:= .of Tryz.underlying169
instance:FieldTy Tryz.prog 169 1 1:= .of Tryz.underlying169
instance c209:CellTy Tryz.prog 209:= .of Tryz.underlying209
instance c210:CellTy Tryz.prog 210:= .of Tryz.underlying210
instance s210:SliceTy Tryz.prog 210 241 4 56 [.int .u8 0, .string bE, .int .i64 0, .slice none 0 0]:= .ofS Tryz.underlying210
instance r212:RowTy Tryz.prog 212 6:= .of Tryz.underlying212
instance z212:ZeroTy Tryz.prog 212 [.int .u8 0, .string bE, .string bE, .slice none 0 0, .slice none 0 0, .slice none 0 0]:= .of
instance:FieldTy Tryz.prog 212 0 0:= .of Tryz.underlying212
instance:FieldTy Tryz.prog 212 1 1:= .of Tryz.underlying212
instance:FieldTy Tryz.prog 212 2 2:= .of Tryz.underlying212
instance:FieldTy Tryz.prog 212 3 3:= .of Tryz.underlying212
instance:FieldTy Tryz.prog 212 4 4:= .of Tryz.underlying212
instance:FieldTy Tryz.prog 212 5 5:= .of Tryz.underlying212
instance c219:CellTy Tryz.prog 219:= .of Tryz.underlying219
instance:ZeroTy Tryz.prog 219 [.pointer none]:= .of
instance c223:CellTy Tryz.prog 223:= .of Tryz.underlying223
instance s223:SliceTy Tryz.prog 223 288 3 32 [.int .u8 0, .string bE, .int .i64 0]:= .ofS Tryz.underlying223
instance fl225_0:FieldTy Tryz.prog 225 0 0:= .of Tryz.underlying225
instance:FieldTy Tryz.prog 225 5 8:= .of Tryz.underlying225
instance:FieldTy Tryz.prog 230 0 0:= .of Tryz.underlying230
instance:FieldTy Tryz.prog 230 1 2:= .of Tryz.underlying230
instance c239:CellTy Tryz.prog 239:= .of Tryz.underlying239
instance r241:RowTy Tryz.prog 241 4:= .of Tryz.underlying241
instance:ZeroTy Tryz.prog 241 [.int .u8 0, .string bE, .int .i64 0, .slice none 0 0]:= .of
instance:FieldTy Tryz.prog 241 0 0:= .of Tryz.underlying241
instance:FieldTy Tryz.prog 241 1 1:= .of Tryz.underlying241
instance:FieldTy Tryz.prog 241 2 2:= .of Tryz.underlying241
instance:FieldTy Tryz.prog 241 3 3:= .of Tryz.underlying241
instance:ZeroTy Tryz.prog 267 [.int .u8 0, .int .u8 0, .int .u8 0, .int .u8 0, .int .u8 0, .int .u8 0, .int .u8 0, .int .u8 0, .int .u8 0, .int .u8 0, .int .u8 0, .int .u8 0, .int .u8 0, .int .u8 0, .int .u8 0, .int .u8 0, .int .u8 0, .int .u8 0, .int .u8 0, .int .u8 0, .int .u8 0, .int .u8 0, .int .u8 0, .int .u8 0]:= .of
instance c268:CellTy Tryz.prog 268:= .of Tryz.underlying268
instance c282:CellTy Tryz.prog 282:= .of Tryz.underlying282
instance r288:RowTy Tryz.prog 288 3:= .of Tryz.underlying288
instance z288:ZeroTy Tryz.prog 288 [.int .u8 0, .string bE, .int .i64 0]:= .of
instance r294:RowTy Tryz.prog 294 8:= .of Tryz.underlying294
instance:ZeroTy Tryz.prog 294 [.int .u32 0, .int .u32 0, .int .u32 0, .int .u32 0, .int .u32 0, .int .u32 0, .int .u32 0, .int .u32 0]:= .of
instance r297:RowTy Tryz.prog 297 73:= .of Tryz.underlying297
instance z297:ZeroTy Tryz.prog 297 [.int .u32 0, .int .u32 0, .int .u32 0, .int .u32 0, .int .u32 0, .int .u32 0, .int .u32 0, .int .u32 0, .int .u8 0, .int .u8 0, .int .u8 0, .int .u8 0, .int .u8 0, .int .u8 0, .int .u8 0, .int .u8 0, .int .u8 0, .int .u8 0, .int .u8 0, .int .u8 0, .int .u8 0, .int .u8 0, .int .u8 0, .int .u8 0, .int .u8 0, .int .u8 0, .int .u8 0, .int .u8 0, .int .u8 0, .int .u8 0, .int .u8 0, .int .u8 0, .int .u8 0, .int .u8 0, .int .u8 0, .int .u8 0, .int .u8 0, .int .u8 0, .int .u8 0, .int .u8 0, .int .u8 0, .int .u8 0, .int .u8 0, .int .u8 0, .int .u8 0, .int .u8 0, .int .u8 0, .int .u8 0, .int .u8 0, .int .u8 0, .int .u8 0, .int .u8 0, .int .u8 0, .int .u8 0, .int .u8 0, .int .u8 0, .int .u8 0, .int .u8 0, .int .u8 0, .int .u8 0, .int .u8 0, .int .u8 0, .int .u8 0, .int .u8 0, .int .u8 0, .int .u8 0, .int .u8 0, .int .u8 0, .int .u8 0, .int .u8 0, .int .u8 0, .int .u8 0, .int .u64 0]:= .of
instance fl297_0:FieldTy Tryz.prog 297 0 0:= .of Tryz.underlying297
instance:FieldTy Tryz.prog 297 1 8:= .of Tryz.underlying297
instance fl297_2:FieldTy Tryz.prog 297 2 72:= .of Tryz.underlying297
instance r305:RowTy Tryz.prog 305 6:= .of Tryz.underlying305
instance:ZeroTy Tryz.prog 305 [.bool false, .bool false, .int .i64 0, .int .i64 0, .bool false, .bool false]:= .of
instance:FieldTy Tryz.prog 305 0 0:= .of Tryz.underlying305
instance:FieldTy Tryz.prog 305 1 1:= .of Tryz.underlying305
instance:FieldTy Tryz.prog 305 2 2:= .of Tryz.underlying305
instance:FieldTy Tryz.prog 305 3 3:= .of Tryz.underlying305
instance:FieldTy Tryz.prog 305 4 4:= .of Tryz.underlying305
instance:FieldTy Tryz.prog 305 5 5:= .of Tryz.underlying305
instance:ZeroTy Tryz.prog 324 [.int .u8 0, .int .u8 0, .int .u8 0, .int .u8 0, .int .u8 0, .int .u8 0, .int .u8 0, .int .u8 0, .int .u8 0, .int .u8 0, .int .u8 0, .int .u8 0, .int .u8 0, .int .u8 0, .int .u8 0, .int .u8 0, .int .u8 0, .int .u8 0, .int .u8 0, .int .u8 0, .int .u8 0, .int .u8 0, .int .u8 0, .int .u8 0, .int .u8 0, .int .u8 0, .int .u8 0, .int .u8 0, .int .u8 0, .int .u8 0, .int .u8 0, .int .u8 0, .int .u8 0, .int .u8 0, .int .u8 0, .int .u8 0, .int .u8 0, .int .u8 0, .int .u8 0, .int .u8 0, .int .u8 0, .int .u8 0, .int .u8 0, .int .u8 0, .int .u8 0, .int .u8 0, .int .u8 0, .int .u8 0, .int .u8 0, .int .u8 0, .int .u8 0, .int .u8 0, .int .u8 0, .int .u8 0, .int .u8 0, .int .u8 0, .int .u8 0, .int .u8 0, .int .u8 0, .int .u8 0, .int .u8 0, .int .u8 0, .int .u8 0, .int .u8 0, .int .u8 0]:= .of
instance:ZeroTy Tryz.prog 340 [.int .u32 0, .int .u32 0, .int .u32 0, .int .u32 0, .int .u32 0, .int .u32 0, .int .u32 0, .int .u32 0, .int .u32 0, .int .u32 0, .int .u32 0, .int .u32 0, .int .u32 0, .int .u32 0, .int .u32 0, .int .u32 0, .int .u32 0, .int .u32 0, .int .u32 0, .int .u32 0, .int .u32 0, .int .u32 0, .int .u32 0, .int .u32 0, .int .u32 0, .int .u32 0, .int .u32 0, .int .u32 0, .int .u32 0, .int .u32 0, .int .u32 0, .int .u32 0, .int .u32 0, .int .u32 0, .int .u32 0, .int .u32 0, .int .u32 0, .int .u32 0, .int .u32 0, .int .u32 0, .int .u32 0, .int .u32 0, .int .u32 0, .int .u32 0, .int .u32 0, .int .u32 0, .int .u32 0, .int .u32 0, .int .u32 0, .int .u32 0, .int .u32 0, .int .u32 0, .int .u32 0, .int .u32 0, .int .u32 0, .int .u32 0, .int .u32 0, .int .u32 0, .int .u32 0, .int .u32 0, .int .u32 0, .int .u32 0, .int .u32 0, .int .u32 0]:= .of
instance:RowTy Tryz.prog 343 25:= .of Tryz.underlying343
instance r349:RowTy Tryz.prog 349 4:= .of Tryz.underlying349
instance:ZeroTy Tryz.prog 349 [.int .i64 0, .bool false, .int .i64 0, .string bE]:= .of
instance:FieldTy Tryz.prog 349 0 0:= .of Tryz.underlying349
instance:FieldTy Tryz.prog 349 1 1:= .of Tryz.underlying349
instance:FieldTy Tryz.prog 349 2 2:= .of Tryz.underlying349
instance:FieldTy Tryz.prog 349 3 3:= .of Tryz.underlying349
instance r364:RowTy Tryz.prog 364 39:= .of Tryz.underlying364
theorem ca9:callable Tryz.prog 9=true:=by kernel_rfl
theorem ca12:callable Tryz.prog 12=true:=by kernel_rfl
theorem ca15:callable Tryz.prog 15=true:=by kernel_rfl
theorem ca17:callable Tryz.prog 17=true:=by kernel_rfl
theorem ca19:callable Tryz.prog 19=true:=by kernel_rfl
theorem ca20:callable Tryz.prog 20=true:=by kernel_rfl
theorem ca24:callable Tryz.prog 24=true:=by kernel_rfl
theorem ca26:callable Tryz.prog 26=true:=by kernel_rfl
theorem ca28:callable Tryz.prog 28=true:=by kernel_rfl
theorem ca29:callable Tryz.prog 29=true:=by kernel_rfl
theorem ca30:callable Tryz.prog 30=true:=by kernel_rfl
theorem ca32:callable Tryz.prog 32=true:=by kernel_rfl
theorem ca33:callable Tryz.prog 33=true:=by kernel_rfl
theorem ca34:callable Tryz.prog 34=true:=by kernel_rfl
theorem ca35:callable Tryz.prog 35=true:=by kernel_rfl
theorem ca36:callable Tryz.prog 36=true:=by kernel_rfl
theorem ca37:callable Tryz.prog 37=true:=by kernel_rfl
theorem ca38:callable Tryz.prog 38=true:=by kernel_rfl
theorem ca39:callable Tryz.prog 39=true:=by kernel_rfl
theorem ca40:callable Tryz.prog 40=true:=by kernel_rfl
theorem ca42:callable Tryz.prog 42=true:=by kernel_rfl
theorem ca44:callable Tryz.prog 44=true:=by kernel_rfl
theorem ca45:callable Tryz.prog 45=true:=by kernel_rfl
theorem ca47:callable Tryz.prog 47=true:=by kernel_rfl
theorem ca51:callable Tryz.prog 51=true:=by kernel_rfl
theorem ca53:callable Tryz.prog 53=true:=by kernel_rfl
theorem ca54:callable Tryz.prog 54=true:=by kernel_rfl
theorem ca57:callable Tryz.prog 57=true:=by kernel_rfl
theorem ca58:callable Tryz.prog 58=true:=by kernel_rfl
theorem ca59:callable Tryz.prog 59=true:=by kernel_rfl
theorem ca61:callable Tryz.prog 61=true:=by kernel_rfl
theorem ca62:callable Tryz.prog 62=true:=by kernel_rfl
theorem ca64:callable Tryz.prog 64=true:=by kernel_rfl
theorem ca66:callable Tryz.prog 66=true:=by kernel_rfl
theorem ca68:callable Tryz.prog 68=true:=by kernel_rfl
theorem ca70:callable Tryz.prog 70=true:=by kernel_rfl
theorem ca75:callable Tryz.prog 75=true:=by kernel_rfl
theorem ca76:callable Tryz.prog 76=true:=by kernel_rfl
theorem ca78:callable Tryz.prog 78=true:=by kernel_rfl
theorem ca79:callable Tryz.prog 79=true:=by kernel_rfl
theorem ca80:callable Tryz.prog 80=true:=by kernel_rfl
theorem ca81:callable Tryz.prog 81=true:=by kernel_rfl
theorem ca91:callable Tryz.prog 91=true:=by kernel_rfl
theorem ca92:callable Tryz.prog 92=true:=by kernel_rfl
theorem ca93:callable Tryz.prog 93=true:=by kernel_rfl
theorem ca94:callable Tryz.prog 94=true:=by kernel_rfl
theorem ca95:callable Tryz.prog 95=true:=by kernel_rfl
theorem ca96:callable Tryz.prog 96=true:=by kernel_rfl
theorem ca97:callable Tryz.prog 97=true:=by kernel_rfl
theorem ca101:callable Tryz.prog 101=true:=by kernel_rfl
theorem ca102:callable Tryz.prog 102=true:=by kernel_rfl
theorem ca107:callable Tryz.prog 107=true:=by kernel_rfl
theorem ca108:callable Tryz.prog 108=true:=by kernel_rfl
theorem ca109:callable Tryz.prog 109=true:=by kernel_rfl
theorem ca110:callable Tryz.prog 110=true:=by kernel_rfl
theorem ca111:callable Tryz.prog 111=true:=by kernel_rfl
theorem ca112:callable Tryz.prog 112=true:=by kernel_rfl
theorem ca114:callable Tryz.prog 114=true:=by kernel_rfl
theorem ca115:callable Tryz.prog 115=true:=by kernel_rfl
theorem ca116:callable Tryz.prog 116=true:=by kernel_rfl
theorem ca117:callable Tryz.prog 117=true:=by kernel_rfl
theorem ca118:callable Tryz.prog 118=true:=by kernel_rfl
theorem ca119:callable Tryz.prog 119=true:=by kernel_rfl
theorem ca120:callable Tryz.prog 120=true:=by kernel_rfl
theorem ca121:callable Tryz.prog 121=true:=by kernel_rfl
theorem ca122:callable Tryz.prog 122=true:=by kernel_rfl
theorem ca134:callable Tryz.prog 134=true:=by kernel_rfl
theorem ca135:callable Tryz.prog 135=true:=by kernel_rfl
theorem ca142:callable Tryz.prog 142=true:=by kernel_rfl
theorem ca152:callable Tryz.prog 152=true:=by kernel_rfl
theorem ca153:callable Tryz.prog 153=true:=by kernel_rfl
theorem ca164:callable Tryz.prog 164=true:=by kernel_rfl
theorem ca165:callable Tryz.prog 165=true:=by kernel_rfl
theorem ca166:callable Tryz.prog 166=true:=by kernel_rfl
theorem ca167:callable Tryz.prog 167=true:=by kernel_rfl
theorem ca168:callable Tryz.prog 168=true:=by kernel_rfl
theorem ca169:callable Tryz.prog 169=true:=by kernel_rfl
theorem ca170:callable Tryz.prog 170=true:=by kernel_rfl
theorem ca171:callable Tryz.prog 171=true:=by kernel_rfl
theorem ca172:callable Tryz.prog 172=true:=by kernel_rfl
theorem ca173:callable Tryz.prog 173=true:=by kernel_rfl
theorem ca174:callable Tryz.prog 174=true:=by kernel_rfl
theorem ca175:callable Tryz.prog 175=true:=by kernel_rfl
theorem ca176:callable Tryz.prog 176=true:=by kernel_rfl
theorem ca184:callable Tryz.prog 184=true:=by kernel_rfl
theorem ca185:callable Tryz.prog 185=true:=by kernel_rfl
theorem ca197:callable Tryz.prog 197=true:=by kernel_rfl
theorem ca198:callable Tryz.prog 198=true:=by kernel_rfl
theorem ca209:callable Tryz.prog 209=true:=by kernel_rfl
theorem ca210:callable Tryz.prog 210=true:=by kernel_rfl
theorem ca211:callable Tryz.prog 211=true:=by kernel_rfl
theorem ca212:callable Tryz.prog 212=true:=by kernel_rfl
theorem ca213:callable Tryz.prog 213=true:=by kernel_rfl
theorem ca214:callable Tryz.prog 214=true:=by kernel_rfl
theorem ca215:callable Tryz.prog 215=true:=by kernel_rfl
theorem ca216:callable Tryz.prog 216=true:=by kernel_rfl
theorem ca218:callable Tryz.prog 218=true:=by kernel_rfl
theorem ca219:callable Tryz.prog 219=true:=by kernel_rfl
theorem ca236:callable Tryz.prog 236=true:=by kernel_rfl
theorem ca237:callable Tryz.prog 237=true:=by kernel_rfl
theorem ca238:callable Tryz.prog 238=true:=by kernel_rfl
theorem ca245:callable Tryz.prog 245=true:=by kernel_rfl
theorem ca246:callable Tryz.prog 246=true:=by kernel_rfl
theorem ca247:callable Tryz.prog 247=true:=by kernel_rfl
theorem ca257:callable Tryz.prog 257=true:=by kernel_rfl
theorem mixed:Tryz.prog.follows .mixedOrders=true:=by kernel_rfl
end Go.Proofs.YtihgdnjkofpgiaaGreatDoor
