import Derived.Test.YtmaclibfncchgaaGreatDoorEvE
import Derived.Test.YtmaclibfncchgaaGreatDoorChecked
set_option linter.all false
namespace Go.Proofs
open Go Go.Ab
@[simp] theorem Tryz.sh3 : shapeT Tryz.prog 3 = some (1, false) := by kernel_rfl
@[simp] theorem Tryz.sz3 : sizeT Tryz.prog 3 = some 1 := by kernel_rfl
@[simp] theorem Tryz.zc3 : zeroCells Tryz.prog 3 = some [(.int .i64 0)] := by kernel_rfl
@[simp] theorem Tryz.zv3 : zeroVal Tryz.prog 3 = some (.int .i64 0) := by kernel_rfl
@[simp] theorem Tryz.ob3 : okBytes Tryz.prog 3 = true := by kernel_rfl
attribute [simp] Tryz.underlying3
@[simp] theorem Tryz.sh4 : shapeT Tryz.prog 4 = some (1, false) := by kernel_rfl
@[simp] theorem Tryz.sz4 : sizeT Tryz.prog 4 = some 1 := by kernel_rfl
@[simp] theorem Tryz.zc4 : zeroCells Tryz.prog 4 = some [(.bool false)] := by kernel_rfl
@[simp] theorem Tryz.zv4 : zeroVal Tryz.prog 4 = some (.bool false) := by kernel_rfl
@[simp] theorem Tryz.ob4 : okBytes Tryz.prog 4 = true := by kernel_rfl
attribute [simp] Tryz.underlying4
@[simp] theorem Tryz.sh22 : shapeT Tryz.prog 22 = some (1, false) := by kernel_rfl
@[simp] theorem Tryz.sz22 : sizeT Tryz.prog 22 = some 1 := by kernel_rfl
@[simp] theorem Tryz.zc22 : zeroCells Tryz.prog 22 = some [.nilslice] := by kernel_rfl
@[simp] theorem Tryz.zv22 : zeroVal Tryz.prog 22 = some .nilslice := by kernel_rfl
@[simp] theorem Tryz.ec22 : elemCells Tryz.prog 22 = some 3 := by kernel_rfl
@[simp] theorem Tryz.ob22 : okBytes Tryz.prog 22 = true := by kernel_rfl
attribute [simp] Tryz.underlying22
@[simp] theorem Tryz.sh39 : shapeT Tryz.prog 39 = some (3, true) := by kernel_rfl
@[simp] theorem Tryz.sz39 : sizeT Tryz.prog 39 = some 3 := by kernel_rfl
@[simp] theorem Tryz.zc39 : zeroCells Tryz.prog 39 = some [(.int .i64 0), (.int .i64 0), .nilslice] := by kernel_rfl
@[simp] theorem Tryz.zv39 : zeroVal Tryz.prog 39 = some (.agg [(.int .i64 0), (.int .i64 0), .nilslice]) := by kernel_rfl
@[simp] theorem Tryz.ob39 : okBytes Tryz.prog 39 = true := by kernel_rfl
@[simp] theorem Tryz.fo39_0 : fieldOf Tryz.prog 39 0 = some (0, 3) := by kernel_rfl
@[simp] theorem Tryz.fo39_1 : fieldOf Tryz.prog 39 1 = some (1, 3) := by kernel_rfl
@[simp] theorem Tryz.fo39_2 : fieldOf Tryz.prog 39 2 = some (2, 36) := by kernel_rfl
@[simp] theorem Tryz.sh36 : shapeT Tryz.prog 36 = some (1, false) := by kernel_rfl
@[simp] theorem Tryz.sz36 : sizeT Tryz.prog 36 = some 1 := by kernel_rfl
@[simp] theorem Tryz.zc36 : zeroCells Tryz.prog 36 = some [.nilslice] := by kernel_rfl
@[simp] theorem Tryz.zv36 : zeroVal Tryz.prog 36 = some .nilslice := by kernel_rfl
@[simp] theorem Tryz.ec36 : elemCells Tryz.prog 36 = some 1 := by kernel_rfl
@[simp] theorem Tryz.ob36 : okBytes Tryz.prog 36 = true := by kernel_rfl
attribute [simp] Tryz.underlying36
@[simp] theorem Tryz.sh24 : shapeT Tryz.prog 24 = some (1, true) := by kernel_rfl
@[simp] theorem Tryz.sz24 : sizeT Tryz.prog 24 = some 1 := by kernel_rfl
@[simp] theorem Tryz.zc24 : zeroCells Tryz.prog 24 = some [.nilslice] := by kernel_rfl
@[simp] theorem Tryz.zv24 : zeroVal Tryz.prog 24 = some (.agg [.nilslice]) := by kernel_rfl
@[simp] theorem Tryz.ob24 : okBytes Tryz.prog 24 = true := by kernel_rfl
@[simp] theorem Tryz.fo24_0 : fieldOf Tryz.prog 24 0 = some (0, 22) := by kernel_rfl
@[simp] theorem Tryz.sh25 : shapeT Tryz.prog 25 = some (1, false) := by kernel_rfl
@[simp] theorem Tryz.sz25 : sizeT Tryz.prog 25 = some 1 := by kernel_rfl
@[simp] theorem Tryz.zc25 : zeroCells Tryz.prog 25 = some [.nilslice] := by kernel_rfl
@[simp] theorem Tryz.zv25 : zeroVal Tryz.prog 25 = some .nilslice := by kernel_rfl
@[simp] theorem Tryz.ec25 : elemCells Tryz.prog 25 = some 1 := by kernel_rfl
@[simp] theorem Tryz.ob25 : okBytes Tryz.prog 25 = true := by kernel_rfl
attribute [simp] Tryz.underlying25
@[simp] theorem Tryz.sh28 : shapeT Tryz.prog 28 = some (1, false) := by kernel_rfl
@[simp] theorem Tryz.sz28 : sizeT Tryz.prog 28 = some 1 := by kernel_rfl
@[simp] theorem Tryz.zc28 : zeroCells Tryz.prog 28 = some [(.int .i64 0)] := by kernel_rfl
@[simp] theorem Tryz.zv28 : zeroVal Tryz.prog 28 = some (.int .i64 0) := by kernel_rfl
@[simp] theorem Tryz.ob28 : okBytes Tryz.prog 28 = true := by kernel_rfl
attribute [simp] Tryz.underlying28
@[simp] theorem Tryz.sh47 : shapeT Tryz.prog 47 = some (5, true) := by kernel_rfl
@[simp] theorem Tryz.sz47 : sizeT Tryz.prog 47 = some 5 := by kernel_rfl
@[simp] theorem Tryz.zc47 : zeroCells Tryz.prog 47 = some [(.int .i64 0), (.str []), (.int .i64 0), (.int .i64 0), .nilslice] := by kernel_rfl
@[simp] theorem Tryz.zv47 : zeroVal Tryz.prog 47 = some (.agg [(.int .i64 0), (.str []), (.int .i64 0), (.int .i64 0), .nilslice]) := by kernel_rfl
@[simp] theorem Tryz.ob47 : okBytes Tryz.prog 47 = true := by kernel_rfl
@[simp] theorem Tryz.fo47_0 : fieldOf Tryz.prog 47 0 = some (0, 3) := by kernel_rfl
@[simp] theorem Tryz.fo47_1 : fieldOf Tryz.prog 47 1 = some (1, 9) := by kernel_rfl
@[simp] theorem Tryz.fo47_2 : fieldOf Tryz.prog 47 2 = some (2, 3) := by kernel_rfl
@[simp] theorem Tryz.fo47_3 : fieldOf Tryz.prog 47 3 = some (3, 3) := by kernel_rfl
@[simp] theorem Tryz.fo47_4 : fieldOf Tryz.prog 47 4 = some (4, 45) := by kernel_rfl
@[simp] theorem Tryz.sh9 : shapeT Tryz.prog 9 = some (1, false) := by kernel_rfl
@[simp] theorem Tryz.sz9 : sizeT Tryz.prog 9 = some 1 := by kernel_rfl
@[simp] theorem Tryz.zc9 : zeroCells Tryz.prog 9 = some [(.str [])] := by kernel_rfl
@[simp] theorem Tryz.zv9 : zeroVal Tryz.prog 9 = some (.str []) := by kernel_rfl
@[simp] theorem Tryz.ob9 : okBytes Tryz.prog 9 = true := by kernel_rfl
attribute [simp] Tryz.underlying9
@[simp] theorem Tryz.sh45 : shapeT Tryz.prog 45 = some (1, false) := by kernel_rfl
@[simp] theorem Tryz.sz45 : sizeT Tryz.prog 45 = some 1 := by kernel_rfl
@[simp] theorem Tryz.zc45 : zeroCells Tryz.prog 45 = some [.nilslice] := by kernel_rfl
@[simp] theorem Tryz.zv45 : zeroVal Tryz.prog 45 = some .nilslice := by kernel_rfl
@[simp] theorem Tryz.ec45 : elemCells Tryz.prog 45 = some 5 := by kernel_rfl
@[simp] theorem Tryz.ob45 : okBytes Tryz.prog 45 = true := by kernel_rfl
attribute [simp] Tryz.underlying45
@[simp] theorem Tryz.sh69 : shapeT Tryz.prog 69 = some (1, false) := by kernel_rfl
@[simp] theorem Tryz.sz69 : sizeT Tryz.prog 69 = some 1 := by kernel_rfl
@[simp] theorem Tryz.zc69 : zeroCells Tryz.prog 69 = some [.nilslice] := by kernel_rfl
@[simp] theorem Tryz.zv69 : zeroVal Tryz.prog 69 = some .nilslice := by kernel_rfl
@[simp] theorem Tryz.ec69 : elemCells Tryz.prog 69 = some 16 := by kernel_rfl
@[simp] theorem Tryz.ob69 : okBytes Tryz.prog 69 = true := by kernel_rfl
attribute [simp] Tryz.underlying69
@[simp] theorem Tryz.sh75 : shapeT Tryz.prog 75 = some (16, true) := by kernel_rfl
@[simp] theorem Tryz.sz75 : sizeT Tryz.prog 75 = some 16 := by kernel_rfl
theorem Tryz.zc75 : zeroCells Tryz.prog 75 = some [(.int .u64 0), (.int .u64 0), (.int .u64 0), (.int .u64 0), (.int .u64 0), (.int .u64 0), (.int .u64 0), (.int .u64 0), (.int .u64 0), (.int .u64 0), (.int .u64 0), (.int .u64 0), (.int .u64 0), (.int .u64 0), (.int .u64 0), (.int .u64 0)] := by kernel_rfl
theorem Tryz.zv75 : zeroVal Tryz.prog 75 = some (.agg [(.int .u64 0), (.int .u64 0), (.int .u64 0), (.int .u64 0), (.int .u64 0), (.int .u64 0), (.int .u64 0), (.int .u64 0), (.int .u64 0), (.int .u64 0), (.int .u64 0), (.int .u64 0), (.int .u64 0), (.int .u64 0), (.int .u64 0), (.int .u64 0)]) := by kernel_rfl
@[simp] theorem Tryz.ob75 : okBytes Tryz.prog 75 = true := by kernel_rfl
attribute [simp] Tryz.underlying75
@[simp] theorem Tryz.sh73 : shapeT Tryz.prog 73 = some (1, false) := by kernel_rfl
@[simp] theorem Tryz.sz73 : sizeT Tryz.prog 73 = some 1 := by kernel_rfl
@[simp] theorem Tryz.zc73 : zeroCells Tryz.prog 73 = some [(.int .u64 0)] := by kernel_rfl
@[simp] theorem Tryz.zv73 : zeroVal Tryz.prog 73 = some (.int .u64 0) := by kernel_rfl
@[simp] theorem Tryz.ob73 : okBytes Tryz.prog 73 = true := by kernel_rfl
attribute [simp] Tryz.underlying73
@[simp] theorem Tryz.sh70 : shapeT Tryz.prog 70 = some (1, false) := by kernel_rfl
@[simp] theorem Tryz.sz70 : sizeT Tryz.prog 70 = some 1 := by kernel_rfl
@[simp] theorem Tryz.ob70 : okBytes Tryz.prog 70 = true := by kernel_rfl
attribute [simp] Tryz.underlying70
@[simp] theorem Tryz.sh72 : shapeT Tryz.prog 72 = some (1, false) := by kernel_rfl
@[simp] theorem Tryz.sz72 : sizeT Tryz.prog 72 = some 1 := by kernel_rfl
@[simp] theorem Tryz.zc72 : zeroCells Tryz.prog 72 = some [.nilfunc] := by kernel_rfl
@[simp] theorem Tryz.zv72 : zeroVal Tryz.prog 72 = some .nilfunc := by kernel_rfl
@[simp] theorem Tryz.ob72 : okBytes Tryz.prog 72 = true := by kernel_rfl
attribute [simp] Tryz.underlying72
@[simp] theorem Tryz.sh77 : shapeT Tryz.prog 77 = some (1, false) := by kernel_rfl
@[simp] theorem Tryz.sz77 : sizeT Tryz.prog 77 = some 1 := by kernel_rfl
@[simp] theorem Tryz.zc77 : zeroCells Tryz.prog 77 = some [.nilptr] := by kernel_rfl
@[simp] theorem Tryz.zv77 : zeroVal Tryz.prog 77 = some .nilptr := by kernel_rfl
@[simp] theorem Tryz.ob77 : okBytes Tryz.prog 77 = true := by kernel_rfl
attribute [simp] Tryz.underlying77
@[simp] theorem Tryz.sh85 : shapeT Tryz.prog 85 = some (1, false) := by kernel_rfl
@[simp] theorem Tryz.sz85 : sizeT Tryz.prog 85 = some 1 := by kernel_rfl
@[simp] theorem Tryz.zc85 : zeroCells Tryz.prog 85 = some [(.int .u64 0)] := by kernel_rfl
@[simp] theorem Tryz.zv85 : zeroVal Tryz.prog 85 = some (.int .u64 0) := by kernel_rfl
@[simp] theorem Tryz.ob85 : okBytes Tryz.prog 85 = true := by kernel_rfl
attribute [simp] Tryz.underlying85
@[simp] theorem Tryz.sh103 : shapeT Tryz.prog 103 = some (1, false) := by kernel_rfl
@[simp] theorem Tryz.sz103 : sizeT Tryz.prog 103 = some 1 := by kernel_rfl
@[simp] theorem Tryz.ob103 : okBytes Tryz.prog 103 = true := by kernel_rfl
attribute [simp] Tryz.underlying103
@[simp] theorem Tryz.sh131 : shapeT Tryz.prog 131 = some (1, false) := by kernel_rfl
@[simp] theorem Tryz.sz131 : sizeT Tryz.prog 131 = some 1 := by kernel_rfl
@[simp] theorem Tryz.zc131 : zeroCells Tryz.prog 131 = some [.nilfunc] := by kernel_rfl
@[simp] theorem Tryz.zv131 : zeroVal Tryz.prog 131 = some .nilfunc := by kernel_rfl
@[simp] theorem Tryz.ob131 : okBytes Tryz.prog 131 = true := by kernel_rfl
attribute [simp] Tryz.underlying131
@[simp] theorem Tryz.sh145 : shapeT Tryz.prog 145 = some (1, false) := by kernel_rfl
@[simp] theorem Tryz.sz145 : sizeT Tryz.prog 145 = some 1 := by kernel_rfl
@[simp] theorem Tryz.zc145 : zeroCells Tryz.prog 145 = some [.nilslice] := by kernel_rfl
@[simp] theorem Tryz.zv145 : zeroVal Tryz.prog 145 = some .nilslice := by kernel_rfl
@[simp] theorem Tryz.ec145 : elemCells Tryz.prog 145 = some 4 := by kernel_rfl
@[simp] theorem Tryz.ob145 : okBytes Tryz.prog 145 = true := by kernel_rfl
attribute [simp] Tryz.underlying145
@[simp] theorem Tryz.sh220 : shapeT Tryz.prog 220 = some (4, true) := by kernel_rfl
@[simp] theorem Tryz.sz220 : sizeT Tryz.prog 220 = some 4 := by kernel_rfl
@[simp] theorem Tryz.zc220 : zeroCells Tryz.prog 220 = some [(.int .i64 0), (.str []), (.int .i64 0), (.int .i64 0)] := by kernel_rfl
@[simp] theorem Tryz.zv220 : zeroVal Tryz.prog 220 = some (.agg [(.int .i64 0), (.str []), (.int .i64 0), (.int .i64 0)]) := by kernel_rfl
@[simp] theorem Tryz.ob220 : okBytes Tryz.prog 220 = true := by kernel_rfl
@[simp] theorem Tryz.fo220_0 : fieldOf Tryz.prog 220 0 = some (0, 3) := by kernel_rfl
@[simp] theorem Tryz.fo220_1 : fieldOf Tryz.prog 220 1 = some (1, 9) := by kernel_rfl
@[simp] theorem Tryz.fo220_2 : fieldOf Tryz.prog 220 2 = some (2, 3) := by kernel_rfl
@[simp] theorem Tryz.fo220_3 : fieldOf Tryz.prog 220 3 = some (3, 3) := by kernel_rfl
@[simp] theorem Tryz.sh184 : shapeT Tryz.prog 184 = some (1, false) := by kernel_rfl
@[simp] theorem Tryz.sz184 : sizeT Tryz.prog 184 = some 1 := by kernel_rfl
@[simp] theorem Tryz.zc184 : zeroCells Tryz.prog 184 = some [.nilmap] := by kernel_rfl
@[simp] theorem Tryz.zv184 : zeroVal Tryz.prog 184 = some .nilmap := by kernel_rfl
@[simp] theorem Tryz.ob184 : okBytes Tryz.prog 184 = true := by kernel_rfl
attribute [simp] Tryz.underlying184
@[simp] theorem Tryz.sh210 : shapeT Tryz.prog 210 = some (1, false) := by kernel_rfl
@[simp] theorem Tryz.sz210 : sizeT Tryz.prog 210 = some 1 := by kernel_rfl
@[simp] theorem Tryz.zc210 : zeroCells Tryz.prog 210 = some [.nilptr] := by kernel_rfl
@[simp] theorem Tryz.zv210 : zeroVal Tryz.prog 210 = some .nilptr := by kernel_rfl
@[simp] theorem Tryz.ob210 : okBytes Tryz.prog 210 = true := by kernel_rfl
attribute [simp] Tryz.underlying210
@[simp] theorem Tryz.sh212 : shapeT Tryz.prog 212 = some (1, false) := by kernel_rfl
@[simp] theorem Tryz.sz212 : sizeT Tryz.prog 212 = some 1 := by kernel_rfl
@[simp] theorem Tryz.zc212 : zeroCells Tryz.prog 212 = some [.nilmap] := by kernel_rfl
@[simp] theorem Tryz.zv212 : zeroVal Tryz.prog 212 = some .nilmap := by kernel_rfl
@[simp] theorem Tryz.ob212 : okBytes Tryz.prog 212 = true := by kernel_rfl
attribute [simp] Tryz.underlying212
@[simp] theorem Tryz.sh213 : shapeT Tryz.prog 213 = some (1, false) := by kernel_rfl
@[simp] theorem Tryz.sz213 : sizeT Tryz.prog 213 = some 1 := by kernel_rfl
@[simp] theorem Tryz.zc213 : zeroCells Tryz.prog 213 = some [.nilmap] := by kernel_rfl
@[simp] theorem Tryz.zv213 : zeroVal Tryz.prog 213 = some .nilmap := by kernel_rfl
@[simp] theorem Tryz.ob213 : okBytes Tryz.prog 213 = true := by kernel_rfl
attribute [simp] Tryz.underlying213
@[simp] theorem Tryz.sh214 : shapeT Tryz.prog 214 = some (1, false) := by kernel_rfl
@[simp] theorem Tryz.sz214 : sizeT Tryz.prog 214 = some 1 := by kernel_rfl
@[simp] theorem Tryz.zc214 : zeroCells Tryz.prog 214 = some [.nilslice] := by kernel_rfl
@[simp] theorem Tryz.zv214 : zeroVal Tryz.prog 214 = some .nilslice := by kernel_rfl
@[simp] theorem Tryz.ec214 : elemCells Tryz.prog 214 = some 6 := by kernel_rfl
@[simp] theorem Tryz.ob214 : okBytes Tryz.prog 214 = true := by kernel_rfl
attribute [simp] Tryz.underlying214
@[simp] theorem Tryz.sh218 : shapeT Tryz.prog 218 = some (6, true) := by kernel_rfl
@[simp] theorem Tryz.sz218 : sizeT Tryz.prog 218 = some 6 := by kernel_rfl
@[simp] theorem Tryz.zc218 : zeroCells Tryz.prog 218 = some [(.int .i64 0), (.int .i64 0), (.int .i64 0), (.int .i64 0), (.str []), .nilslice] := by kernel_rfl
@[simp] theorem Tryz.zv218 : zeroVal Tryz.prog 218 = some (.agg [(.int .i64 0), (.int .i64 0), (.int .i64 0), (.int .i64 0), (.str []), .nilslice]) := by kernel_rfl
@[simp] theorem Tryz.ob218 : okBytes Tryz.prog 218 = true := by kernel_rfl
@[simp] theorem Tryz.fo218_0 : fieldOf Tryz.prog 218 0 = some (0, 3) := by kernel_rfl
@[simp] theorem Tryz.fo218_1 : fieldOf Tryz.prog 218 1 = some (1, 164) := by kernel_rfl
@[simp] theorem Tryz.sh164 : shapeT Tryz.prog 164 = some (5, true) := by kernel_rfl
@[simp] theorem Tryz.sz164 : sizeT Tryz.prog 164 = some 5 := by kernel_rfl
@[simp] theorem Tryz.zc164 : zeroCells Tryz.prog 164 = some [(.int .i64 0), (.int .i64 0), (.int .i64 0), (.str []), .nilslice] := by kernel_rfl
@[simp] theorem Tryz.zv164 : zeroVal Tryz.prog 164 = some (.agg [(.int .i64 0), (.int .i64 0), (.int .i64 0), (.str []), .nilslice]) := by kernel_rfl
@[simp] theorem Tryz.ob164 : okBytes Tryz.prog 164 = true := by kernel_rfl
@[simp] theorem Tryz.fo164_0 : fieldOf Tryz.prog 164 0 = some (0, 3) := by kernel_rfl
@[simp] theorem Tryz.fo164_1 : fieldOf Tryz.prog 164 1 = some (1, 3) := by kernel_rfl
@[simp] theorem Tryz.fo164_2 : fieldOf Tryz.prog 164 2 = some (2, 3) := by kernel_rfl
@[simp] theorem Tryz.fo164_3 : fieldOf Tryz.prog 164 3 = some (3, 9) := by kernel_rfl
@[simp] theorem Tryz.fo164_4 : fieldOf Tryz.prog 164 4 = some (4, 159) := by kernel_rfl
@[simp] theorem Tryz.sh159 : shapeT Tryz.prog 159 = some (1, false) := by kernel_rfl
@[simp] theorem Tryz.sz159 : sizeT Tryz.prog 159 = some 1 := by kernel_rfl
@[simp] theorem Tryz.zc159 : zeroCells Tryz.prog 159 = some [.nilslice] := by kernel_rfl
@[simp] theorem Tryz.zv159 : zeroVal Tryz.prog 159 = some .nilslice := by kernel_rfl
@[simp] theorem Tryz.ec159 : elemCells Tryz.prog 159 = some 4 := by kernel_rfl
@[simp] theorem Tryz.ob159 : okBytes Tryz.prog 159 = true := by kernel_rfl
attribute [simp] Tryz.underlying159
@[simp] theorem Tryz.sh162 : shapeT Tryz.prog 162 = some (4, true) := by kernel_rfl
@[simp] theorem Tryz.sz162 : sizeT Tryz.prog 162 = some 4 := by kernel_rfl
@[simp] theorem Tryz.zc162 : zeroCells Tryz.prog 162 = some [(.int .i64 0), (.int .i64 0), (.int .i64 0), (.str [])] := by kernel_rfl
@[simp] theorem Tryz.zv162 : zeroVal Tryz.prog 162 = some (.agg [(.int .i64 0), (.int .i64 0), (.int .i64 0), (.str [])]) := by kernel_rfl
@[simp] theorem Tryz.ob162 : okBytes Tryz.prog 162 = true := by kernel_rfl
@[simp] theorem Tryz.fo162_0 : fieldOf Tryz.prog 162 0 = some (0, 3) := by kernel_rfl
@[simp] theorem Tryz.fo162_1 : fieldOf Tryz.prog 162 1 = some (1, 3) := by kernel_rfl
@[simp] theorem Tryz.fo162_2 : fieldOf Tryz.prog 162 2 = some (2, 3) := by kernel_rfl
@[simp] theorem Tryz.fo162_3 : fieldOf Tryz.prog 162 3 = some (3, 9) := by kernel_rfl
@[simp] theorem Tryz.sh216 : shapeT Tryz.prog 216 = some (9, true) := by kernel_rfl
@[simp] theorem Tryz.sz216 : sizeT Tryz.prog 216 = some 9 := by kernel_rfl
@[simp] theorem Tryz.zc216 : zeroCells Tryz.prog 216 = some [.nilmap, .nilmap, .nilmap, .nilslice, .nilslice, .nilmap, .nilslice, (.int .i64 0), (.int .i64 0)] := by kernel_rfl
@[simp] theorem Tryz.zv216 : zeroVal Tryz.prog 216 = some (.agg [.nilmap, .nilmap, .nilmap, .nilslice, .nilslice, .nilmap, .nilslice, (.int .i64 0), (.int .i64 0)]) := by kernel_rfl
@[simp] theorem Tryz.ob216 : okBytes Tryz.prog 216 = true := by kernel_rfl
@[simp] theorem Tryz.fo216_0 : fieldOf Tryz.prog 216 0 = some (0, 212) := by kernel_rfl
@[simp] theorem Tryz.fo216_1 : fieldOf Tryz.prog 216 1 = some (1, 212) := by kernel_rfl
@[simp] theorem Tryz.fo216_2 : fieldOf Tryz.prog 216 2 = some (2, 184) := by kernel_rfl
@[simp] theorem Tryz.fo216_3 : fieldOf Tryz.prog 216 3 = some (3, 145) := by kernel_rfl
@[simp] theorem Tryz.fo216_4 : fieldOf Tryz.prog 216 4 = some (4, 36) := by kernel_rfl
@[simp] theorem Tryz.fo216_5 : fieldOf Tryz.prog 216 5 = some (5, 213) := by kernel_rfl
@[simp] theorem Tryz.fo216_6 : fieldOf Tryz.prog 216 6 = some (6, 214) := by kernel_rfl
@[simp] theorem Tryz.fo216_7 : fieldOf Tryz.prog 216 7 = some (7, 3) := by kernel_rfl
@[simp] theorem Tryz.fo216_8 : fieldOf Tryz.prog 216 8 = some (8, 3) := by kernel_rfl
variable [LoopTab]
@[simp] theorem Tryz.fv39_0 (β o : Nat) : fieldV Tryz.prog 39 0 (.ptr β o) = some (.ptr β (o)) := fieldV_ptr Tryz.fo39_0 Tryz.sz3
@[simp] theorem Tryz.fl39_0 (cs : List AV) : fldV Tryz.prog 39 0 (.agg cs) = partA Tryz.prog 3 cs 0 := fldV_agg cs Tryz.fo39_0
@[simp] theorem Tryz.fv39_1 (β o : Nat) : fieldV Tryz.prog 39 1 (.ptr β o) = some (.ptr β (o + 1)) := fieldV_ptr Tryz.fo39_1 Tryz.sz3
@[simp] theorem Tryz.fl39_1 (cs : List AV) : fldV Tryz.prog 39 1 (.agg cs) = partA Tryz.prog 3 cs 1 := fldV_agg cs Tryz.fo39_1
@[simp] theorem Tryz.fv39_2 (β o : Nat) : fieldV Tryz.prog 39 2 (.ptr β o) = some (.ptr β (o + 2)) := fieldV_ptr Tryz.fo39_2 Tryz.sz36
@[simp] theorem Tryz.fl39_2 (cs : List AV) : fldV Tryz.prog 39 2 (.agg cs) = partA Tryz.prog 36 cs 2 := fldV_agg cs Tryz.fo39_2
@[simp] theorem Tryz.fv24_0 (β o : Nat) : fieldV Tryz.prog 24 0 (.ptr β o) = some (.ptr β (o)) := fieldV_ptr Tryz.fo24_0 Tryz.sz22
@[simp] theorem Tryz.fl24_0 (cs : List AV) : fldV Tryz.prog 24 0 (.agg cs) = partA Tryz.prog 22 cs 0 := fldV_agg cs Tryz.fo24_0
@[simp] theorem Tryz.fv47_0 (β o : Nat) : fieldV Tryz.prog 47 0 (.ptr β o) = some (.ptr β (o)) := fieldV_ptr Tryz.fo47_0 Tryz.sz3
@[simp] theorem Tryz.fl47_0 (cs : List AV) : fldV Tryz.prog 47 0 (.agg cs) = partA Tryz.prog 3 cs 0 := fldV_agg cs Tryz.fo47_0
@[simp] theorem Tryz.fv47_1 (β o : Nat) : fieldV Tryz.prog 47 1 (.ptr β o) = some (.ptr β (o + 1)) := fieldV_ptr Tryz.fo47_1 Tryz.sz9
@[simp] theorem Tryz.fl47_1 (cs : List AV) : fldV Tryz.prog 47 1 (.agg cs) = partA Tryz.prog 9 cs 1 := fldV_agg cs Tryz.fo47_1
@[simp] theorem Tryz.fv47_2 (β o : Nat) : fieldV Tryz.prog 47 2 (.ptr β o) = some (.ptr β (o + 2)) := fieldV_ptr Tryz.fo47_2 Tryz.sz3
@[simp] theorem Tryz.fl47_2 (cs : List AV) : fldV Tryz.prog 47 2 (.agg cs) = partA Tryz.prog 3 cs 2 := fldV_agg cs Tryz.fo47_2
@[simp] theorem Tryz.fv47_3 (β o : Nat) : fieldV Tryz.prog 47 3 (.ptr β o) = some (.ptr β (o + 3)) := fieldV_ptr Tryz.fo47_3 Tryz.sz3
@[simp] theorem Tryz.fl47_3 (cs : List AV) : fldV Tryz.prog 47 3 (.agg cs) = partA Tryz.prog 3 cs 3 := fldV_agg cs Tryz.fo47_3
@[simp] theorem Tryz.fv47_4 (β o : Nat) : fieldV Tryz.prog 47 4 (.ptr β o) = some (.ptr β (o + 4)) := fieldV_ptr Tryz.fo47_4 Tryz.sz45
@[simp] theorem Tryz.fl47_4 (cs : List AV) : fldV Tryz.prog 47 4 (.agg cs) = partA Tryz.prog 45 cs 4 := fldV_agg cs Tryz.fo47_4
@[simp] theorem Tryz.fv220_0 (β o : Nat) : fieldV Tryz.prog 220 0 (.ptr β o) = some (.ptr β (o)) := fieldV_ptr Tryz.fo220_0 Tryz.sz3
@[simp] theorem Tryz.fl220_0 (cs : List AV) : fldV Tryz.prog 220 0 (.agg cs) = partA Tryz.prog 3 cs 0 := fldV_agg cs Tryz.fo220_0
@[simp] theorem Tryz.fv220_1 (β o : Nat) : fieldV Tryz.prog 220 1 (.ptr β o) = some (.ptr β (o + 1)) := fieldV_ptr Tryz.fo220_1 Tryz.sz9
@[simp] theorem Tryz.fl220_1 (cs : List AV) : fldV Tryz.prog 220 1 (.agg cs) = partA Tryz.prog 9 cs 1 := fldV_agg cs Tryz.fo220_1
@[simp] theorem Tryz.fv220_2 (β o : Nat) : fieldV Tryz.prog 220 2 (.ptr β o) = some (.ptr β (o + 2)) := fieldV_ptr Tryz.fo220_2 Tryz.sz3
@[simp] theorem Tryz.fl220_2 (cs : List AV) : fldV Tryz.prog 220 2 (.agg cs) = partA Tryz.prog 3 cs 2 := fldV_agg cs Tryz.fo220_2
@[simp] theorem Tryz.fv220_3 (β o : Nat) : fieldV Tryz.prog 220 3 (.ptr β o) = some (.ptr β (o + 3)) := fieldV_ptr Tryz.fo220_3 Tryz.sz3
@[simp] theorem Tryz.fl220_3 (cs : List AV) : fldV Tryz.prog 220 3 (.agg cs) = partA Tryz.prog 3 cs 3 := fldV_agg cs Tryz.fo220_3
@[simp] theorem Tryz.fv218_0 (β o : Nat) : fieldV Tryz.prog 218 0 (.ptr β o) = some (.ptr β (o)) := fieldV_ptr Tryz.fo218_0 Tryz.sz3
@[simp] theorem Tryz.fl218_0 (cs : List AV) : fldV Tryz.prog 218 0 (.agg cs) = partA Tryz.prog 3 cs 0 := fldV_agg cs Tryz.fo218_0
@[simp] theorem Tryz.fv218_1 (β o : Nat) : fieldV Tryz.prog 218 1 (.ptr β o) = some (.ptr β (o + 1)) := fieldV_ptr Tryz.fo218_1 Tryz.sz164
@[simp] theorem Tryz.fl218_1 (cs : List AV) : fldV Tryz.prog 218 1 (.agg cs) = partA Tryz.prog 164 cs 1 := fldV_agg cs Tryz.fo218_1
@[simp] theorem Tryz.fv164_0 (β o : Nat) : fieldV Tryz.prog 164 0 (.ptr β o) = some (.ptr β (o)) := fieldV_ptr Tryz.fo164_0 Tryz.sz3
@[simp] theorem Tryz.fl164_0 (cs : List AV) : fldV Tryz.prog 164 0 (.agg cs) = partA Tryz.prog 3 cs 0 := fldV_agg cs Tryz.fo164_0
@[simp] theorem Tryz.fv164_1 (β o : Nat) : fieldV Tryz.prog 164 1 (.ptr β o) = some (.ptr β (o + 1)) := fieldV_ptr Tryz.fo164_1 Tryz.sz3
@[simp] theorem Tryz.fl164_1 (cs : List AV) : fldV Tryz.prog 164 1 (.agg cs) = partA Tryz.prog 3 cs 1 := fldV_agg cs Tryz.fo164_1
@[simp] theorem Tryz.fv164_2 (β o : Nat) : fieldV Tryz.prog 164 2 (.ptr β o) = some (.ptr β (o + 2)) := fieldV_ptr Tryz.fo164_2 Tryz.sz3
@[simp] theorem Tryz.fl164_2 (cs : List AV) : fldV Tryz.prog 164 2 (.agg cs) = partA Tryz.prog 3 cs 2 := fldV_agg cs Tryz.fo164_2
@[simp] theorem Tryz.fv164_3 (β o : Nat) : fieldV Tryz.prog 164 3 (.ptr β o) = some (.ptr β (o + 3)) := fieldV_ptr Tryz.fo164_3 Tryz.sz9
@[simp] theorem Tryz.fl164_3 (cs : List AV) : fldV Tryz.prog 164 3 (.agg cs) = partA Tryz.prog 9 cs 3 := fldV_agg cs Tryz.fo164_3
@[simp] theorem Tryz.fv164_4 (β o : Nat) : fieldV Tryz.prog 164 4 (.ptr β o) = some (.ptr β (o + 4)) := fieldV_ptr Tryz.fo164_4 Tryz.sz159
@[simp] theorem Tryz.fl164_4 (cs : List AV) : fldV Tryz.prog 164 4 (.agg cs) = partA Tryz.prog 159 cs 4 := fldV_agg cs Tryz.fo164_4
@[simp] theorem Tryz.fv162_0 (β o : Nat) : fieldV Tryz.prog 162 0 (.ptr β o) = some (.ptr β (o)) := fieldV_ptr Tryz.fo162_0 Tryz.sz3
@[simp] theorem Tryz.fl162_0 (cs : List AV) : fldV Tryz.prog 162 0 (.agg cs) = partA Tryz.prog 3 cs 0 := fldV_agg cs Tryz.fo162_0
@[simp] theorem Tryz.fv162_1 (β o : Nat) : fieldV Tryz.prog 162 1 (.ptr β o) = some (.ptr β (o + 1)) := fieldV_ptr Tryz.fo162_1 Tryz.sz3
@[simp] theorem Tryz.fl162_1 (cs : List AV) : fldV Tryz.prog 162 1 (.agg cs) = partA Tryz.prog 3 cs 1 := fldV_agg cs Tryz.fo162_1
@[simp] theorem Tryz.fv162_2 (β o : Nat) : fieldV Tryz.prog 162 2 (.ptr β o) = some (.ptr β (o + 2)) := fieldV_ptr Tryz.fo162_2 Tryz.sz3
@[simp] theorem Tryz.fl162_2 (cs : List AV) : fldV Tryz.prog 162 2 (.agg cs) = partA Tryz.prog 3 cs 2 := fldV_agg cs Tryz.fo162_2
@[simp] theorem Tryz.fv162_3 (β o : Nat) : fieldV Tryz.prog 162 3 (.ptr β o) = some (.ptr β (o + 3)) := fieldV_ptr Tryz.fo162_3 Tryz.sz9
@[simp] theorem Tryz.fl162_3 (cs : List AV) : fldV Tryz.prog 162 3 (.agg cs) = partA Tryz.prog 9 cs 3 := fldV_agg cs Tryz.fo162_3
@[simp] theorem Tryz.fv216_0 (β o : Nat) : fieldV Tryz.prog 216 0 (.ptr β o) = some (.ptr β (o)) := fieldV_ptr Tryz.fo216_0 Tryz.sz212
@[simp] theorem Tryz.fl216_0 (cs : List AV) : fldV Tryz.prog 216 0 (.agg cs) = partA Tryz.prog 212 cs 0 := fldV_agg cs Tryz.fo216_0
@[simp] theorem Tryz.fv216_1 (β o : Nat) : fieldV Tryz.prog 216 1 (.ptr β o) = some (.ptr β (o + 1)) := fieldV_ptr Tryz.fo216_1 Tryz.sz212
@[simp] theorem Tryz.fl216_1 (cs : List AV) : fldV Tryz.prog 216 1 (.agg cs) = partA Tryz.prog 212 cs 1 := fldV_agg cs Tryz.fo216_1
@[simp] theorem Tryz.fv216_2 (β o : Nat) : fieldV Tryz.prog 216 2 (.ptr β o) = some (.ptr β (o + 2)) := fieldV_ptr Tryz.fo216_2 Tryz.sz184
@[simp] theorem Tryz.fl216_2 (cs : List AV) : fldV Tryz.prog 216 2 (.agg cs) = partA Tryz.prog 184 cs 2 := fldV_agg cs Tryz.fo216_2
@[simp] theorem Tryz.fv216_3 (β o : Nat) : fieldV Tryz.prog 216 3 (.ptr β o) = some (.ptr β (o + 3)) := fieldV_ptr Tryz.fo216_3 Tryz.sz145
@[simp] theorem Tryz.fl216_3 (cs : List AV) : fldV Tryz.prog 216 3 (.agg cs) = partA Tryz.prog 145 cs 3 := fldV_agg cs Tryz.fo216_3
@[simp] theorem Tryz.fv216_4 (β o : Nat) : fieldV Tryz.prog 216 4 (.ptr β o) = some (.ptr β (o + 4)) := fieldV_ptr Tryz.fo216_4 Tryz.sz36
@[simp] theorem Tryz.fl216_4 (cs : List AV) : fldV Tryz.prog 216 4 (.agg cs) = partA Tryz.prog 36 cs 4 := fldV_agg cs Tryz.fo216_4
@[simp] theorem Tryz.fv216_5 (β o : Nat) : fieldV Tryz.prog 216 5 (.ptr β o) = some (.ptr β (o + 5)) := fieldV_ptr Tryz.fo216_5 Tryz.sz213
@[simp] theorem Tryz.fl216_5 (cs : List AV) : fldV Tryz.prog 216 5 (.agg cs) = partA Tryz.prog 213 cs 5 := fldV_agg cs Tryz.fo216_5
@[simp] theorem Tryz.fv216_6 (β o : Nat) : fieldV Tryz.prog 216 6 (.ptr β o) = some (.ptr β (o + 6)) := fieldV_ptr Tryz.fo216_6 Tryz.sz214
@[simp] theorem Tryz.fl216_6 (cs : List AV) : fldV Tryz.prog 216 6 (.agg cs) = partA Tryz.prog 214 cs 6 := fldV_agg cs Tryz.fo216_6
@[simp] theorem Tryz.fv216_7 (β o : Nat) : fieldV Tryz.prog 216 7 (.ptr β o) = some (.ptr β (o + 7)) := fieldV_ptr Tryz.fo216_7 Tryz.sz3
@[simp] theorem Tryz.fl216_7 (cs : List AV) : fldV Tryz.prog 216 7 (.agg cs) = partA Tryz.prog 3 cs 7 := fldV_agg cs Tryz.fo216_7
@[simp] theorem Tryz.fv216_8 (β o : Nat) : fieldV Tryz.prog 216 8 (.ptr β o) = some (.ptr β (o + 8)) := fieldV_ptr Tryz.fo216_8 Tryz.sz3
@[simp] theorem Tryz.fl216_8 (cs : List AV) : fldV Tryz.prog 216 8 (.agg cs) = partA Tryz.prog 3 cs 8 := fldV_agg cs Tryz.fo216_8

@[simp] theorem Tryz.zcW : zeroCells Tryz.prog 75 = some (words 0) := by rw [Tryz.zc75, words_zero]; rfl
theorem Tryz.eg75 : Tryz.prog.eqGuardType Tryz.prog.depth 75 = false := by kernel_rfl
theorem Tryz.neqW {N M : Nat} (hN : N < 2 ^ 1024) (hM : M < 2 ^ 1024) : binA Tryz.prog .neq 75 (.agg (words N)) (.agg (words M)) = some (.bool (decide (¬ N = M))) := by
  have h1 : eqElems Tryz.prog 73 (words N) (words M) = some (decide (N = M)) := by
    have e : ∀ N, words N = ((List.range 16).map fun i => word N i).map U := fun N => by rw [words_eq, List.map_map]; rfl
    rw [e N, e M, eqElems_words Tryz.underlying73 _ _ (by simp)]
    congr 1
    rw [Bool.eq_iff_iff]
    simp only [decide_eq_true_eq, List.map_inj_left, List.mem_range]
    exact ⟨fun h => eq_of_words hN hM h, fun h j _ => by rw [h]⟩
  have h3 : Nat.beq (words N).length 16 = true := by rw [words_length]; rfl
  have h4 : eqAgg Tryz.prog 75 (words N) (words M) = eqElems Tryz.prog 73 (words N) (words M) := by
    simp only [eqAgg, Tryz.eg75, Tryz.underlying75, Tryz.sh73, h3]
  simp only [binA, eqBin, eqOp, h4, h1]
  simp
theorem mixedP : Tryz.prog.follows .mixedOrders = true := by kernel_rfl
end Go.Proofs
