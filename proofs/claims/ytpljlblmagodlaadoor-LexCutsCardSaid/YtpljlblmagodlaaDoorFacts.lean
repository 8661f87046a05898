/-
  What the functions of this seat ask of the program's tables. Printed by a program of ours (wip/tools/factgen.py).
-/
import Derived.Test.YtpljlblmagodlaaDoorProg
import Derived.KernelRfl
import Derived.Test.YtpljlblmagodlaaDoorA3
set_option linter.unusedVariables false
set_option linter.unusedSimpArgs false
namespace Go.Proofs.Tryd
open Go Go.AL
theorem q_app27_27 : appQ prog 27 27 = some (39, 6, 56) := by kernel_rfl
theorem q_app42_9 : appQ prog 42 9 = some (5, 1, 1) := by kernel_rfl
theorem q_arr61 : arrQ prog 61 = some (256, 4, 1) := by kernel_rfl
theorem q_arr73 : arrQ prog 73 = some (256, 5, 1) := by kernel_rfl
theorem q_arr76 : arrQ prog 76 = some (16, 75, 2) := by kernel_rfl
theorem q_arr86 : arrQ prog 86 = some (17, 85, 2) := by kernel_rfl
theorem q_arr88 : arrQ prog 88 = some (3, 85, 2) := by kernel_rfl
theorem q_elem78 : elemP prog 78 = some 5 := by kernel_rfl
theorem q_elem22 : elemQ prog 22 = some (9, 1, 16) := by kernel_rfl
theorem q_elem27 : elemQ prog 27 = some (39, 6, 56) := by kernel_rfl
theorem q_elem42 : elemQ prog 42 = some (5, 1, 1) := by kernel_rfl
theorem q_field30_0 : fieldQ prog 30 0 = some (0, 3, 1) := by kernel_rfl
theorem q_field30_1 : fieldQ prog 30 1 = some (1, 3, 1) := by kernel_rfl
theorem q_field30_2 : fieldQ prog 30 2 = some (2, 3, 1) := by kernel_rfl
theorem q_field39_1 : fieldQ prog 39 1 = some (1, 9, 1) := by kernel_rfl
theorem q_field44_0 : fieldQ prog 44 0 = some (0, 41, 1) := by kernel_rfl
theorem q_field44_1 : fieldQ prog 44 1 = some (1, 42, 1) := by kernel_rfl
theorem q_field44_2 : fieldQ prog 44 2 = some (2, 9, 1) := by kernel_rfl
theorem q_field44_3 : fieldQ prog 44 3 = some (3, 30, 3) := by kernel_rfl
theorem q_field44_4 : fieldQ prog 44 4 = some (6, 30, 3) := by kernel_rfl
theorem q_field44_5 : fieldQ prog 44 5 = some (9, 3, 1) := by kernel_rfl
theorem q_field44_6 : fieldQ prog 44 6 = some (10, 28, 1) := by kernel_rfl
theorem q_field44_7 : fieldQ prog 44 7 = some (11, 30, 3) := by kernel_rfl
theorem q_field44_8 : fieldQ prog 44 8 = some (14, 4, 1) := by kernel_rfl
theorem q_field44_9 : fieldQ prog 44 9 = some (15, 27, 1) := by kernel_rfl
theorem q_field75_0 : fieldQ prog 75 0 = some (0, 5, 1) := by kernel_rfl
theorem q_field75_1 : fieldQ prog 75 1 = some (1, 5, 1) := by kernel_rfl
theorem q_field85_0 : fieldQ prog 85 0 = some (0, 3, 1) := by kernel_rfl
theorem q_field85_1 : fieldQ prog 85 1 = some (1, 3, 1) := by kernel_rfl
theorem q_seq22 : isSeqQ prog 22 = true := by kernel_rfl
theorem q_seq27 : isSeqQ prog 27 = true := by kernel_rfl
theorem q_seq42 : isSeqQ prog 42 = true := by kernel_rfl
theorem q_seq9 : isSeqQ prog 9 = true := by kernel_rfl
theorem q_kind25 : kindQ prog 25 = 2 := by kernel_rfl
theorem q_new30 : newQ prog 30 = some (AObj.cells [Value.int IntKind.i64 0, Value.int IntKind.i64 0, Value.int IntKind.i64 0] 30 0 false) := by kernel_rfl
theorem q_new61 : newQ prog 61 = some (.cells (List.replicate 256 (Value.bool false)) 61 0 false) := by kernel_rfl
theorem q_new75 : newQ prog 75 = some (AObj.cells [Value.int IntKind.u8 0, Value.int IntKind.u8 0] 75 0 false) := by kernel_rfl
theorem q_new85 : newQ prog 85 = some (AObj.cells [Value.int IntKind.i64 0, Value.int IntKind.i64 0] 85 0 false) := by kernel_rfl
theorem q_places30 : placesQ prog 30 = some [(0, 1), (1, 1), (2, 1)] := by kernel_rfl
theorem q_places39 : placesQ prog 39 = some [(0, 1), (1, 1), (2, 3), (5, 1)] := by kernel_rfl
theorem q_places44 : placesQ prog 44 = some [(0, 1), (1, 1), (2, 1), (3, 3), (6, 3), (9, 1), (10, 1), (11, 3), (14, 1), (15, 1)] := by kernel_rfl
theorem q_places75 : placesQ prog 75 = some [(0, 1), (1, 1)] := by kernel_rfl
theorem q_places85 : placesQ prog 85 = some [(0, 1), (1, 1)] := by kernel_rfl
theorem q_plain30 : plainQ prog 30 = some [2, 2, 2] := by kernel_rfl
theorem q_plain39 : plainQ prog 39 = some [2, 3, 2, 2, 2, 2] := by kernel_rfl
theorem q_c39 : prog.cellsOf 39 = 6 := by kernel_rfl
theorem q_c5 : prog.cellsOf 5 = 1 := by kernel_rfl
theorem q_c9 : prog.cellsOf 9 = 1 := by kernel_rfl
theorem q_u21 : prog.underlying 21 = some (TypeDesc.int IntKind.i32) := by kernel_rfl
theorem q_u22 : prog.underlying 22 = some (TypeDesc.slice 9) := by kernel_rfl
theorem q_u25 : prog.underlying 25 = some (TypeDesc.pointer 44) := by kernel_rfl
theorem q_u27 : prog.underlying 27 = some (TypeDesc.slice 39) := by kernel_rfl
theorem q_u28 : prog.underlying 28 = some (TypeDesc.int IntKind.i64) := by kernel_rfl
theorem q_u3 : prog.underlying 3 = some (TypeDesc.int IntKind.i64) := by kernel_rfl
theorem q_u37 : prog.underlying 37 = some (TypeDesc.int IntKind.u8) := by kernel_rfl
theorem q_u4 : prog.underlying 4 = some TypeDesc.bool := by kernel_rfl
theorem q_u42 : prog.underlying 42 = some (TypeDesc.slice 5) := by kernel_rfl
theorem q_u5 : prog.underlying 5 = some (TypeDesc.int IntKind.u8) := by kernel_rfl
theorem q_u61 : prog.underlying 61 = some (TypeDesc.array 256 4) := by kernel_rfl
theorem q_u65 : prog.underlying 65 = some (TypeDesc.pointer 61) := by kernel_rfl
theorem q_u73 : prog.underlying 73 = some (TypeDesc.array 256 5) := by kernel_rfl
theorem q_u76 : prog.underlying 76 = some (TypeDesc.array 16 75) := by kernel_rfl
theorem q_u78 : prog.underlying 78 = some (TypeDesc.pointer 5) := by kernel_rfl
theorem q_u86 : prog.underlying 86 = some (TypeDesc.array 17 85) := by kernel_rfl
theorem q_u88 : prog.underlying 88 = some (TypeDesc.array 3 85) := by kernel_rfl
theorem q_u9 : prog.underlying 9 = some TypeDesc.string := by kernel_rfl
theorem q_u95 : prog.underlying 95 = some (TypeDesc.int IntKind.u32) := by kernel_rfl
theorem q_shape27 : shapeQ prog 27 = some Shape.cell := by kernel_rfl
theorem q_shape28 : shapeQ prog 28 = some Shape.cell := by kernel_rfl
theorem q_shape3 : shapeQ prog 3 = some Shape.cell := by kernel_rfl
theorem q_shape30 : shapeQ prog 30 = some (Shape.agg 3) := by kernel_rfl
theorem q_shape39 : shapeQ prog 39 = some (Shape.agg 6) := by kernel_rfl
theorem q_shape4 : shapeQ prog 4 = some Shape.cell := by kernel_rfl
theorem q_shape41 : shapeQ prog 41 = some Shape.cell := by kernel_rfl
theorem q_shape42 : shapeQ prog 42 = some Shape.cell := by kernel_rfl
theorem q_shape5 : shapeQ prog 5 = some Shape.cell := by kernel_rfl
theorem q_shape61 : shapeQ prog 61 = some (Shape.agg 256) := by kernel_rfl
theorem q_shape75 : shapeQ prog 75 = some (Shape.agg 2) := by kernel_rfl
theorem q_shape85 : shapeQ prog 85 = some (Shape.agg 2) := by kernel_rfl
theorem q_shape86 : shapeQ prog 86 = some (Shape.agg 34) := by kernel_rfl
theorem q_shape88 : shapeQ prog 88 = some (Shape.agg 6) := by kernel_rfl
theorem q_shape9 : shapeQ prog 9 = some Shape.cell := by kernel_rfl
theorem q_size27 : sizeQ prog 27 = some 1 := by kernel_rfl
theorem q_size28 : sizeQ prog 28 = some 1 := by kernel_rfl
theorem q_size3 : sizeQ prog 3 = some 1 := by kernel_rfl
theorem q_size30 : sizeQ prog 30 = some 3 := by kernel_rfl
theorem q_size39 : sizeQ prog 39 = some 6 := by kernel_rfl
theorem q_size4 : sizeQ prog 4 = some 1 := by kernel_rfl
theorem q_size41 : sizeQ prog 41 = some 1 := by kernel_rfl
theorem q_size42 : sizeQ prog 42 = some 1 := by kernel_rfl
theorem q_size5 : sizeQ prog 5 = some 1 := by kernel_rfl
theorem q_size61 : sizeQ prog 61 = some 256 := by kernel_rfl
theorem q_size75 : sizeQ prog 75 = some 2 := by kernel_rfl
theorem q_size76 : sizeQ prog 76 = some 32 := by kernel_rfl
theorem q_size85 : sizeQ prog 85 = some 2 := by kernel_rfl
theorem q_size86 : sizeQ prog 86 = some 34 := by kernel_rfl
theorem q_size88 : sizeQ prog 88 = some 6 := by kernel_rfl
theorem q_size9 : sizeQ prog 9 = some 1 := by kernel_rfl
theorem q_zeroF30 : zeroF prog 30 = some [Value.int IntKind.i64 0, Value.int IntKind.i64 0, Value.int IntKind.i64 0] := by kernel_rfl
theorem q_zeroF39 : zeroF prog 39 = some [Value.int IntKind.u8 0, Value.string (bs []), Value.int IntKind.i64 0, Value.int IntKind.i64 0, Value.int IntKind.i64 0, Value.int IntKind.i64 0] := by kernel_rfl
theorem q_zeroF44 : zeroF prog 44 = some [Value.int IntKind.u8 0, Value.slice none 0 0, Value.string (bs []), Value.int IntKind.i64 0, Value.int IntKind.i64 0, Value.int IntKind.i64 0, Value.int IntKind.i64 0, Value.int IntKind.i64 0, Value.int IntKind.i64 0, Value.int IntKind.i64 0, Value.int IntKind.i64 0, Value.int IntKind.i64 0, Value.int IntKind.i64 0, Value.int IntKind.i64 0, Value.bool false, Value.slice none 0 0] := by kernel_rfl
theorem q_zeroF5 : zeroF prog 5 = some [Value.int IntKind.u8 0] := by kernel_rfl
theorem q_zeroF75 : zeroF prog 75 = some [Value.int IntKind.u8 0, Value.int IntKind.u8 0] := by kernel_rfl
theorem q_zeroF76 : zeroF prog 76 = some [Value.int IntKind.u8 0, Value.int IntKind.u8 0, Value.int IntKind.u8 0, Value.int IntKind.u8 0, Value.int IntKind.u8 0, Value.int IntKind.u8 0, Value.int IntKind.u8 0, Value.int IntKind.u8 0, Value.int IntKind.u8 0, Value.int IntKind.u8 0, Value.int IntKind.u8 0, Value.int IntKind.u8 0, Value.int IntKind.u8 0, Value.int IntKind.u8 0, Value.int IntKind.u8 0, Value.int IntKind.u8 0, Value.int IntKind.u8 0, Value.int IntKind.u8 0, Value.int IntKind.u8 0, Value.int IntKind.u8 0, Value.int IntKind.u8 0, Value.int IntKind.u8 0, Value.int IntKind.u8 0, Value.int IntKind.u8 0, Value.int IntKind.u8 0, Value.int IntKind.u8 0, Value.int IntKind.u8 0, Value.int IntKind.u8 0, Value.int IntKind.u8 0, Value.int IntKind.u8 0, Value.int IntKind.u8 0, Value.int IntKind.u8 0] := by kernel_rfl
theorem q_zeroF85 : zeroF prog 85 = some [Value.int IntKind.i64 0, Value.int IntKind.i64 0] := by kernel_rfl
theorem q_zeroF86 : zeroF prog 86 = some [Value.int IntKind.i64 0, Value.int IntKind.i64 0, Value.int IntKind.i64 0, Value.int IntKind.i64 0, Value.int IntKind.i64 0, Value.int IntKind.i64 0, Value.int IntKind.i64 0, Value.int IntKind.i64 0, Value.int IntKind.i64 0, Value.int IntKind.i64 0, Value.int IntKind.i64 0, Value.int IntKind.i64 0, Value.int IntKind.i64 0, Value.int IntKind.i64 0, Value.int IntKind.i64 0, Value.int IntKind.i64 0, Value.int IntKind.i64 0, Value.int IntKind.i64 0, Value.int IntKind.i64 0, Value.int IntKind.i64 0, Value.int IntKind.i64 0, Value.int IntKind.i64 0, Value.int IntKind.i64 0, Value.int IntKind.i64 0, Value.int IntKind.i64 0, Value.int IntKind.i64 0, Value.int IntKind.i64 0, Value.int IntKind.i64 0, Value.int IntKind.i64 0, Value.int IntKind.i64 0, Value.int IntKind.i64 0, Value.int IntKind.i64 0, Value.int IntKind.i64 0, Value.int IntKind.i64 0] := by kernel_rfl
theorem q_zeroF88 : zeroF prog 88 = some [Value.int IntKind.i64 0, Value.int IntKind.i64 0, Value.int IntKind.i64 0, Value.int IntKind.i64 0, Value.int IntKind.i64 0, Value.int IntKind.i64 0] := by kernel_rfl
theorem q_zeroF9 : zeroF prog 9 = some [Value.string (bs [])] := by kernel_rfl
theorem q_zeroQ39 : zeroQ prog 39 = some [Value.int IntKind.u8 0, Value.string (bs []), Value.int IntKind.i64 0, Value.int IntKind.i64 0, Value.int IntKind.i64 0, Value.int IntKind.i64 0] := by kernel_rfl
theorem q_zeroQ5 : zeroQ prog 5 = some [Value.int IntKind.u8 0] := by kernel_rfl
theorem q_zeroQ9 : zeroQ prog 9 = some [Value.string (bs [])] := by kernel_rfl
attribute [go_sem] q_app27_27 q_app42_9 q_arr61 q_arr73 q_arr76 q_arr86 q_arr88 q_elem78 q_elem22 q_elem27 q_elem42 q_field30_0 q_field30_1 q_field30_2 q_field39_1 q_field44_0
attribute [go_sem] q_field44_1 q_field44_2 q_field44_3 q_field44_4 q_field44_5 q_field44_6 q_field44_7 q_field44_8 q_field44_9 q_field75_0 q_field75_1 q_field85_0 q_field85_1
attribute [go_sem] q_seq22 q_seq27 q_seq42 q_seq9 q_kind25 q_new30 q_new61 q_new75 q_new85 q_places30 q_places39 q_places44 q_places75 q_places85 q_plain30 q_plain39 q_c39
attribute [go_sem] q_c5 q_c9 q_u21 q_u22 q_u25 q_u27 q_u28 q_u3 q_u37 q_u4 q_u42 q_u5 q_u61 q_u65 q_u73 q_u76 q_u78 q_u86 q_u88 q_u9 q_u95 q_shape27 q_shape28 q_shape3 q_shape30
attribute [go_sem] q_shape39 q_shape4 q_shape41 q_shape42 q_shape5 q_shape61 q_shape75 q_shape85 q_shape86 q_shape88 q_shape9 q_size27 q_size28 q_size3 q_size30 q_size39 q_size4
attribute [go_sem] q_size41 q_size42 q_size5 q_size61 q_size75 q_size76 q_size85 q_size86 q_size88 q_size9 q_zeroF30 q_zeroF39 q_zeroF44 q_zeroF5 q_zeroF75 q_zeroF76 q_zeroF85
attribute [go_sem] q_zeroF86 q_zeroF88 q_zeroF9 q_zeroQ39 q_zeroQ5 q_zeroQ9
end Go.Proofs.Tryd
