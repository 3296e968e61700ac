import Derived.Test.YtlamkclnkbnedaaProg
import Derived.Test.YtlamkclnkbnedaaEngL
import Derived.KernelRfl
/-! Facts of the program's types and functions. -/
namespace Go.Rel
open Go Go.Eng Go.Proofs
theorem z_sc3 : isScalar Try.prog 3 = true := by kernel_rfl
theorem z_size3 : sizeT Try.prog 3 = some 1 := by kernel_rfl
theorem z_zero3 : zeroT Try.prog 3 = some [.int .i64 0] := by kernel_rfl
theorem z_zero4 : zeroT Try.prog 4 = some [.bool false] := by kernel_rfl
theorem z_size4 : sizeT Try.prog 4 = some 1 := by kernel_rfl
theorem z_sc22 : isScalar Try.prog 22 = true := by kernel_rfl
theorem z_mix : Try.prog.follows .mixedOrders = true := by kernel_rfl
theorem z_sc4 : isScalar Try.prog 4 = true := by kernel_rfl
theorem z_slT45 : slT Try.prog 45 = some (5, 1, 1) := by kernel_rfl
theorem z_agg44 : aggSize Try.prog 44 = some 5 := by kernel_rfl
theorem z_struct47 : structT Try.prog 47 = some ([.int .i64 0, .int .i64 0, .int .u32 0, .int .i64 0, .int .i64 0, .slice none 0 0], [(0, 5), (5, 1)]) := by kernel_rfl
theorem z_zero47 : zeroT Try.prog 47 = some [.int .i64 0, .int .i64 0, .int .u32 0, .int .i64 0, .int .i64 0, .slice none 0 0] := by kernel_rfl
theorem z_size47 : sizeT Try.prog 47 = some 6 := by kernel_rfl
theorem z_struct131 : structT Try.prog 131 = some ((cellsN (Value.int .u32) 0 1024 (List.replicate 1024 0)), [(0, 1024)]) := by kernel_rfl
theorem z_en74 : enters Try.prog 74 = true := by kernel_rfl
theorem z_field131_0 : fieldT Try.prog 131 0 = some 0 := by kernel_rfl
theorem z_arr129 : arrP Try.prog 129 = some (4, 128, 256) := by kernel_rfl
theorem z_arr128 : arrP Try.prog 128 = some (256, 22, 1) := by kernel_rfl
theorem z_size22 : sizeT Try.prog 22 = some 1 := by kernel_rfl
theorem z_en49 : enters Try.prog 49 = true := by kernel_rfl
theorem z_struct97 : structT Try.prog 97 = some ([.pointer none], [(0, 1)]) := by kernel_rfl
theorem z_en20 : enters Try.prog 20 = true := by kernel_rfl
theorem z_agg47 : aggSize Try.prog 47 = some 6 := by kernel_rfl
theorem z_field47_0 : fieldT Try.prog 47 0 = some 0 := by kernel_rfl
theorem z_zero39 : zeroT Try.prog 39 = some [.int .i64 0] := by kernel_rfl
theorem z_size39 : sizeT Try.prog 39 = some 1 := by kernel_rfl
theorem z_field44_0 : fieldT Try.prog 44 0 = some 0 := by kernel_rfl
theorem z_field44_1 : fieldT Try.prog 44 1 = some 1 := by kernel_rfl
theorem z_field44_4 : fieldT Try.prog 44 4 = some 4 := by kernel_rfl
theorem z_field44_3 : fieldT Try.prog 44 3 = some 3 := by kernel_rfl
theorem z_en92 : enters Try.prog 92 = true := by kernel_rfl
theorem z_en75 : enters Try.prog 75 = true := by kernel_rfl
theorem z_sc39 : isScalar Try.prog 39 = true := by kernel_rfl
theorem z_en50 : enters Try.prog 50 = true := by kernel_rfl
theorem z_field47_1 : fieldT Try.prog 47 1 = some 5 := by kernel_rfl
theorem z_sc45 : isScalar Try.prog 45 = true := by kernel_rfl
theorem z_en21 : enters Try.prog 21 = true := by kernel_rfl
theorem z_slT99 : slT Try.prog 99 = some (47, 6, 64) := by kernel_rfl
theorem z_field44_2 : fieldT Try.prog 44 2 = some 2 := by kernel_rfl
theorem z_arrz153 : arrT Try.prog 153 = some ([.int .u8 0, .int .u8 0, .int .u8 0, .int .u8 0, .int .u8 0, .int .u8 0, .int .u8 0, .int .u8 0], 1) := by kernel_rfl
theorem z_zero153 : zeroT Try.prog 153 = some [.int .u8 0, .int .u8 0, .int .u8 0, .int .u8 0, .int .u8 0, .int .u8 0, .int .u8 0, .int .u8 0] := by kernel_rfl
theorem z_size153 : sizeT Try.prog 153 = some 8 := by kernel_rfl
theorem z_arr153 : arrP Try.prog 153 = some (8, 5, 1) := by kernel_rfl
theorem z_en65 : enters Try.prog 65 = true := by kernel_rfl
theorem z_field97_0 : fieldT Try.prog 97 0 = some 0 := by kernel_rfl
theorem z_sc94 : isScalar Try.prog 94 = true := by kernel_rfl
theorem z_slT100 : slT Try.prog 100 = some (45, 1, 24) := by kernel_rfl
theorem z_zero45 : zeroT Try.prog 45 = some [.slice none 0 0] := by kernel_rfl
theorem z_en93 : enters Try.prog 93 = true := by kernel_rfl
theorem z_sc5 : isScalar Try.prog 5 = true := by kernel_rfl
theorem z_en94 : enters Try.prog 94 = true := by kernel_rfl
theorem z_en95 : enters Try.prog 95 = true := by kernel_rfl
theorem z_en77 : enters Try.prog 77 = true := by kernel_rfl
theorem z_zero136 : zeroT Try.prog 136 = some [.int .u8 0, .int .u8 0, .int .u8 0, .int .u8 0] := by kernel_rfl
theorem z_arrz136 : arrT Try.prog 136 = some ([.int .u8 0, .int .u8 0, .int .u8 0, .int .u8 0], 1) := by kernel_rfl
theorem z_size136 : sizeT Try.prog 136 = some 4 := by kernel_rfl
theorem z_agg136 : aggSize Try.prog 136 = some 4 := by kernel_rfl
theorem z_en76 : enters Try.prog 76 = true := by kernel_rfl
theorem z_zero5 : zeroT Try.prog 5 = some [.int .u8 0] := by kernel_rfl
theorem z_arr136 : arrP Try.prog 136 = some (4, 5, 1) := by kernel_rfl
theorem z_en59 : enters Try.prog 59 = true := by kernel_rfl
theorem z_en107 : enters Try.prog 107 = true := by kernel_rfl
theorem z_en106 : enters Try.prog 106 = true := by kernel_rfl
theorem z_en90 : enters Try.prog 90 = true := by kernel_rfl
theorem z_size45 : sizeT Try.prog 45 = some 1 := by kernel_rfl
theorem z_en66 : enters Try.prog 66 = true := by kernel_rfl
theorem z_en34 : enters Try.prog 34 = true := by kernel_rfl
theorem z_en51 : enters Try.prog 51 = true := by kernel_rfl
theorem z_en22 : enters Try.prog 22 = true := by kernel_rfl
theorem z_en52 : enters Try.prog 52 = true := by kernel_rfl
theorem z_en23 : enters Try.prog 23 = true := by kernel_rfl
theorem z_en24 : enters Try.prog 24 = true := by kernel_rfl
theorem z_struct44 : structT Try.prog 44 = some ([.int .i64 0, .int .i64 0, .int .u32 0, .int .i64 0, .int .i64 0], [(0, 1), (1, 1), (2, 1), (3, 1), (4, 1)]) := by kernel_rfl
theorem z_en25 : enters Try.prog 25 = true := by kernel_rfl
theorem z_info5 : (Try.prog.info? 5).isSome = true := by kernel_rfl
theorem z_cell5 : Program.cellsOf Try.prog 5 = 1 := by kernel_rfl
theorem z_eqg136 : Program.eqGuardType Try.prog (Program.depth Try.prog) 136 = false := by kernel_rfl
theorem z_en53 : enters Try.prog 53 = true := by kernel_rfl
theorem z_struct140 : structT Try.prog 140 = some ([.slice none 0 0, .int .i64 0, .int .i64 0], [(0, 1), (1, 1), (2, 1)]) := by kernel_rfl
theorem z_en54 : enters Try.prog 54 = true := by kernel_rfl
theorem z_field140_2 : fieldT Try.prog 140 2 = some 2 := by kernel_rfl
theorem z_en79 : enters Try.prog 79 = true := by kernel_rfl
theorem z_field140_0 : fieldT Try.prog 140 0 = some 0 := by kernel_rfl
theorem z_field140_1 : fieldT Try.prog 140 1 = some 1 := by kernel_rfl
theorem z_en96 : enters Try.prog 96 = true := by kernel_rfl
theorem z_en80 : enters Try.prog 80 = true := by kernel_rfl
theorem z_zero22 : zeroT Try.prog 22 = some [.int .u32 0] := by kernel_rfl
theorem z_en108 : enters Try.prog 108 = true := by kernel_rfl
theorem z_en99 : enters Try.prog 99 = true := by kernel_rfl
theorem z_en98 : enters Try.prog 98 = true := by kernel_rfl
theorem z_en97 : enters Try.prog 97 = true := by kernel_rfl
theorem z_en81 : enters Try.prog 81 = true := by kernel_rfl
theorem z_zero166 : zeroT Try.prog 166 = some (cellsN Value.bool false 32 (List.replicate 32 false)) := by kernel_rfl
theorem z_arr166 : arrP Try.prog 166 = some (32, 4, 1) := by kernel_rfl
theorem z_agg166 : aggSize Try.prog 166 = some 32 := by kernel_rfl
theorem z_size166 : sizeT Try.prog 166 = some 32 := by kernel_rfl
theorem z_en100 : enters Try.prog 100 = true := by kernel_rfl
theorem z_en102 : enters Try.prog 102 = true := by kernel_rfl
theorem z_en101 : enters Try.prog 101 = true := by kernel_rfl
theorem z_en103 : enters Try.prog 103 = true := by kernel_rfl
theorem z_en83 : enters Try.prog 83 = true := by kernel_rfl
theorem z_en82 : enters Try.prog 82 = true := by kernel_rfl
theorem z_en56 : enters Try.prog 56 = true := by kernel_rfl
theorem z_en28 : enters Try.prog 28 = true := by kernel_rfl
theorem z_en61 : enters Try.prog 61 = true := by kernel_rfl
theorem z_zero44 : zeroT Try.prog 44 = some [.int .i64 0, .int .i64 0, .int .u32 0, .int .i64 0, .int .i64 0] := by kernel_rfl
theorem z_size44 : sizeT Try.prog 44 = some 5 := by kernel_rfl
theorem z_en85 : enters Try.prog 85 = true := by kernel_rfl
theorem z_en86 : enters Try.prog 86 = true := by kernel_rfl
theorem z_en87 : enters Try.prog 87 = true := by kernel_rfl
theorem z_en62 : enters Try.prog 62 = true := by kernel_rfl
theorem z_en30 : enters Try.prog 30 = true := by kernel_rfl
theorem z_zero66 : zeroT Try.prog 66 = some [.int .i64 0, .int .i64 0, .int .u32 0, .int .i64 0, .int .i64 0, .slice none 0 0] := by kernel_rfl
theorem z_struct66 : structT Try.prog 66 = some ([.int .i64 0, .int .i64 0, .int .u32 0, .int .i64 0, .int .i64 0, .slice none 0 0], [(0, 5), (5, 1)]) := by kernel_rfl
theorem z_size66 : sizeT Try.prog 66 = some 6 := by kernel_rfl
theorem z_agg66 : aggSize Try.prog 66 = some 6 := by kernel_rfl
theorem z_en105 : enters Try.prog 105 = true := by kernel_rfl
theorem z_en88 : enters Try.prog 88 = true := by kernel_rfl
theorem z_en63 : enters Try.prog 63 = true := by kernel_rfl
theorem z_zero64 : zeroT Try.prog 64 = some [.int .i64 0, .int .i64 0, .int .u32 0, .int .i64 0, .int .i64 0] := by kernel_rfl
theorem z_struct64 : structT Try.prog 64 = some ([.int .i64 0, .int .i64 0, .int .u32 0, .int .i64 0, .int .i64 0], [(0, 1), (1, 1), (2, 1), (3, 1), (4, 1)]) := by kernel_rfl
theorem z_size64 : sizeT Try.prog 64 = some 5 := by kernel_rfl
theorem z_agg64 : aggSize Try.prog 64 = some 5 := by kernel_rfl
theorem z_field64_0 : fieldT Try.prog 64 0 = some 0 := by kernel_rfl
theorem z_field64_1 : fieldT Try.prog 64 1 = some 1 := by kernel_rfl
theorem z_field64_4 : fieldT Try.prog 64 4 = some 4 := by kernel_rfl
theorem z_field64_3 : fieldT Try.prog 64 3 = some 3 := by kernel_rfl
theorem z_en89 : enters Try.prog 89 = true := by kernel_rfl
theorem z_en64 : enters Try.prog 64 = true := by kernel_rfl
theorem z_en31 : enters Try.prog 31 = true := by kernel_rfl
theorem z_en33 : enters Try.prog 33 = true := by kernel_rfl
theorem z_field66_0 : fieldT Try.prog 66 0 = some 0 := by kernel_rfl
theorem z_held64 : Program.stoodInHeld Try.prog 64 = false := by kernel_rfl
theorem z_eqg64 : Program.eqGuardType Try.prog (Program.depth Try.prog) 64 = false := by kernel_rfl
theorem z_field66_1 : fieldT Try.prog 66 1 = some 5 := by kernel_rfl
theorem z_en32 : enters Try.prog 32 = true := by kernel_rfl
theorem z_slT73 : slT Try.prog 73 = some (3, 1, 8) := by kernel_rfl
theorem z_en67 : enters Try.prog 67 = true := by kernel_rfl
theorem z_slT72 : slT Try.prog 72 = some (66, 6, 64) := by kernel_rfl
theorem z_en35 : enters Try.prog 35 = true := by kernel_rfl
theorem z_zero72 : zeroT Try.prog 72 = some [.slice none 0 0] := by kernel_rfl
theorem z_zero73 : zeroT Try.prog 73 = some [.slice none 0 0] := by kernel_rfl
theorem z_size72 : sizeT Try.prog 72 = some 1 := by kernel_rfl
theorem z_size73 : sizeT Try.prog 73 = some 1 := by kernel_rfl
theorem z_sc48 : isScalar Try.prog 48 = true := by kernel_rfl
theorem z_en91 : enters Try.prog 91 = true := by kernel_rfl
theorem z_en69 : enters Try.prog 69 = true := by kernel_rfl
theorem z_sc123 : isScalar Try.prog 123 = true := by kernel_rfl
theorem z_en68 : enters Try.prog 68 = true := by kernel_rfl
theorem z_en36 : enters Try.prog 36 = true := by kernel_rfl
theorem z_sc72 : isScalar Try.prog 72 = true := by kernel_rfl
theorem z_sc73 : isScalar Try.prog 73 = true := by kernel_rfl
end Go.Rel
