import Derived.Test.YtlamkclnkbnedaaProg
import Derived.Test.YtlamkclnkbnedaaEngL
import Derived.KernelRfl
/-! Facts of the program's types and functions. -/
namespace Go.Rel
open Go Go.Eng Go.Proofs
theorem z_sc3 : isScalar Try.prog 3 = true := by kernel_rfl
theorem z_size3 : sizeT Try.prog 3 = some 1 := by kernel_rfl
theorem z_zero3 : zeroT Try.prog 3 = some [.int .i64 0] := by kernel_rfl
theorem z_size4 : sizeT Try.prog 4 = some 1 := by kernel_rfl
theorem z_agg25 : aggSize Try.prog 25 = some 2 := by kernel_rfl
theorem z_sc22 : isScalar Try.prog 22 = true := by kernel_rfl
theorem z_en43 : enters Try.prog 43 = true := by kernel_rfl
theorem z_field25_0 : fieldT Try.prog 25 0 = some 0 := by kernel_rfl
theorem z_en46 : enters Try.prog 46 = true := by kernel_rfl
theorem z_field25_1 : fieldT Try.prog 25 1 = some 1 := by kernel_rfl
theorem z_sc23 : isScalar Try.prog 23 = true := by kernel_rfl
theorem z_en73 : enters Try.prog 73 = true := by kernel_rfl
theorem z_en47 : enters Try.prog 47 = true := by kernel_rfl
theorem z_en16 : enters Try.prog 16 = true := by kernel_rfl
theorem z_en40 : enters Try.prog 40 = true := by kernel_rfl
theorem z_field30_0 : fieldT Try.prog 30 0 = some 0 := by kernel_rfl
theorem z_field30_1 : fieldT Try.prog 30 1 = some 1 := by kernel_rfl
theorem z_mix : Try.prog.follows .mixedOrders = true := by kernel_rfl
theorem z_sc4 : isScalar Try.prog 4 = true := by kernel_rfl
theorem z_struct87 : structT Try.prog 87 = some ([.int .u32 0, .int .u64 0], [(0, 1), (1, 1)]) := by kernel_rfl
theorem z_struct89 : structT Try.prog 89 = some ([.int .u32 0, .int .u64 0], [(0, 2)]) := by kernel_rfl
theorem z_en14 : enters Try.prog 14 = true := by kernel_rfl
theorem z_zero25 : zeroT Try.prog 25 = some [.int .u32 0, .int .u64 0] := by kernel_rfl
theorem z_field89_0 : fieldT Try.prog 89 0 = some 0 := by kernel_rfl
theorem z_field87_0 : fieldT Try.prog 87 0 = some 0 := by kernel_rfl
theorem z_en44 : enters Try.prog 44 = true := by kernel_rfl
theorem z_field87_1 : fieldT Try.prog 87 1 = some 1 := by kernel_rfl
theorem z_en45 : enters Try.prog 45 = true := by kernel_rfl
theorem z_struct25 : structT Try.prog 25 = some ([.int .u32 0, .int .u64 0], [(0, 1), (1, 1)]) := by kernel_rfl
theorem z_size25 : sizeT Try.prog 25 = some 2 := by kernel_rfl
theorem z_en15 : enters Try.prog 15 = true := by kernel_rfl
theorem z_en13 : enters Try.prog 13 = true := by kernel_rfl
theorem z_size23 : sizeT Try.prog 23 = some 1 := by kernel_rfl
theorem z_slT45 : slT Try.prog 45 = some (5, 1, 1) := by kernel_rfl
theorem z_struct131 : structT Try.prog 131 = some ((cellsN (Value.int .u32) 0 1024 (List.replicate 1024 0)), [(0, 1024)]) := by kernel_rfl
theorem z_en74 : enters Try.prog 74 = true := by kernel_rfl
theorem z_field131_0 : fieldT Try.prog 131 0 = some 0 := by kernel_rfl
theorem z_arr129 : arrP Try.prog 129 = some (4, 128, 256) := by kernel_rfl
theorem z_arr128 : arrP Try.prog 128 = some (256, 22, 1) := by kernel_rfl
theorem z_size22 : sizeT Try.prog 22 = some 1 := by kernel_rfl
theorem z_en49 : enters Try.prog 49 = true := by kernel_rfl
theorem z_size39 : sizeT Try.prog 39 = some 1 := by kernel_rfl
theorem z_sc39 : isScalar Try.prog 39 = true := by kernel_rfl
theorem z_sc45 : isScalar Try.prog 45 = true := by kernel_rfl
theorem z_slT100 : slT Try.prog 100 = some (45, 1, 24) := by kernel_rfl
theorem z_zero45 : zeroT Try.prog 45 = some [.slice none 0 0] := by kernel_rfl
theorem z_en93 : enters Try.prog 93 = true := by kernel_rfl
theorem z_sc5 : isScalar Try.prog 5 = true := by kernel_rfl
theorem z_en94 : enters Try.prog 94 = true := by kernel_rfl
theorem z_en95 : enters Try.prog 95 = true := by kernel_rfl
theorem z_en77 : enters Try.prog 77 = true := by kernel_rfl
theorem z_zero136 : zeroT Try.prog 136 = some [.int .u8 0, .int .u8 0, .int .u8 0, .int .u8 0] := by kernel_rfl
theorem z_arrz136 : arrT Try.prog 136 = some ([.int .u8 0, .int .u8 0, .int .u8 0, .int .u8 0], 1) := by kernel_rfl
theorem z_size136 : sizeT Try.prog 136 = some 4 := by kernel_rfl
theorem z_agg136 : aggSize Try.prog 136 = some 4 := by kernel_rfl
theorem z_en76 : enters Try.prog 76 = true := by kernel_rfl
theorem z_zero5 : zeroT Try.prog 5 = some [.int .u8 0] := by kernel_rfl
theorem z_arr136 : arrP Try.prog 136 = some (4, 5, 1) := by kernel_rfl
theorem z_en59 : enters Try.prog 59 = true := by kernel_rfl
theorem z_size45 : sizeT Try.prog 45 = some 1 := by kernel_rfl
theorem z_info5 : (Try.prog.info? 5).isSome = true := by kernel_rfl
theorem z_cell5 : Program.cellsOf Try.prog 5 = 1 := by kernel_rfl
theorem z_eqg136 : Program.eqGuardType Try.prog (Program.depth Try.prog) 136 = false := by kernel_rfl
theorem z_en53 : enters Try.prog 53 = true := by kernel_rfl
theorem z_struct140 : structT Try.prog 140 = some ([.slice none 0 0, .int .i64 0, .int .i64 0], [(0, 1), (1, 1), (2, 1)]) := by kernel_rfl
theorem z_en54 : enters Try.prog 54 = true := by kernel_rfl
theorem z_zero105 : zeroT Try.prog 105 = some [.int .u32 0, .int .u32 0, .int .u32 0] := by kernel_rfl
theorem z_sc103 : isScalar Try.prog 103 = true := by kernel_rfl
theorem z_field140_2 : fieldT Try.prog 140 2 = some 2 := by kernel_rfl
theorem z_en79 : enters Try.prog 79 = true := by kernel_rfl
theorem z_field140_0 : fieldT Try.prog 140 0 = some 0 := by kernel_rfl
theorem z_field140_1 : fieldT Try.prog 140 1 = some 1 := by kernel_rfl
theorem z_en96 : enters Try.prog 96 = true := by kernel_rfl
theorem z_en80 : enters Try.prog 80 = true := by kernel_rfl
theorem z_zero22 : zeroT Try.prog 22 = some [.int .u32 0] := by kernel_rfl
theorem z_en108 : enters Try.prog 108 = true := by kernel_rfl
theorem z_en99 : enters Try.prog 99 = true := by kernel_rfl
theorem z_en98 : enters Try.prog 98 = true := by kernel_rfl
theorem z_en97 : enters Try.prog 97 = true := by kernel_rfl
theorem z_en81 : enters Try.prog 81 = true := by kernel_rfl
theorem z_en78 : enters Try.prog 78 = true := by kernel_rfl
theorem z_en55 : enters Try.prog 55 = true := by kernel_rfl
theorem z_arr105 : arrP Try.prog 105 = some (3, 22, 1) := by kernel_rfl
theorem z_en26 : enters Try.prog 26 = true := by kernel_rfl
theorem z_zero30 : zeroT Try.prog 30 = some [.int .u32 0, .int .u64 0] := by kernel_rfl
theorem z_struct30 : structT Try.prog 30 = some ([.int .u32 0, .int .u64 0], [(0, 1), (1, 1)]) := by kernel_rfl
theorem z_size30 : sizeT Try.prog 30 = some 2 := by kernel_rfl
theorem z_agg30 : aggSize Try.prog 30 = some 2 := by kernel_rfl
theorem z_zero166 : zeroT Try.prog 166 = some (cellsN Value.bool false 32 (List.replicate 32 false)) := by kernel_rfl
theorem z_arr166 : arrP Try.prog 166 = some (32, 4, 1) := by kernel_rfl
theorem z_agg166 : aggSize Try.prog 166 = some 32 := by kernel_rfl
theorem z_size166 : sizeT Try.prog 166 = some 32 := by kernel_rfl
theorem z_en100 : enters Try.prog 100 = true := by kernel_rfl
theorem z_en102 : enters Try.prog 102 = true := by kernel_rfl
theorem z_en101 : enters Try.prog 101 = true := by kernel_rfl
theorem z_en103 : enters Try.prog 103 = true := by kernel_rfl
theorem z_en83 : enters Try.prog 83 = true := by kernel_rfl
theorem z_en82 : enters Try.prog 82 = true := by kernel_rfl
theorem z_en56 : enters Try.prog 56 = true := by kernel_rfl
theorem z_en27 : enters Try.prog 27 = true := by kernel_rfl
theorem z_held30 : Program.stoodInHeld Try.prog 30 = false := by kernel_rfl
theorem z_eqg30 : Program.eqGuardType Try.prog (Program.depth Try.prog) 30 = false := by kernel_rfl
theorem z_struct147 : structT Try.prog 147 = some ([.slice none 0 0, .int .i64 0, .bool false], [(0, 1), (1, 1), (2, 1)]) := by kernel_rfl
theorem z_struct149 : structT Try.prog 149 = some ([.slice none 0 0, .int .i64 0, .bool false], [(0, 3)]) := by kernel_rfl
theorem z_en57 : enters Try.prog 57 = true := by kernel_rfl
theorem z_arrz105 : arrT Try.prog 105 = some ([.int .u32 0, .int .u32 0, .int .u32 0], 1) := by kernel_rfl
theorem z_field149_0 : fieldT Try.prog 149 0 = some 0 := by kernel_rfl
theorem z_field147_2 : fieldT Try.prog 147 2 = some 2 := by kernel_rfl
theorem z_field147_1 : fieldT Try.prog 147 1 = some 1 := by kernel_rfl
theorem z_field147_0 : fieldT Try.prog 147 0 = some 0 := by kernel_rfl
theorem z_en104 : enters Try.prog 104 = true := by kernel_rfl
theorem z_en84 : enters Try.prog 84 = true := by kernel_rfl
theorem z_en58 : enters Try.prog 58 = true := by kernel_rfl
theorem z_en60 : enters Try.prog 60 = true := by kernel_rfl
theorem z_en29 : enters Try.prog 29 = true := by kernel_rfl
theorem z_en28 : enters Try.prog 28 = true := by kernel_rfl
end Go.Rel
