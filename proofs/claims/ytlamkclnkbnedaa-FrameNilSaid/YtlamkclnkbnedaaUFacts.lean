import Derived.Test.YtlamkclnkbnedaaProg
import Derived.Test.YtlamkclnkbnedaaEngL
import Derived.KernelRfl
/-! Facts of the program's types and functions. -/
namespace Go.Rel
open Go Go.Eng Go.Proofs
theorem z_sc3 : isScalar Try.prog 3 = true := by kernel_rfl
theorem z_size3 : sizeT Try.prog 3 = some 1 := by kernel_rfl
theorem z_zero3 : zeroT Try.prog 3 = some [.int .i64 0] := by kernel_rfl
theorem z_sc22 : isScalar Try.prog 22 = true := by kernel_rfl
theorem z_mix : Try.prog.follows .mixedOrders = true := by kernel_rfl
theorem z_slT45 : slT Try.prog 45 = some (5, 1, 1) := by kernel_rfl
theorem z_agg44 : aggSize Try.prog 44 = some 5 := by kernel_rfl
theorem z_struct47 : structT Try.prog 47 = some ([.int .i64 0, .int .i64 0, .int .u32 0, .int .i64 0, .int .i64 0, .slice none 0 0], [(0, 5), (5, 1)]) := by kernel_rfl
theorem z_zero47 : zeroT Try.prog 47 = some [.int .i64 0, .int .i64 0, .int .u32 0, .int .i64 0, .int .i64 0, .slice none 0 0] := by kernel_rfl
theorem z_size47 : sizeT Try.prog 47 = some 6 := by kernel_rfl
theorem z_struct131 : structT Try.prog 131 = some ((cellsN (Value.int .u32) 0 1024 (List.replicate 1024 0)), [(0, 1024)]) := by kernel_rfl
theorem z_en74 : enters Try.prog 74 = true := by kernel_rfl
theorem z_field131_0 : fieldT Try.prog 131 0 = some 0 := by kernel_rfl
theorem z_arr129 : arrP Try.prog 129 = some (4, 128, 256) := by kernel_rfl
theorem z_arr128 : arrP Try.prog 128 = some (256, 22, 1) := by kernel_rfl
theorem z_size22 : sizeT Try.prog 22 = some 1 := by kernel_rfl
theorem z_en49 : enters Try.prog 49 = true := by kernel_rfl
theorem z_struct97 : structT Try.prog 97 = some ([.pointer none], [(0, 1)]) := by kernel_rfl
theorem z_en20 : enters Try.prog 20 = true := by kernel_rfl
theorem z_agg47 : aggSize Try.prog 47 = some 6 := by kernel_rfl
theorem z_field47_0 : fieldT Try.prog 47 0 = some 0 := by kernel_rfl
theorem z_zero39 : zeroT Try.prog 39 = some [.int .i64 0] := by kernel_rfl
theorem z_size39 : sizeT Try.prog 39 = some 1 := by kernel_rfl
theorem z_field44_0 : fieldT Try.prog 44 0 = some 0 := by kernel_rfl
theorem z_field44_1 : fieldT Try.prog 44 1 = some 1 := by kernel_rfl
theorem z_field44_4 : fieldT Try.prog 44 4 = some 4 := by kernel_rfl
theorem z_field44_3 : fieldT Try.prog 44 3 = some 3 := by kernel_rfl
theorem z_en92 : enters Try.prog 92 = true := by kernel_rfl
theorem z_en75 : enters Try.prog 75 = true := by kernel_rfl
theorem z_sc39 : isScalar Try.prog 39 = true := by kernel_rfl
theorem z_en50 : enters Try.prog 50 = true := by kernel_rfl
theorem z_field47_1 : fieldT Try.prog 47 1 = some 5 := by kernel_rfl
theorem z_sc45 : isScalar Try.prog 45 = true := by kernel_rfl
theorem z_en21 : enters Try.prog 21 = true := by kernel_rfl
theorem z_slT99 : slT Try.prog 99 = some (47, 6, 64) := by kernel_rfl
theorem z_field44_2 : fieldT Try.prog 44 2 = some 2 := by kernel_rfl
theorem z_arrz153 : arrT Try.prog 153 = some ([.int .u8 0, .int .u8 0, .int .u8 0, .int .u8 0, .int .u8 0, .int .u8 0, .int .u8 0, .int .u8 0], 1) := by kernel_rfl
theorem z_zero153 : zeroT Try.prog 153 = some [.int .u8 0, .int .u8 0, .int .u8 0, .int .u8 0, .int .u8 0, .int .u8 0, .int .u8 0, .int .u8 0] := by kernel_rfl
theorem z_size153 : sizeT Try.prog 153 = some 8 := by kernel_rfl
theorem z_arr153 : arrP Try.prog 153 = some (8, 5, 1) := by kernel_rfl
theorem z_en65 : enters Try.prog 65 = true := by kernel_rfl
theorem z_field97_0 : fieldT Try.prog 97 0 = some 0 := by kernel_rfl
theorem z_sc94 : isScalar Try.prog 94 = true := by kernel_rfl
theorem z_slT100 : slT Try.prog 100 = some (45, 1, 24) := by kernel_rfl
theorem z_zero45 : zeroT Try.prog 45 = some [.slice none 0 0] := by kernel_rfl
theorem z_en93 : enters Try.prog 93 = true := by kernel_rfl
theorem z_sc5 : isScalar Try.prog 5 = true := by kernel_rfl
theorem z_en94 : enters Try.prog 94 = true := by kernel_rfl
theorem z_en95 : enters Try.prog 95 = true := by kernel_rfl
theorem z_en77 : enters Try.prog 77 = true := by kernel_rfl
theorem z_zero136 : zeroT Try.prog 136 = some [.int .u8 0, .int .u8 0, .int .u8 0, .int .u8 0] := by kernel_rfl
theorem z_arrz136 : arrT Try.prog 136 = some ([.int .u8 0, .int .u8 0, .int .u8 0, .int .u8 0], 1) := by kernel_rfl
theorem z_size136 : sizeT Try.prog 136 = some 4 := by kernel_rfl
theorem z_agg136 : aggSize Try.prog 136 = some 4 := by kernel_rfl
theorem z_en76 : enters Try.prog 76 = true := by kernel_rfl
theorem z_zero5 : zeroT Try.prog 5 = some [.int .u8 0] := by kernel_rfl
theorem z_arr136 : arrP Try.prog 136 = some (4, 5, 1) := by kernel_rfl
theorem z_en59 : enters Try.prog 59 = true := by kernel_rfl
theorem z_en107 : enters Try.prog 107 = true := by kernel_rfl
theorem z_en106 : enters Try.prog 106 = true := by kernel_rfl
theorem z_en90 : enters Try.prog 90 = true := by kernel_rfl
theorem z_size45 : sizeT Try.prog 45 = some 1 := by kernel_rfl
theorem z_en66 : enters Try.prog 66 = true := by kernel_rfl
theorem z_en34 : enters Try.prog 34 = true := by kernel_rfl
theorem z_en51 : enters Try.prog 51 = true := by kernel_rfl
theorem z_en22 : enters Try.prog 22 = true := by kernel_rfl
theorem z_en52 : enters Try.prog 52 = true := by kernel_rfl
theorem z_en23 : enters Try.prog 23 = true := by kernel_rfl
theorem z_en24 : enters Try.prog 24 = true := by kernel_rfl
theorem z_struct44 : structT Try.prog 44 = some ([.int .i64 0, .int .i64 0, .int .u32 0, .int .i64 0, .int .i64 0], [(0, 1), (1, 1), (2, 1), (3, 1), (4, 1)]) := by kernel_rfl
theorem z_en25 : enters Try.prog 25 = true := by kernel_rfl
theorem z_en30 : enters Try.prog 30 = true := by kernel_rfl
theorem z_sc48 : isScalar Try.prog 48 = true := by kernel_rfl
theorem z_en68 : enters Try.prog 68 = true := by kernel_rfl
theorem z_en36 : enters Try.prog 36 = true := by kernel_rfl
theorem z_held44 : Program.stoodInHeld Try.prog 44 = false := by kernel_rfl
theorem z_eqg44 : Program.eqGuardType Try.prog (Program.depth Try.prog) 44 = false := by kernel_rfl
theorem z_en70 : enters Try.prog 70 = true := by kernel_rfl
theorem z_en37 : enters Try.prog 37 = true := by kernel_rfl
end Go.Rel
