import Derived.Test.YtlamkclnkbnedaaDoorProg
import Derived.Test.YtlamkclnkbnedaaDoorEngM
import Derived.KernelRfl
import Derived.Test.YtlamkclnkbnedaaDoorShelf
/-! Facts of the program's types and functions. -/
namespace Go.Rel
open Go Go.Eng Go.Proofs
theorem z_sc3 : isScalar Tryd.prog 3 = true := by kernel_rfl
theorem z_sc22 : isScalar Tryd.prog 22 = true := by kernel_rfl
theorem z_size3 : sizeT Tryd.prog 3 = some 1 := by kernel_rfl
theorem z_size32 : sizeT Tryd.prog 32 = some 1 := by kernel_rfl
theorem z_sc32 : isScalar Tryd.prog 32 = true := by kernel_rfl
theorem z_size22 : sizeT Tryd.prog 22 = some 1 := by kernel_rfl
theorem z_slT31 : slT Tryd.prog 31 = some (5, 1, 1) := by kernel_rfl
theorem z_zero5 : zeroT Tryd.prog 5 = some [.int .u8 0] := by kernel_rfl
theorem z_sc5 : isScalar Tryd.prog 5 = true := by kernel_rfl
theorem z_mix : Tryd.prog.follows .mixedOrders = true := by kernel_rfl
theorem z_en15 : enters Tryd.prog 15 = true := by kernel_rfl
theorem z_str0 : (ByteArray.mk #[]) = bstr [] := by kernel_rfl
theorem z_en43 : enters Tryd.prog 43 = true := by kernel_rfl
theorem z_str3 : (ByteArray.mk #[32]) = bstr [32] := by kernel_rfl
theorem z_zero3 : zeroT Tryd.prog 3 = some [.int .i64 0] := by kernel_rfl
theorem z_size4 : sizeT Tryd.prog 4 = some 1 := by kernel_rfl
theorem z_en63 : enters Tryd.prog 63 = true := by kernel_rfl
theorem z_sc4 : isScalar Tryd.prog 4 = true := by kernel_rfl
theorem z_struct111 : structT Tryd.prog 111 = some ([.slice none 0 0, .int .i64 0, .int .i64 0], [(0, 1), (1, 1), (2, 1)]) := by kernel_rfl
theorem z_en38 : enters Tryd.prog 38 = true := by kernel_rfl
theorem z_zero22 : zeroT Tryd.prog 22 = some [.int .u32 0] := by kernel_rfl
theorem z_field111_2 : fieldT Tryd.prog 111 2 = some 2 := by kernel_rfl
theorem z_field111_0 : fieldT Tryd.prog 111 0 = some 0 := by kernel_rfl
theorem z_sc31 : isScalar Tryd.prog 31 = true := by kernel_rfl
theorem z_field111_1 : fieldT Tryd.prog 111 1 = some 1 := by kernel_rfl
theorem z_en92 : enters Tryd.prog 92 = true := by kernel_rfl
theorem z_en102 : enters Tryd.prog 102 = true := by kernel_rfl
theorem z_en91 : enters Tryd.prog 91 = true := by kernel_rfl
theorem z_en90 : enters Tryd.prog 90 = true := by kernel_rfl
theorem z_en89 : enters Tryd.prog 89 = true := by kernel_rfl
theorem z_en68 : enters Tryd.prog 68 = true := by kernel_rfl
theorem z_en69 : enters Tryd.prog 69 = true := by kernel_rfl
theorem z_en70 : enters Tryd.prog 70 = true := by kernel_rfl
theorem z_str8 : (ByteArray.mk #[45]) = bstr [45] := by kernel_rfl
theorem z_en45 : enters Tryd.prog 45 = true := by kernel_rfl
theorem z_en46 : enters Tryd.prog 46 = true := by kernel_rfl
theorem z_agg50 : aggSize Tryd.prog 50 = some 2 := by kernel_rfl
theorem z_struct116 : structT Tryd.prog 116 = some ([.slice none 0 0, .int .i64 0, .bool false], [(0, 1), (1, 1), (2, 1)]) := by kernel_rfl
theorem z_struct118 : structT Tryd.prog 118 = some ([.slice none 0 0, .int .i64 0, .bool false], [(0, 3)]) := by kernel_rfl
theorem z_en47 : enters Tryd.prog 47 = true := by kernel_rfl
theorem z_field50_0 : fieldT Tryd.prog 50 0 = some 0 := by kernel_rfl
theorem z_field50_1 : fieldT Tryd.prog 50 1 = some 1 := by kernel_rfl
theorem z_sc48 : isScalar Tryd.prog 48 = true := by kernel_rfl
theorem z_arrz87 : arrT Tryd.prog 87 = some ([.int .u32 0, .int .u32 0, .int .u32 0], 1) := by kernel_rfl
theorem z_arr87 : arrP Tryd.prog 87 = some (3, 22, 1) := by kernel_rfl
theorem z_arrz120 : arrT Tryd.prog 120 = some ([.int .u8 0, .int .u8 0, .int .u8 0, .int .u8 0], 1) := by kernel_rfl
theorem z_zero120 : zeroT Tryd.prog 120 = some [.int .u8 0, .int .u8 0, .int .u8 0, .int .u8 0] := by kernel_rfl
theorem z_size120 : sizeT Tryd.prog 120 = some 4 := by kernel_rfl
theorem z_arr120 : arrP Tryd.prog 120 = some (4, 5, 1) := by kernel_rfl
theorem z_field118_0 : fieldT Tryd.prog 118 0 = some 0 := by kernel_rfl
theorem z_field116_2 : fieldT Tryd.prog 116 2 = some 2 := by kernel_rfl
theorem z_field116_1 : fieldT Tryd.prog 116 1 = some 1 := by kernel_rfl
theorem z_field116_0 : fieldT Tryd.prog 116 0 = some 0 := by kernel_rfl
theorem z_size31 : sizeT Tryd.prog 31 = some 1 := by kernel_rfl
theorem z_en98 : enters Tryd.prog 98 = true := by kernel_rfl
theorem z_en74 : enters Tryd.prog 74 = true := by kernel_rfl
theorem z_en48 : enters Tryd.prog 48 = true := by kernel_rfl
theorem z_struct126 : structT Tryd.prog 126 = some ((cellsN (Value.int .u32) 0 1024 (List.replicate 1024 0)), [(0, 1024)]) := by kernel_rfl
theorem z_en77 : enters Tryd.prog 77 = true := by kernel_rfl
theorem z_field126_0 : fieldT Tryd.prog 126 0 = some 0 := by kernel_rfl
theorem z_arr124 : arrP Tryd.prog 124 = some (4, 123, 256) := by kernel_rfl
theorem z_arr123 : arrP Tryd.prog 123 = some (256, 22, 1) := by kernel_rfl
theorem z_en50 : enters Tryd.prog 50 = true := by kernel_rfl
theorem z_en51 : enters Tryd.prog 51 = true := by kernel_rfl
theorem z_slT153 : slT Tryd.prog 153 = some (31, 1, 24) := by kernel_rfl
theorem z_zero31 : zeroT Tryd.prog 31 = some [.slice none 0 0] := by kernel_rfl
theorem z_en99 : enters Tryd.prog 99 = true := by kernel_rfl
theorem z_en100 : enters Tryd.prog 100 = true := by kernel_rfl
theorem z_en101 : enters Tryd.prog 101 = true := by kernel_rfl
theorem z_en76 : enters Tryd.prog 76 = true := by kernel_rfl
theorem z_agg120 : aggSize Tryd.prog 120 = some 4 := by kernel_rfl
theorem z_en75 : enters Tryd.prog 75 = true := by kernel_rfl
theorem z_en49 : enters Tryd.prog 49 = true := by kernel_rfl
theorem z_en22 : enters Tryd.prog 22 = true := by kernel_rfl
theorem z_zero50 : zeroT Tryd.prog 50 = some [.int .u32 0, .int .u64 0] := by kernel_rfl
theorem z_struct50 : structT Tryd.prog 50 = some ([.int .u32 0, .int .u64 0], [(0, 1), (1, 1)]) := by kernel_rfl
theorem z_size50 : sizeT Tryd.prog 50 = some 2 := by kernel_rfl
theorem z_info5 : (Tryd.prog.info? 5).isSome = true := by kernel_rfl
theorem z_cell5 : Program.cellsOf Tryd.prog 5 = 1 := by kernel_rfl
theorem z_eqg120 : Program.eqGuardType Tryd.prog (Program.depth Tryd.prog) 120 = false := by kernel_rfl
theorem z_en52 : enters Tryd.prog 52 = true := by kernel_rfl
theorem z_zero87 : zeroT Tryd.prog 87 = some [.int .u32 0, .int .u32 0, .int .u32 0] := by kernel_rfl
theorem z_sc72 : isScalar Tryd.prog 72 = true := by kernel_rfl
theorem z_en78 : enters Tryd.prog 78 = true := by kernel_rfl
theorem z_en53 : enters Tryd.prog 53 = true := by kernel_rfl
theorem z_en23 : enters Tryd.prog 23 = true := by kernel_rfl
theorem z_field55_0 : fieldT Tryd.prog 55 0 = some 0 := by kernel_rfl
theorem z_en54 : enters Tryd.prog 54 = true := by kernel_rfl
theorem z_field55_1 : fieldT Tryd.prog 55 1 = some 1 := by kernel_rfl
theorem z_en55 : enters Tryd.prog 55 = true := by kernel_rfl
theorem z_en79 : enters Tryd.prog 79 = true := by kernel_rfl
theorem z_en56 : enters Tryd.prog 56 = true := by kernel_rfl
theorem z_en24 : enters Tryd.prog 24 = true := by kernel_rfl
theorem z_en82 : enters Tryd.prog 82 = true := by kernel_rfl
theorem z_struct131 : structT Tryd.prog 131 = some ([.int .u32 0, .int .u64 0], [(0, 1), (1, 1)]) := by kernel_rfl
theorem z_struct133 : structT Tryd.prog 133 = some ([.int .u32 0, .int .u64 0], [(0, 2)]) := by kernel_rfl
theorem z_en58 : enters Tryd.prog 58 = true := by kernel_rfl
theorem z_field133_0 : fieldT Tryd.prog 133 0 = some 0 := by kernel_rfl
theorem z_field131_0 : fieldT Tryd.prog 131 0 = some 0 := by kernel_rfl
theorem z_en80 : enters Tryd.prog 80 = true := by kernel_rfl
theorem z_field131_1 : fieldT Tryd.prog 131 1 = some 1 := by kernel_rfl
theorem z_en81 : enters Tryd.prog 81 = true := by kernel_rfl
theorem z_en57 : enters Tryd.prog 57 = true := by kernel_rfl
theorem z_en59 : enters Tryd.prog 59 = true := by kernel_rfl
theorem z_en83 : enters Tryd.prog 83 = true := by kernel_rfl
theorem z_en60 : enters Tryd.prog 60 = true := by kernel_rfl
theorem z_en27 : enters Tryd.prog 27 = true := by kernel_rfl
theorem z_en26 : enters Tryd.prog 26 = true := by kernel_rfl
theorem z_en25 : enters Tryd.prog 25 = true := by kernel_rfl
theorem z_en28 : enters Tryd.prog 28 = true := by kernel_rfl
theorem z_en29 : enters Tryd.prog 29 = true := by kernel_rfl
theorem z_zero136 : zeroT Tryd.prog 136 = some (cellsN Value.bool false 32 (List.replicate 32 false)) := by kernel_rfl
theorem z_arr136 : arrP Tryd.prog 136 = some (32, 4, 1) := by kernel_rfl
theorem z_agg136 : aggSize Tryd.prog 136 = some 32 := by kernel_rfl
theorem z_size136 : sizeT Tryd.prog 136 = some 32 := by kernel_rfl
theorem z_en84 : enters Tryd.prog 84 = true := by kernel_rfl
theorem z_en86 : enters Tryd.prog 86 = true := by kernel_rfl
theorem z_en85 : enters Tryd.prog 85 = true := by kernel_rfl
theorem z_en87 : enters Tryd.prog 87 = true := by kernel_rfl
theorem z_en62 : enters Tryd.prog 62 = true := by kernel_rfl
theorem z_en61 : enters Tryd.prog 61 = true := by kernel_rfl
theorem z_en30 : enters Tryd.prog 30 = true := by kernel_rfl
theorem z_held50 : Program.stoodInHeld Tryd.prog 50 = false := by kernel_rfl
theorem z_eqg50 : Program.eqGuardType Tryd.prog (Program.depth Tryd.prog) 50 = false := by kernel_rfl
theorem z_str9 : (ByteArray.mk #[48, 49, 50, 51, 52, 53, 54, 55, 56, 57, 97, 98, 99, 100, 101, 102]) = bstr [48, 49, 50, 51, 52, 53, 54, 55, 56, 57, 97, 98, 99, 100, 101, 102] := by kernel_rfl
theorem z_size5 : sizeT Tryd.prog 5 = some 1 := by kernel_rfl
theorem z_str10 : (ByteArray.mk #[97, 99, 107, 32]) = bstr [97, 99, 107, 32] := by kernel_rfl
theorem z_en31 : enters Tryd.prog 31 = true := by kernel_rfl
theorem z_en32 : enters Tryd.prog 32 = true := by kernel_rfl
end Go.Rel
