import Derived.Test.YtlamkclnkbnedaaDoorProg
import Derived.Test.YtlamkclnkbnedaaDoorEngM
import Derived.KernelRfl
import Derived.Test.YtlamkclnkbnedaaDoorFmt
import Derived.Test.YtlamkclnkbnedaaDoorShelf
/-! Facts of the program's types and functions. -/
namespace Go.Rel
open Go Go.Eng Go.Proofs
theorem z_field24_0 : fieldT Tryd.prog 24 0 = some 0 := by kernel_rfl
theorem z_sc3 : isScalar Tryd.prog 3 = true := by kernel_rfl
theorem z_field24_1 : fieldT Tryd.prog 24 1 = some 1 := by kernel_rfl
theorem z_field24_2 : fieldT Tryd.prog 24 2 = some 2 := by kernel_rfl
theorem z_sc22 : isScalar Tryd.prog 22 = true := by kernel_rfl
theorem z_field24_4 : fieldT Tryd.prog 24 4 = some 4 := by kernel_rfl
theorem z_agg24 : aggSize Tryd.prog 24 = some 5 := by kernel_rfl
theorem z_zero24 : zeroT Tryd.prog 24 = some [.int .i64 0, .int .i64 0, .int .u32 0, .int .i64 0, .int .i64 0] := by kernel_rfl
theorem z_size24 : sizeT Tryd.prog 24 = some 5 := by kernel_rfl
theorem z_field24_3 : fieldT Tryd.prog 24 3 = some 3 := by kernel_rfl
theorem z_size3 : sizeT Tryd.prog 3 = some 1 := by kernel_rfl
theorem z_struct24 : structT Tryd.prog 24 = some ([.int .i64 0, .int .i64 0, .int .u32 0, .int .i64 0, .int .i64 0], [(0, 1), (1, 1), (2, 1), (3, 1), (4, 1)]) := by kernel_rfl
theorem z_zero32 : zeroT Tryd.prog 32 = some [.int .i64 0] := by kernel_rfl
theorem z_size32 : sizeT Tryd.prog 32 = some 1 := by kernel_rfl
theorem z_en71 : enters Tryd.prog 71 = true := by kernel_rfl
theorem z_en42 : enters Tryd.prog 42 = true := by kernel_rfl
theorem z_sc32 : isScalar Tryd.prog 32 = true := by kernel_rfl
theorem z_en17 : enters Tryd.prog 17 = true := by kernel_rfl
theorem z_arrz78 : arrT Tryd.prog 78 = some ([.int .u8 0, .int .u8 0, .int .u8 0, .int .u8 0, .int .u8 0, .int .u8 0, .int .u8 0, .int .u8 0], 1) := by kernel_rfl
theorem z_zero78 : zeroT Tryd.prog 78 = some [.int .u8 0, .int .u8 0, .int .u8 0, .int .u8 0, .int .u8 0, .int .u8 0, .int .u8 0, .int .u8 0] := by kernel_rfl
theorem z_size78 : sizeT Tryd.prog 78 = some 8 := by kernel_rfl
theorem z_arr78 : arrP Tryd.prog 78 = some (8, 5, 1) := by kernel_rfl
theorem z_en14 : enters Tryd.prog 14 = true := by kernel_rfl
theorem z_size22 : sizeT Tryd.prog 22 = some 1 := by kernel_rfl
theorem z_slT31 : slT Tryd.prog 31 = some (5, 1, 1) := by kernel_rfl
theorem z_zero5 : zeroT Tryd.prog 5 = some [.int .u8 0] := by kernel_rfl
theorem z_sc5 : isScalar Tryd.prog 5 = true := by kernel_rfl
theorem z_mix : Tryd.prog.follows .mixedOrders = true := by kernel_rfl
theorem z_en15 : enters Tryd.prog 15 = true := by kernel_rfl
theorem z_str0 : (ByteArray.mk #[]) = bstr [] := by kernel_rfl
theorem z_en43 : enters Tryd.prog 43 = true := by kernel_rfl
theorem z_str1 : (ByteArray.mk #[118, 32]) = bstr [118, 32] := by kernel_rfl
theorem z_str2 : (ByteArray.mk #[32, 107, 32]) = bstr [32, 107, 32] := by kernel_rfl
theorem z_str3 : (ByteArray.mk #[32]) = bstr [32] := by kernel_rfl
theorem z_en73 : enters Tryd.prog 73 = true := by kernel_rfl
theorem z_en44 : enters Tryd.prog 44 = true := by kernel_rfl
theorem z_str4 : (ByteArray.mk #[47]) = bstr [47] := by kernel_rfl
theorem z_en18 : enters Tryd.prog 18 = true := by kernel_rfl
theorem z_str5 : (ByteArray.mk #[118, 32, 50, 32, 107, 32, 52, 32, 55, 55, 32, 48, 47, 51]) = bstr [118, 32, 50, 32, 107, 32, 52, 32, 55, 55, 32, 48, 47, 51] := by kernel_rfl
theorem z_en8 : enters Tryd.prog 8 = true := by kernel_rfl
theorem z_held24 : Program.stoodInHeld Tryd.prog 24 = false := by kernel_rfl
theorem z_eqg24 : Program.eqGuardType Tryd.prog (Program.depth Tryd.prog) 24 = false := by kernel_rfl
theorem z_struct111 : structT Tryd.prog 111 = some ([.slice none 0 0, .int .i64 0, .int .i64 0], [(0, 1), (1, 1), (2, 1)]) := by kernel_rfl
theorem z_en38 : enters Tryd.prog 38 = true := by kernel_rfl
theorem z_zero22 : zeroT Tryd.prog 22 = some [.int .u32 0] := by kernel_rfl
theorem z_field111_2 : fieldT Tryd.prog 111 2 = some 2 := by kernel_rfl
theorem z_field111_0 : fieldT Tryd.prog 111 0 = some 0 := by kernel_rfl
theorem z_sc31 : isScalar Tryd.prog 31 = true := by kernel_rfl
theorem z_field111_1 : fieldT Tryd.prog 111 1 = some 1 := by kernel_rfl
theorem z_en92 : enters Tryd.prog 92 = true := by kernel_rfl
theorem z_en102 : enters Tryd.prog 102 = true := by kernel_rfl
theorem z_en91 : enters Tryd.prog 91 = true := by kernel_rfl
theorem z_en90 : enters Tryd.prog 90 = true := by kernel_rfl
theorem z_en89 : enters Tryd.prog 89 = true := by kernel_rfl
theorem z_en68 : enters Tryd.prog 68 = true := by kernel_rfl
theorem z_en39 : enters Tryd.prog 39 = true := by kernel_rfl
theorem z_en40 : enters Tryd.prog 40 = true := by kernel_rfl
theorem z_en69 : enters Tryd.prog 69 = true := by kernel_rfl
theorem z_en70 : enters Tryd.prog 70 = true := by kernel_rfl
theorem z_en41 : enters Tryd.prog 41 = true := by kernel_rfl
theorem z_en12 : enters Tryd.prog 12 = true := by kernel_rfl
theorem z_field35_0 : fieldT Tryd.prog 35 0 = some 0 := by kernel_rfl
theorem z_field35_1 : fieldT Tryd.prog 35 1 = some 1 := by kernel_rfl
theorem z_field35_4 : fieldT Tryd.prog 35 4 = some 4 := by kernel_rfl
theorem z_field35_3 : fieldT Tryd.prog 35 3 = some 3 := by kernel_rfl
theorem z_en16 : enters Tryd.prog 16 = true := by kernel_rfl
theorem z_str8 : (ByteArray.mk #[45]) = bstr [45] := by kernel_rfl
theorem z_en45 : enters Tryd.prog 45 = true := by kernel_rfl
theorem z_field35_2 : fieldT Tryd.prog 35 2 = some 2 := by kernel_rfl
theorem z_en19 : enters Tryd.prog 19 = true := by kernel_rfl
theorem z_en46 : enters Tryd.prog 46 = true := by kernel_rfl
theorem z_en20 : enters Tryd.prog 20 = true := by kernel_rfl
theorem z_en21 : enters Tryd.prog 21 = true := by kernel_rfl
end Go.Rel
