import Derived.Test.YtlamkclnkbnedaaDoorProg
import Derived.Test.YtlamkclnkbnedaaDoorEngL
import Derived.KernelRfl
/-! Facts of the program's types and functions. -/
namespace Go.Rel
open Go Go.Eng Go.Proofs
theorem z_field24_0 : fieldT Tryd.prog 24 0 = some 0 := by kernel_rfl
theorem z_sc3 : isScalar Tryd.prog 3 = true := by kernel_rfl
theorem z_field24_1 : fieldT Tryd.prog 24 1 = some 1 := by kernel_rfl
theorem z_field24_2 : fieldT Tryd.prog 24 2 = some 2 := by kernel_rfl
theorem z_sc22 : isScalar Tryd.prog 22 = true := by kernel_rfl
theorem z_field24_4 : fieldT Tryd.prog 24 4 = some 4 := by kernel_rfl
theorem z_agg24 : aggSize Tryd.prog 24 = some 5 := by kernel_rfl
theorem z_zero24 : zeroT Tryd.prog 24 = some [.int .i64 0, .int .i64 0, .int .u32 0, .int .i64 0, .int .i64 0] := by kernel_rfl
theorem z_size24 : sizeT Tryd.prog 24 = some 5 := by kernel_rfl
theorem z_field24_3 : fieldT Tryd.prog 24 3 = some 3 := by kernel_rfl
theorem z_size3 : sizeT Tryd.prog 3 = some 1 := by kernel_rfl
theorem z_struct24 : structT Tryd.prog 24 = some ([.int .i64 0, .int .i64 0, .int .u32 0, .int .i64 0, .int .i64 0], [(0, 1), (1, 1), (2, 1), (3, 1), (4, 1)]) := by kernel_rfl
theorem z_zero32 : zeroT Tryd.prog 32 = some [.int .i64 0] := by kernel_rfl
theorem z_size32 : sizeT Tryd.prog 32 = some 1 := by kernel_rfl
theorem z_en71 : enters Tryd.prog 71 = true := by kernel_rfl
theorem z_en42 : enters Tryd.prog 42 = true := by kernel_rfl
theorem z_sc32 : isScalar Tryd.prog 32 = true := by kernel_rfl
theorem z_en17 : enters Tryd.prog 17 = true := by kernel_rfl
theorem z_arrz78 : arrT Tryd.prog 78 = some ([.int .u8 0, .int .u8 0, .int .u8 0, .int .u8 0, .int .u8 0, .int .u8 0, .int .u8 0, .int .u8 0], 1) := by kernel_rfl
theorem z_zero78 : zeroT Tryd.prog 78 = some [.int .u8 0, .int .u8 0, .int .u8 0, .int .u8 0, .int .u8 0, .int .u8 0, .int .u8 0, .int .u8 0] := by kernel_rfl
theorem z_size78 : sizeT Tryd.prog 78 = some 8 := by kernel_rfl
theorem z_arr78 : arrP Tryd.prog 78 = some (8, 5, 1) := by kernel_rfl
theorem z_en14 : enters Tryd.prog 14 = true := by kernel_rfl
theorem z_size22 : sizeT Tryd.prog 22 = some 1 := by kernel_rfl
theorem z_slT31 : slT Tryd.prog 31 = some (5, 1, 1) := by kernel_rfl
theorem z_zero5 : zeroT Tryd.prog 5 = some [.int .u8 0] := by kernel_rfl
theorem z_sc5 : isScalar Tryd.prog 5 = true := by kernel_rfl
theorem z_mix : Tryd.prog.follows .mixedOrders = true := by kernel_rfl
theorem z_en15 : enters Tryd.prog 15 = true := by kernel_rfl
theorem z_str0 : (ByteArray.mk #[]) = bstr [] := by kernel_rfl
theorem z_str1 : (ByteArray.mk #[48, 49, 50, 51, 52, 53, 54, 55, 56, 57, 97, 98, 99, 100, 101, 102, 103, 104, 105, 106, 107, 108, 109, 110, 111, 112, 113, 114, 115, 116, 117, 118, 119, 120, 121, 122]) = bstr [48, 49, 50, 51, 52, 53, 54, 55, 56, 57, 97, 98, 99, 100, 101, 102, 103, 104, 105, 106, 107, 108, 109, 110, 111, 112, 113, 114, 115, 116, 117, 118, 119, 120, 121, 122] := by kernel_rfl
theorem z_str2 : (ByteArray.mk #[48, 48, 48, 49, 48, 50, 48, 51, 48, 52, 48, 53, 48, 54, 48, 55, 48, 56, 48, 57, 49, 48, 49, 49, 49, 50, 49, 51, 49, 52, 49, 53, 49, 54, 49, 55, 49, 56, 49, 57, 50, 48, 50, 49, 50, 50, 50, 51, 50, 52, 50, 53, 50, 54, 50, 55, 50, 56, 50, 57, 51, 48, 51, 49, 51, 50, 51, 51, 51, 52, 51, 53, 51, 54, 51, 55, 51, 56, 51, 57, 52, 48, 52, 49, 52, 50, 52, 51, 52, 52, 52, 53, 52, 54, 52, 55, 52, 56, 52, 57, 53, 48, 53, 49, 53, 50, 53, 51, 53, 52, 53, 53, 53, 54, 53, 55, 53, 56, 53, 57, 54, 48, 54, 49, 54, 50, 54, 51, 54, 52, 54, 53, 54, 54, 54, 55, 54, 56, 54, 57, 55, 48, 55, 49, 55, 50, 55, 51, 55, 52, 55, 53, 55, 54, 55, 55, 55, 56, 55, 57, 56, 48, 56, 49, 56, 50, 56, 51, 56, 52, 56, 53, 56, 54, 56, 55, 56, 56, 56, 57, 57, 48, 57, 49, 57, 50, 57, 51, 57, 52, 57, 53, 57, 54, 57, 55, 57, 56, 57, 57]) = bstr [48, 48, 48, 49, 48, 50, 48, 51, 48, 52, 48, 53, 48, 54, 48, 55, 48, 56, 48, 57, 49, 48, 49, 49, 49, 50, 49, 51, 49, 52, 49, 53, 49, 54, 49, 55, 49, 56, 49, 57, 50, 48, 50, 49, 50, 50, 50, 51, 50, 52, 50, 53, 50, 54, 50, 55, 50, 56, 50, 57, 51, 48, 51, 49, 51, 50, 51, 51, 51, 52, 51, 53, 51, 54, 51, 55, 51, 56, 51, 57, 52, 48, 52, 49, 52, 50, 52, 51, 52, 52, 52, 53, 52, 54, 52, 55, 52, 56, 52, 57, 53, 48, 53, 49, 53, 50, 53, 51, 53, 52, 53, 53, 53, 54, 53, 55, 53, 56, 53, 57, 54, 48, 54, 49, 54, 50, 54, 51, 54, 52, 54, 53, 54, 54, 54, 55, 54, 56, 54, 57, 55, 48, 55, 49, 55, 50, 55, 51, 55, 52, 55, 53, 55, 54, 55, 55, 55, 56, 55, 57, 56, 48, 56, 49, 56, 50, 56, 51, 56, 52, 56, 53, 56, 54, 56, 55, 56, 56, 56, 57, 57, 48, 57, 49, 57, 50, 57, 51, 57, 52, 57, 53, 57, 54, 57, 55, 57, 56, 57, 57] := by kernel_rfl
theorem z_en94 : enters Tryd.prog 94 = true := by kernel_rfl
theorem z_zero147 : zeroT Tryd.prog 147 = some (cellsN (Value.int .u8) 0 24 (List.replicate 24 0)) := by kernel_rfl
theorem z_str3 : (ByteArray.mk #[0, 1, 2, 2, 3, 3, 3, 3, 4, 4, 4, 4, 4, 4, 4, 4, 5, 5, 5, 5, 5, 5, 5, 5, 5, 5, 5, 5, 5, 5, 5, 5, 6, 6, 6, 6, 6, 6, 6, 6, 6, 6, 6, 6, 6, 6, 6, 6, 6, 6, 6, 6, 6, 6, 6, 6, 6, 6, 6, 6, 6, 6, 6, 6, 7, 7, 7, 7, 7, 7, 7, 7, 7, 7, 7, 7, 7, 7, 7, 7, 7, 7, 7, 7, 7, 7, 7, 7, 7, 7, 7, 7, 7, 7, 7, 7, 7, 7, 7, 7, 7, 7, 7, 7, 7, 7, 7, 7, 7, 7, 7, 7, 7, 7, 7, 7, 7, 7, 7, 7, 7, 7, 7, 7, 7, 7, 7, 7, 8, 8, 8, 8, 8, 8, 8, 8, 8, 8, 8, 8, 8, 8, 8, 8, 8, 8, 8, 8, 8, 8, 8, 8, 8, 8, 8, 8, 8, 8, 8, 8, 8, 8, 8, 8, 8, 8, 8, 8, 8, 8, 8, 8, 8, 8, 8, 8, 8, 8, 8, 8, 8, 8, 8, 8, 8, 8, 8, 8, 8, 8, 8, 8, 8, 8, 8, 8, 8, 8, 8, 8, 8, 8, 8, 8, 8, 8, 8, 8, 8, 8, 8, 8, 8, 8, 8, 8, 8, 8, 8, 8, 8, 8, 8, 8, 8, 8, 8, 8, 8, 8, 8, 8, 8, 8, 8, 8, 8, 8, 8, 8, 8, 8, 8, 8, 8, 8, 8, 8, 8, 8, 8, 8, 8, 8, 8, 8]) = bstr [0, 1, 2, 2, 3, 3, 3, 3, 4, 4, 4, 4, 4, 4, 4, 4, 5, 5, 5, 5, 5, 5, 5, 5, 5, 5, 5, 5, 5, 5, 5, 5, 6, 6, 6, 6, 6, 6, 6, 6, 6, 6, 6, 6, 6, 6, 6, 6, 6, 6, 6, 6, 6, 6, 6, 6, 6, 6, 6, 6, 6, 6, 6, 6, 7, 7, 7, 7, 7, 7, 7, 7, 7, 7, 7, 7, 7, 7, 7, 7, 7, 7, 7, 7, 7, 7, 7, 7, 7, 7, 7, 7, 7, 7, 7, 7, 7, 7, 7, 7, 7, 7, 7, 7, 7, 7, 7, 7, 7, 7, 7, 7, 7, 7, 7, 7, 7, 7, 7, 7, 7, 7, 7, 7, 7, 7, 7, 7, 8, 8, 8, 8, 8, 8, 8, 8, 8, 8, 8, 8, 8, 8, 8, 8, 8, 8, 8, 8, 8, 8, 8, 8, 8, 8, 8, 8, 8, 8, 8, 8, 8, 8, 8, 8, 8, 8, 8, 8, 8, 8, 8, 8, 8, 8, 8, 8, 8, 8, 8, 8, 8, 8, 8, 8, 8, 8, 8, 8, 8, 8, 8, 8, 8, 8, 8, 8, 8, 8, 8, 8, 8, 8, 8, 8, 8, 8, 8, 8, 8, 8, 8, 8, 8, 8, 8, 8, 8, 8, 8, 8, 8, 8, 8, 8, 8, 8, 8, 8, 8, 8, 8, 8, 8, 8, 8, 8, 8, 8, 8, 8, 8, 8, 8, 8, 8, 8, 8, 8, 8, 8, 8, 8, 8, 8, 8, 8] := by kernel_rfl
theorem z_en104 : enters Tryd.prog 104 = true := by kernel_rfl
theorem z_en103 : enters Tryd.prog 103 = true := by kernel_rfl
theorem z_en95 : enters Tryd.prog 95 = true := by kernel_rfl
theorem z_zero159 : zeroT Tryd.prog 159 = some (cellsN (Value.int .u8) 0 65 (List.replicate 65 0)) := by kernel_rfl
theorem z_en106 : enters Tryd.prog 106 = true := by kernel_rfl
theorem z_en109 : enters Tryd.prog 109 = true := by kernel_rfl
theorem z_en107 : enters Tryd.prog 107 = true := by kernel_rfl
theorem z_arr159 : arrP Tryd.prog 159 = some (65, 5, 1) := by kernel_rfl
theorem z_size5 : sizeT Tryd.prog 5 = some 1 := by kernel_rfl
theorem z_en97 : enters Tryd.prog 97 = true := by kernel_rfl
theorem z_en93 : enters Tryd.prog 93 = true := by kernel_rfl
theorem z_en72 : enters Tryd.prog 72 = true := by kernel_rfl
theorem z_en43 : enters Tryd.prog 43 = true := by kernel_rfl
theorem z_str4 : (ByteArray.mk #[118, 32]) = bstr [118, 32] := by kernel_rfl
theorem z_str5 : (ByteArray.mk #[32, 107, 32]) = bstr [32, 107, 32] := by kernel_rfl
theorem z_str6 : (ByteArray.mk #[32]) = bstr [32] := by kernel_rfl
theorem z_en73 : enters Tryd.prog 73 = true := by kernel_rfl
theorem z_en44 : enters Tryd.prog 44 = true := by kernel_rfl
theorem z_str7 : (ByteArray.mk #[47]) = bstr [47] := by kernel_rfl
theorem z_en18 : enters Tryd.prog 18 = true := by kernel_rfl
theorem z_str8 : (ByteArray.mk #[118, 32, 50, 32, 107, 32, 52, 32, 55, 55, 32, 48, 47, 51]) = bstr [118, 32, 50, 32, 107, 32, 52, 32, 55, 55, 32, 48, 47, 51] := by kernel_rfl
theorem z_en8 : enters Tryd.prog 8 = true := by kernel_rfl
theorem z_struct111 : structT Tryd.prog 111 = some ([.slice none 0 0, .int .i64 0, .int .i64 0], [(0, 1), (1, 1), (2, 1)]) := by kernel_rfl
theorem z_en38 : enters Tryd.prog 38 = true := by kernel_rfl
theorem z_zero22 : zeroT Tryd.prog 22 = some [.int .u32 0] := by kernel_rfl
theorem z_field111_2 : fieldT Tryd.prog 111 2 = some 2 := by kernel_rfl
theorem z_field111_0 : fieldT Tryd.prog 111 0 = some 0 := by kernel_rfl
theorem z_sc31 : isScalar Tryd.prog 31 = true := by kernel_rfl
theorem z_field111_1 : fieldT Tryd.prog 111 1 = some 1 := by kernel_rfl
theorem z_en92 : enters Tryd.prog 92 = true := by kernel_rfl
theorem z_en102 : enters Tryd.prog 102 = true := by kernel_rfl
theorem z_en91 : enters Tryd.prog 91 = true := by kernel_rfl
theorem z_en90 : enters Tryd.prog 90 = true := by kernel_rfl
theorem z_en89 : enters Tryd.prog 89 = true := by kernel_rfl
theorem z_en68 : enters Tryd.prog 68 = true := by kernel_rfl
theorem z_en39 : enters Tryd.prog 39 = true := by kernel_rfl
theorem z_en40 : enters Tryd.prog 40 = true := by kernel_rfl
theorem z_en69 : enters Tryd.prog 69 = true := by kernel_rfl
theorem z_en70 : enters Tryd.prog 70 = true := by kernel_rfl
theorem z_en41 : enters Tryd.prog 41 = true := by kernel_rfl
theorem z_en12 : enters Tryd.prog 12 = true := by kernel_rfl
theorem z_zero35 : zeroT Tryd.prog 35 = some [.int .i64 0, .int .i64 0, .int .u32 0, .int .i64 0, .int .i64 0] := by kernel_rfl
theorem z_struct35 : structT Tryd.prog 35 = some ([.int .i64 0, .int .i64 0, .int .u32 0, .int .i64 0, .int .i64 0], [(0, 1), (1, 1), (2, 1), (3, 1), (4, 1)]) := by kernel_rfl
theorem z_size35 : sizeT Tryd.prog 35 = some 5 := by kernel_rfl
theorem z_agg35 : aggSize Tryd.prog 35 = some 5 := by kernel_rfl
theorem z_field35_0 : fieldT Tryd.prog 35 0 = some 0 := by kernel_rfl
theorem z_field35_1 : fieldT Tryd.prog 35 1 = some 1 := by kernel_rfl
theorem z_field35_4 : fieldT Tryd.prog 35 4 = some 4 := by kernel_rfl
theorem z_field35_3 : fieldT Tryd.prog 35 3 = some 3 := by kernel_rfl
theorem z_en16 : enters Tryd.prog 16 = true := by kernel_rfl
theorem z_en13 : enters Tryd.prog 13 = true := by kernel_rfl
theorem z_held35 : Program.stoodInHeld Tryd.prog 35 = false := by kernel_rfl
theorem z_eqg35 : Program.eqGuardType Tryd.prog (Program.depth Tryd.prog) 35 = false := by kernel_rfl
end Go.Rel
