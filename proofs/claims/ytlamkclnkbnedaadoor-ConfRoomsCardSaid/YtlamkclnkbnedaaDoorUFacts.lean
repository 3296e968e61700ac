import Derived.Test.YtlamkclnkbnedaaDoorProg
import Derived.Test.YtlamkclnkbnedaaDoorEngL
import Derived.KernelRfl
/-! Facts of the program's types and functions. -/
namespace Go.Rel
open Go Go.Eng Go.Proofs
theorem z_sc3 : isScalar Tryd.prog 3 = true := by kernel_rfl
theorem z_sc22 : isScalar Tryd.prog 22 = true := by kernel_rfl
theorem z_size3 : sizeT Tryd.prog 3 = some 1 := by kernel_rfl
theorem z_str0 : (ByteArray.mk #[]) = bstr [] := by kernel_rfl
theorem z_str1 : (ByteArray.mk #[48, 49, 50, 51, 52, 53, 54, 55, 56, 57, 97, 98, 99, 100, 101, 102, 103, 104, 105, 106, 107, 108, 109, 110, 111, 112, 113, 114, 115, 116, 117, 118, 119, 120, 121, 122]) = bstr [48, 49, 50, 51, 52, 53, 54, 55, 56, 57, 97, 98, 99, 100, 101, 102, 103, 104, 105, 106, 107, 108, 109, 110, 111, 112, 113, 114, 115, 116, 117, 118, 119, 120, 121, 122] := by kernel_rfl
theorem z_str2 : (ByteArray.mk #[48, 48, 48, 49, 48, 50, 48, 51, 48, 52, 48, 53, 48, 54, 48, 55, 48, 56, 48, 57, 49, 48, 49, 49, 49, 50, 49, 51, 49, 52, 49, 53, 49, 54, 49, 55, 49, 56, 49, 57, 50, 48, 50, 49, 50, 50, 50, 51, 50, 52, 50, 53, 50, 54, 50, 55, 50, 56, 50, 57, 51, 48, 51, 49, 51, 50, 51, 51, 51, 52, 51, 53, 51, 54, 51, 55, 51, 56, 51, 57, 52, 48, 52, 49, 52, 50, 52, 51, 52, 52, 52, 53, 52, 54, 52, 55, 52, 56, 52, 57, 53, 48, 53, 49, 53, 50, 53, 51, 53, 52, 53, 53, 53, 54, 53, 55, 53, 56, 53, 57, 54, 48, 54, 49, 54, 50, 54, 51, 54, 52, 54, 53, 54, 54, 54, 55, 54, 56, 54, 57, 55, 48, 55, 49, 55, 50, 55, 51, 55, 52, 55, 53, 55, 54, 55, 55, 55, 56, 55, 57, 56, 48, 56, 49, 56, 50, 56, 51, 56, 52, 56, 53, 56, 54, 56, 55, 56, 56, 56, 57, 57, 48, 57, 49, 57, 50, 57, 51, 57, 52, 57, 53, 57, 54, 57, 55, 57, 56, 57, 57]) = bstr [48, 48, 48, 49, 48, 50, 48, 51, 48, 52, 48, 53, 48, 54, 48, 55, 48, 56, 48, 57, 49, 48, 49, 49, 49, 50, 49, 51, 49, 52, 49, 53, 49, 54, 49, 55, 49, 56, 49, 57, 50, 48, 50, 49, 50, 50, 50, 51, 50, 52, 50, 53, 50, 54, 50, 55, 50, 56, 50, 57, 51, 48, 51, 49, 51, 50, 51, 51, 51, 52, 51, 53, 51, 54, 51, 55, 51, 56, 51, 57, 52, 48, 52, 49, 52, 50, 52, 51, 52, 52, 52, 53, 52, 54, 52, 55, 52, 56, 52, 57, 53, 48, 53, 49, 53, 50, 53, 51, 53, 52, 53, 53, 53, 54, 53, 55, 53, 56, 53, 57, 54, 48, 54, 49, 54, 50, 54, 51, 54, 52, 54, 53, 54, 54, 54, 55, 54, 56, 54, 57, 55, 48, 55, 49, 55, 50, 55, 51, 55, 52, 55, 53, 55, 54, 55, 55, 55, 56, 55, 57, 56, 48, 56, 49, 56, 50, 56, 51, 56, 52, 56, 53, 56, 54, 56, 55, 56, 56, 56, 57, 57, 48, 57, 49, 57, 50, 57, 51, 57, 52, 57, 53, 57, 54, 57, 55, 57, 56, 57, 57] := by kernel_rfl
theorem z_en94 : enters Tryd.prog 94 = true := by kernel_rfl
theorem z_zero147 : zeroT Tryd.prog 147 = some (cellsN (Value.int .u8) 0 24 (List.replicate 24 0)) := by kernel_rfl
theorem z_str3 : (ByteArray.mk #[0, 1, 2, 2, 3, 3, 3, 3, 4, 4, 4, 4, 4, 4, 4, 4, 5, 5, 5, 5, 5, 5, 5, 5, 5, 5, 5, 5, 5, 5, 5, 5, 6, 6, 6, 6, 6, 6, 6, 6, 6, 6, 6, 6, 6, 6, 6, 6, 6, 6, 6, 6, 6, 6, 6, 6, 6, 6, 6, 6, 6, 6, 6, 6, 7, 7, 7, 7, 7, 7, 7, 7, 7, 7, 7, 7, 7, 7, 7, 7, 7, 7, 7, 7, 7, 7, 7, 7, 7, 7, 7, 7, 7, 7, 7, 7, 7, 7, 7, 7, 7, 7, 7, 7, 7, 7, 7, 7, 7, 7, 7, 7, 7, 7, 7, 7, 7, 7, 7, 7, 7, 7, 7, 7, 7, 7, 7, 7, 8, 8, 8, 8, 8, 8, 8, 8, 8, 8, 8, 8, 8, 8, 8, 8, 8, 8, 8, 8, 8, 8, 8, 8, 8, 8, 8, 8, 8, 8, 8, 8, 8, 8, 8, 8, 8, 8, 8, 8, 8, 8, 8, 8, 8, 8, 8, 8, 8, 8, 8, 8, 8, 8, 8, 8, 8, 8, 8, 8, 8, 8, 8, 8, 8, 8, 8, 8, 8, 8, 8, 8, 8, 8, 8, 8, 8, 8, 8, 8, 8, 8, 8, 8, 8, 8, 8, 8, 8, 8, 8, 8, 8, 8, 8, 8, 8, 8, 8, 8, 8, 8, 8, 8, 8, 8, 8, 8, 8, 8, 8, 8, 8, 8, 8, 8, 8, 8, 8, 8, 8, 8, 8, 8, 8, 8, 8, 8]) = bstr [0, 1, 2, 2, 3, 3, 3, 3, 4, 4, 4, 4, 4, 4, 4, 4, 5, 5, 5, 5, 5, 5, 5, 5, 5, 5, 5, 5, 5, 5, 5, 5, 6, 6, 6, 6, 6, 6, 6, 6, 6, 6, 6, 6, 6, 6, 6, 6, 6, 6, 6, 6, 6, 6, 6, 6, 6, 6, 6, 6, 6, 6, 6, 6, 7, 7, 7, 7, 7, 7, 7, 7, 7, 7, 7, 7, 7, 7, 7, 7, 7, 7, 7, 7, 7, 7, 7, 7, 7, 7, 7, 7, 7, 7, 7, 7, 7, 7, 7, 7, 7, 7, 7, 7, 7, 7, 7, 7, 7, 7, 7, 7, 7, 7, 7, 7, 7, 7, 7, 7, 7, 7, 7, 7, 7, 7, 7, 7, 8, 8, 8, 8, 8, 8, 8, 8, 8, 8, 8, 8, 8, 8, 8, 8, 8, 8, 8, 8, 8, 8, 8, 8, 8, 8, 8, 8, 8, 8, 8, 8, 8, 8, 8, 8, 8, 8, 8, 8, 8, 8, 8, 8, 8, 8, 8, 8, 8, 8, 8, 8, 8, 8, 8, 8, 8, 8, 8, 8, 8, 8, 8, 8, 8, 8, 8, 8, 8, 8, 8, 8, 8, 8, 8, 8, 8, 8, 8, 8, 8, 8, 8, 8, 8, 8, 8, 8, 8, 8, 8, 8, 8, 8, 8, 8, 8, 8, 8, 8, 8, 8, 8, 8, 8, 8, 8, 8, 8, 8, 8, 8, 8, 8, 8, 8, 8, 8, 8, 8, 8, 8, 8, 8, 8, 8, 8, 8] := by kernel_rfl
theorem z_en104 : enters Tryd.prog 104 = true := by kernel_rfl
theorem z_en103 : enters Tryd.prog 103 = true := by kernel_rfl
theorem z_en95 : enters Tryd.prog 95 = true := by kernel_rfl
theorem z_zero159 : zeroT Tryd.prog 159 = some (cellsN (Value.int .u8) 0 65 (List.replicate 65 0)) := by kernel_rfl
theorem z_en106 : enters Tryd.prog 106 = true := by kernel_rfl
theorem z_en109 : enters Tryd.prog 109 = true := by kernel_rfl
theorem z_en107 : enters Tryd.prog 107 = true := by kernel_rfl
theorem z_arr159 : arrP Tryd.prog 159 = some (65, 5, 1) := by kernel_rfl
theorem z_size5 : sizeT Tryd.prog 5 = some 1 := by kernel_rfl
theorem z_en97 : enters Tryd.prog 97 = true := by kernel_rfl
theorem z_en93 : enters Tryd.prog 93 = true := by kernel_rfl
theorem z_en72 : enters Tryd.prog 72 = true := by kernel_rfl
theorem z_en43 : enters Tryd.prog 43 = true := by kernel_rfl
theorem z_str6 : (ByteArray.mk #[32]) = bstr [32] := by kernel_rfl
theorem z_zero4 : zeroT Tryd.prog 4 = some [.bool false] := by kernel_rfl
theorem z_zero3 : zeroT Tryd.prog 3 = some [.int .i64 0] := by kernel_rfl
theorem z_en88 : enters Tryd.prog 88 = true := by kernel_rfl
theorem z_en64 : enters Tryd.prog 64 = true := by kernel_rfl
theorem z_en34 : enters Tryd.prog 34 = true := by kernel_rfl
theorem z_en33 : enters Tryd.prog 33 = true := by kernel_rfl
theorem z_en10 : enters Tryd.prog 10 = true := by kernel_rfl
theorem z_size4 : sizeT Tryd.prog 4 = some 1 := by kernel_rfl
theorem z_struct66 : structT Tryd.prog 66 = some ([.int .i64 0, .int .i64 0, .int .u32 0], [(0, 1), (1, 1), (2, 1)]) := by kernel_rfl
theorem z_zero66 : zeroT Tryd.prog 66 = some [.int .i64 0, .int .i64 0, .int .u32 0] := by kernel_rfl
theorem z_size66 : sizeT Tryd.prog 66 = some 3 := by kernel_rfl
theorem z_agg66 : aggSize Tryd.prog 66 = some 3 := by kernel_rfl
theorem z_struct69 : structT Tryd.prog 69 = some ([.int .u32 0, .int .i64 0], [(0, 1), (1, 1)]) := by kernel_rfl
theorem z_field66_0 : fieldT Tryd.prog 66 0 = some 0 := by kernel_rfl
theorem z_field66_1 : fieldT Tryd.prog 66 1 = some 1 := by kernel_rfl
theorem z_en65 : enters Tryd.prog 65 = true := by kernel_rfl
theorem z_agg69 : aggSize Tryd.prog 69 = some 2 := by kernel_rfl
theorem z_field69_1 : fieldT Tryd.prog 69 1 = some 1 := by kernel_rfl
theorem z_en66 : enters Tryd.prog 66 = true := by kernel_rfl
theorem z_str9 : (ByteArray.mk #[108, 105, 110, 107]) = bstr [108, 105, 110, 107] := by kernel_rfl
theorem z_field66_2 : fieldT Tryd.prog 66 2 = some 2 := by kernel_rfl
theorem z_field69_0 : fieldT Tryd.prog 69 0 = some 0 := by kernel_rfl
theorem z_arrz108 : arrT Tryd.prog 108 = some ([.int .i64 0, .int .i64 0, .int .i64 0, .int .i64 0, .int .i64 0], 1) := by kernel_rfl
theorem z_arr108 : arrP Tryd.prog 108 = some (5, 3, 1) := by kernel_rfl
theorem z_en63 : enters Tryd.prog 63 = true := by kernel_rfl
theorem z_en35 : enters Tryd.prog 35 = true := by kernel_rfl
theorem z_str10 : (ByteArray.mk #[108, 105, 110, 107, 32, 50, 32, 54, 52, 32, 49, 48, 32, 49, 48, 32, 52]) = bstr [108, 105, 110, 107, 32, 50, 32, 54, 52, 32, 49, 48, 32, 49, 48, 32, 52] := by kernel_rfl
theorem z_en36 : enters Tryd.prog 36 = true := by kernel_rfl
theorem z_en67 : enters Tryd.prog 67 = true := by kernel_rfl
theorem z_en37 : enters Tryd.prog 37 = true := by kernel_rfl
theorem z_en11 : enters Tryd.prog 11 = true := by kernel_rfl
theorem z_sc4 : isScalar Tryd.prog 4 = true := by kernel_rfl
end Go.Rel
