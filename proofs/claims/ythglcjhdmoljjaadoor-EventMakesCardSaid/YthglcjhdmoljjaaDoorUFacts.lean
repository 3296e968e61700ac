import Derived.Test.YthglcjhdmoljjaaDoorProg
import Derived.Test.YthglcjhdmoljjaaDoorEngU
import Derived.KernelRfl
import Derived.Test.YthglcjhdmoljjaaDoorEngY
import Derived.Test.YthglcjhdmoljjaaDoorShelf
/-! Facts of the program's types and functions. -/
namespace Go.Rel
open Go Go.Eng Go.Proofs
theorem z_agg27 : aggSize Tryd.prog 27 = some 11 := by kernel_rfl
theorem z_zero27 : zeroT Tryd.prog 27 = some [.int .i64 0, .int .i64 0, .int .i64 0, .int .i64 0, .int .i64 0, .int .i64 0, .int .i64 0, .slice none 0 0, .slice none 0 0, .string (bstr []), .string (bstr [])] := by kernel_rfl
theorem z_field27_2 : fieldT Tryd.prog 27 2 = some 7 := by kernel_rfl
theorem z_sc24 : isScalar Tryd.prog 24 = true := by kernel_rfl
theorem z_slT24 : slT Tryd.prog 24 = some (42, 2, 16) := by kernel_rfl
theorem z_field27_3 : fieldT Tryd.prog 27 3 = some 8 := by kernel_rfl
theorem z_sc25 : isScalar Tryd.prog 25 = true := by kernel_rfl
theorem z_slT25 : slT Tryd.prog 25 = some (3, 1, 8) := by kernel_rfl
theorem z_size24 : sizeT Tryd.prog 24 = some 1 := by kernel_rfl
theorem z_mix : Tryd.prog.follows .mixedOrders = true := by kernel_rfl
theorem z_size25 : sizeT Tryd.prog 25 = some 1 := by kernel_rfl
theorem z_field27_4 : fieldT Tryd.prog 27 4 = some 9 := by kernel_rfl
theorem z_sc9 : isScalar Tryd.prog 9 = true := by kernel_rfl
theorem z_field27_5 : fieldT Tryd.prog 27 5 = some 10 := by kernel_rfl
theorem z_size9 : sizeT Tryd.prog 9 = some 1 := by kernel_rfl
theorem z_size27 : sizeT Tryd.prog 27 = some 11 := by kernel_rfl
theorem z_en7 : enters Tryd.prog 7 = true := by kernel_rfl
theorem z_zero31 : zeroT Tryd.prog 31 = some [.int .i64 0, .int .u32 0, .int .i64 0, .int .i64 0, .int .i64 0, .int .i64 0, .int .i64 0, .int .i64 0, .int .i64 0, .int .i64 0, .int .i64 0, .slice none 0 0, .slice none 0 0, .string (bstr []), .string (bstr [])] := by kernel_rfl
theorem z_zero42 : zeroT Tryd.prog 42 = some [.int .i64 0, .int .i64 0] := by kernel_rfl
theorem z_en36 : enters Tryd.prog 36 = true := by kernel_rfl
theorem z_zero3 : zeroT Tryd.prog 3 = some [.int .i64 0] := by kernel_rfl
theorem z_en37 : enters Tryd.prog 37 = true := by kernel_rfl
theorem z_en10 : enters Tryd.prog 10 = true := by kernel_rfl
theorem z_struct31 : structT Tryd.prog 31 = some ([.int .i64 0, .int .u32 0, .int .i64 0, .int .i64 0, .int .i64 0, .int .i64 0, .int .i64 0, .int .i64 0, .int .i64 0, .int .i64 0, .int .i64 0, .slice none 0 0, .slice none 0 0, .string (bstr []), .string (bstr [])], [(0, 1), (1, 1), (2, 1), (3, 1), (4, 11)]) := by kernel_rfl
theorem z_size31 : sizeT Tryd.prog 31 = some 15 := by kernel_rfl
theorem z_agg31 : aggSize Tryd.prog 31 = some 15 := by kernel_rfl
theorem z_en8 : enters Tryd.prog 8 = true := by kernel_rfl
theorem z_zero35 : zeroT Tryd.prog 35 = some [.int .i64 0, .int .i64 0, .int .i64 0, .int .i64 0, .int .i64 0, .int .i64 0, .int .i64 0, .slice none 0 0, .slice none 0 0, .string (bstr []), .string (bstr [])] := by kernel_rfl
theorem z_field27_0 : fieldT Tryd.prog 27 0 = some 0 := by kernel_rfl
theorem z_sc3 : isScalar Tryd.prog 3 = true := by kernel_rfl
theorem z_field27_1 : fieldT Tryd.prog 27 1 = some 1 := by kernel_rfl
theorem z_agg23 : aggSize Tryd.prog 23 = some 6 := by kernel_rfl
theorem z_struct35 : structT Tryd.prog 35 = some ([.int .i64 0, .int .i64 0, .int .i64 0, .int .i64 0, .int .i64 0, .int .i64 0, .int .i64 0, .slice none 0 0, .slice none 0 0, .string (bstr []), .string (bstr [])], [(0, 1), (1, 6), (7, 1), (8, 1), (9, 1), (10, 1)]) := by kernel_rfl
theorem z_size35 : sizeT Tryd.prog 35 = some 11 := by kernel_rfl
theorem z_field35_2 : fieldT Tryd.prog 35 2 = some 7 := by kernel_rfl
theorem z_sc33 : isScalar Tryd.prog 33 = true := by kernel_rfl
theorem z_field42_0 : fieldT Tryd.prog 42 0 = some 0 := by kernel_rfl
theorem z_field42_1 : fieldT Tryd.prog 42 1 = some 1 := by kernel_rfl
theorem z_arrz71 : arrT Tryd.prog 71 = some ([.int .i64 0, .int .i64 0], 1) := by kernel_rfl
theorem z_slT33 : slT Tryd.prog 33 = some (71, 2, 16) := by kernel_rfl
theorem z_zero71 : zeroT Tryd.prog 71 = some [.int .i64 0, .int .i64 0] := by kernel_rfl
theorem z_size33 : sizeT Tryd.prog 33 = some 1 := by kernel_rfl
theorem z_agg35 : aggSize Tryd.prog 35 = some 11 := by kernel_rfl
theorem z_en9 : enters Tryd.prog 9 = true := by kernel_rfl
theorem z_struct38 : structT Tryd.prog 38 = some ([.int .i64 0, .int .u32 0, .int .i64 0, .int .i64 0, .int .i64 0, .int .i64 0, .int .i64 0, .int .i64 0, .int .i64 0, .int .i64 0, .int .i64 0, .slice none 0 0, .slice none 0 0, .string (bstr []), .string (bstr [])], [(0, 1), (1, 1), (2, 1), (3, 1), (4, 11)]) := by kernel_rfl
theorem z_zero38 : zeroT Tryd.prog 38 = some [.int .i64 0, .int .u32 0, .int .i64 0, .int .i64 0, .int .i64 0, .int .i64 0, .int .i64 0, .int .i64 0, .int .i64 0, .int .i64 0, .int .i64 0, .slice none 0 0, .slice none 0 0, .string (bstr []), .string (bstr [])] := by kernel_rfl
theorem z_size38 : sizeT Tryd.prog 38 = some 15 := by kernel_rfl
theorem z_field31_0 : fieldT Tryd.prog 31 0 = some 0 := by kernel_rfl
theorem z_field31_1 : fieldT Tryd.prog 31 1 = some 1 := by kernel_rfl
theorem z_sc22 : isScalar Tryd.prog 22 = true := by kernel_rfl
theorem z_field31_2 : fieldT Tryd.prog 31 2 = some 2 := by kernel_rfl
theorem z_field31_3 : fieldT Tryd.prog 31 3 = some 3 := by kernel_rfl
theorem z_sc28 : isScalar Tryd.prog 28 = true := by kernel_rfl
theorem z_field31_4 : fieldT Tryd.prog 31 4 = some 4 := by kernel_rfl
theorem z_agg38 : aggSize Tryd.prog 38 = some 15 := by kernel_rfl
theorem z_en12 : enters Tryd.prog 12 = true := by kernel_rfl
theorem z_field38_0 : fieldT Tryd.prog 38 0 = some 0 := by kernel_rfl
theorem z_field38_1 : fieldT Tryd.prog 38 1 = some 1 := by kernel_rfl
theorem z_field38_2 : fieldT Tryd.prog 38 2 = some 2 := by kernel_rfl
theorem z_field38_3 : fieldT Tryd.prog 38 3 = some 3 := by kernel_rfl
theorem z_field38_4 : fieldT Tryd.prog 38 4 = some 4 := by kernel_rfl
theorem z_field35_0 : fieldT Tryd.prog 35 0 = some 0 := by kernel_rfl
theorem z_field35_1 : fieldT Tryd.prog 35 1 = some 1 := by kernel_rfl
theorem z_info3 : (Tryd.prog.info? 3).isSome = true := by kernel_rfl
theorem z_cell3 : Program.cellsOf Tryd.prog 3 = 1 := by kernel_rfl
theorem z_eqg23 : Program.eqGuardType Tryd.prog (Program.depth Tryd.prog) 23 = false := by kernel_rfl
theorem z_field35_3 : fieldT Tryd.prog 35 3 = some 8 := by kernel_rfl
theorem z_en61 : enters Tryd.prog 61 = true := by kernel_rfl
theorem z_field35_4 : fieldT Tryd.prog 35 4 = some 9 := by kernel_rfl
theorem z_field35_5 : fieldT Tryd.prog 35 5 = some 10 := by kernel_rfl
theorem z_agg71 : aggSize Tryd.prog 71 = some 2 := by kernel_rfl
theorem z_eqg71 : Program.eqGuardType Tryd.prog (Program.depth Tryd.prog) 71 = false := by kernel_rfl
theorem z_en38 : enters Tryd.prog 38 = true := by kernel_rfl
theorem z_en11 : enters Tryd.prog 11 = true := by kernel_rfl
theorem z_size3 : sizeT Tryd.prog 3 = some 1 := by kernel_rfl
theorem z_arrz23 : arrT Tryd.prog 23 = some ([.int .i64 0, .int .i64 0, .int .i64 0, .int .i64 0, .int .i64 0, .int .i64 0], 1) := by kernel_rfl
theorem z_struct27 : structT Tryd.prog 27 = some ([.int .i64 0, .int .i64 0, .int .i64 0, .int .i64 0, .int .i64 0, .int .i64 0, .int .i64 0, .slice none 0 0, .slice none 0 0, .string (bstr []), .string (bstr [])], [(0, 1), (1, 6), (7, 1), (8, 1), (9, 1), (10, 1)]) := by kernel_rfl
theorem z_str0 : (ByteArray.mk #[]) = bstr [] := by kernel_rfl
theorem z_en66 : enters Tryd.prog 66 = true := by kernel_rfl
theorem z_en45 : enters Tryd.prog 45 = true := by kernel_rfl
theorem z_str1 : (ByteArray.mk #[100, 101, 108, 105, 118, 101, 114, 32]) = bstr [100, 101, 108, 105, 118, 101, 114, 32] := by kernel_rfl
theorem z_str2 : (ByteArray.mk #[32, 118, 32]) = bstr [32, 118, 32] := by kernel_rfl
theorem z_str3 : (ByteArray.mk #[32]) = bstr [32] := by kernel_rfl
theorem z_zero126 : zeroT Tryd.prog 126 = some [.string (bstr []), .int .i64 0, .int .i64 0, .int .i64 0, .int .i64 0, .int .i64 0, .int .i64 0] := by kernel_rfl
theorem z_str4 : (ByteArray.mk #[114, 111, 98, 111, 116]) = bstr [114, 111, 98, 111, 116] := by kernel_rfl
theorem z_struct126 : structT Tryd.prog 126 = some ([.string (bstr []), .int .i64 0, .int .i64 0, .int .i64 0, .int .i64 0, .int .i64 0, .int .i64 0], [(0, 1), (1, 1), (2, 1), (3, 1), (4, 1), (5, 1), (6, 1)]) := by kernel_rfl
theorem z_size126 : sizeT Tryd.prog 126 = some 7 := by kernel_rfl
theorem z_agg126 : aggSize Tryd.prog 126 = some 7 := by kernel_rfl
theorem z_en87 : enters Tryd.prog 87 = true := by kernel_rfl
theorem z_str5 : (ByteArray.mk #[115, 112, 101, 101, 100]) = bstr [115, 112, 101, 101, 100] := by kernel_rfl
theorem z_str6 : (ByteArray.mk #[97, 99, 99, 101, 108]) = bstr [97, 99, 99, 101, 108] := by kernel_rfl
theorem z_str7 : (ByteArray.mk #[112, 97, 116, 104]) = bstr [112, 97, 116, 104] := by kernel_rfl
theorem z_str8 : (ByteArray.mk #[116, 97, 103]) = bstr [116, 97, 103] := by kernel_rfl
theorem z_slT123 : slT Tryd.prog 123 = some (126, 7, 64) := by kernel_rfl
theorem z_str9 : (ByteArray.mk #[114, 101, 97, 115, 111, 110]) = bstr [114, 101, 97, 115, 111, 110] := by kernel_rfl
theorem z_str10 : (ByteArray.mk #[122, 111, 110, 101]) = bstr [122, 111, 110, 101] := by kernel_rfl
theorem z_str11 : (ByteArray.mk #[108, 101, 97, 115, 101]) = bstr [108, 101, 97, 115, 101] := by kernel_rfl
theorem z_str12 : (ByteArray.mk #[99, 101, 108, 108, 115]) = bstr [99, 101, 108, 108, 115] := by kernel_rfl
theorem z_str13 : (ByteArray.mk #[120]) = bstr [120] := by kernel_rfl
theorem z_str14 : (ByteArray.mk #[121]) = bstr [121] := by kernel_rfl
theorem z_str15 : (ByteArray.mk #[104, 101, 97, 100, 105, 110, 103]) = bstr [104, 101, 97, 100, 105, 110, 103] := by kernel_rfl
theorem z_str16 : (ByteArray.mk #[98, 97, 116, 116, 101, 114, 121]) = bstr [98, 97, 116, 116, 101, 114, 121] := by kernel_rfl
theorem z_str17 : (ByteArray.mk #[115, 117, 114, 101]) = bstr [115, 117, 114, 101] := by kernel_rfl
theorem z_str18 : (ByteArray.mk #[99, 111, 100, 101]) = bstr [99, 111, 100, 101] := by kernel_rfl
theorem z_str19 : (ByteArray.mk #[115, 101, 118, 101, 114, 105, 116, 121]) = bstr [115, 101, 118, 101, 114, 105, 116, 121] := by kernel_rfl
theorem z_str20 : (ByteArray.mk #[112, 97, 114, 116]) = bstr [112, 97, 114, 116] := by kernel_rfl
theorem z_str21 : (ByteArray.mk #[116, 105, 109, 101, 115]) = bstr [116, 105, 109, 101, 115] := by kernel_rfl
theorem z_str22 : (ByteArray.mk #[116, 101, 120, 116]) = bstr [116, 101, 120, 116] := by kernel_rfl
theorem z_en69 : enters Tryd.prog 69 = true := by kernel_rfl
theorem z_field126_1 : fieldT Tryd.prog 126 1 = some 1 := by kernel_rfl
theorem z_field126_3 : fieldT Tryd.prog 126 3 = some 3 := by kernel_rfl
theorem z_field126_4 : fieldT Tryd.prog 126 4 = some 4 := by kernel_rfl
theorem z_en113 : enters Tryd.prog 113 = true := by kernel_rfl
theorem z_agg42 : aggSize Tryd.prog 42 = some 2 := by kernel_rfl
theorem z_size42 : sizeT Tryd.prog 42 = some 2 := by kernel_rfl
theorem z_en88 : enters Tryd.prog 88 = true := by kernel_rfl
theorem z_en89 : enters Tryd.prog 89 = true := by kernel_rfl
theorem z_slT174 : slT Tryd.prog 174 = some (5, 1, 1) := by kernel_rfl
theorem z_sc5 : isScalar Tryd.prog 5 = true := by kernel_rfl
theorem z_en90 : enters Tryd.prog 90 = true := by kernel_rfl
theorem z_field126_2 : fieldT Tryd.prog 126 2 = some 2 := by kernel_rfl
theorem z_arr23 : arrP Tryd.prog 23 = some (6, 3, 1) := by kernel_rfl
theorem z_en70 : enters Tryd.prog 70 = true := by kernel_rfl
theorem z_en71 : enters Tryd.prog 71 = true := by kernel_rfl
theorem z_held42 : Program.stoodInHeld Tryd.prog 42 = false := by kernel_rfl
theorem z_eqg42 : Program.eqGuardType Tryd.prog (Program.depth Tryd.prog) 42 = false := by kernel_rfl
theorem z_en76 : enters Tryd.prog 76 = true := by kernel_rfl
theorem z_en56 : enters Tryd.prog 56 = true := by kernel_rfl
theorem z_en72 : enters Tryd.prog 72 = true := by kernel_rfl
theorem z_en50 : enters Tryd.prog 50 = true := by kernel_rfl
theorem z_str23 : (ByteArray.mk #[109, 111, 118, 101]) = bstr [109, 111, 118, 101] := by kernel_rfl
theorem z_str24 : (ByteArray.mk #[104, 111, 108, 100]) = bstr [104, 111, 108, 100] := by kernel_rfl
theorem z_str25 : (ByteArray.mk #[103, 114, 97, 110, 116]) = bstr [103, 114, 97, 110, 116] := by kernel_rfl
theorem z_str26 : (ByteArray.mk #[112, 111, 115, 101]) = bstr [112, 111, 115, 101] := by kernel_rfl
theorem z_str27 : (ByteArray.mk #[102, 97, 117, 108, 116]) = bstr [102, 97, 117, 108, 116] := by kernel_rfl
theorem z_en40 : enters Tryd.prog 40 = true := by kernel_rfl
theorem z_zero9 : zeroT Tryd.prog 9 = some [.string (bstr [])] := by kernel_rfl
theorem z_field126_5 : fieldT Tryd.prog 126 5 = some 5 := by kernel_rfl
theorem z_en98 : enters Tryd.prog 98 = true := by kernel_rfl
theorem z_en81 : enters Tryd.prog 81 = true := by kernel_rfl
theorem z_field126_0 : fieldT Tryd.prog 126 0 = some 0 := by kernel_rfl
theorem z_str28 : (ByteArray.mk #[44]) = bstr [44] := by kernel_rfl
theorem z_slT59 : slT Tryd.prog 59 = some (9, 1, 16) := by kernel_rfl
theorem z_str29 : (ByteArray.mk #[59]) = bstr [59] := by kernel_rfl
theorem z_en99 : enters Tryd.prog 99 = true := by kernel_rfl
theorem z_str30 : (ByteArray.mk #[45]) = bstr [45] := by kernel_rfl
theorem z_str31 : (ByteArray.mk #[48, 49, 50, 51, 52, 53, 54, 55, 56, 57, 97, 98, 99, 100, 101, 102]) = bstr [48, 49, 50, 51, 52, 53, 54, 55, 56, 57, 97, 98, 99, 100, 101, 102] := by kernel_rfl
theorem z_zero5 : zeroT Tryd.prog 5 = some [.int .u8 0] := by kernel_rfl
theorem z_en100 : enters Tryd.prog 100 = true := by kernel_rfl
theorem z_en82 : enters Tryd.prog 82 = true := by kernel_rfl
theorem z_en62 : enters Tryd.prog 62 = true := by kernel_rfl
theorem z_str32 : (ByteArray.mk #[114, 101, 106, 101, 99, 116, 32]) = bstr [114, 101, 106, 101, 99, 116, 32] := by kernel_rfl
theorem z_str33 : (ByteArray.mk #[108, 111, 110, 103]) = bstr [108, 111, 110, 103] := by kernel_rfl
theorem z_str34 : (ByteArray.mk #[102, 111, 114, 109]) = bstr [102, 111, 114, 109] := by kernel_rfl
theorem z_str35 : (ByteArray.mk #[101, 110, 100]) = bstr [101, 110, 100] := by kernel_rfl
theorem z_str36 : (ByteArray.mk #[114, 97, 110, 103, 101]) = bstr [114, 97, 110, 103, 101] := by kernel_rfl
theorem z_str37 : (ByteArray.mk #[109, 97, 110, 121]) = bstr [109, 97, 110, 121] := by kernel_rfl
theorem z_str38 : (ByteArray.mk #[107, 105, 110, 100]) = bstr [107, 105, 110, 100] := by kernel_rfl
theorem z_str39 : (ByteArray.mk #[118, 101, 114, 115, 105, 111, 110]) = bstr [118, 101, 114, 115, 105, 111, 110] := by kernel_rfl
theorem z_str40 : (ByteArray.mk #[115, 117, 109]) = bstr [115, 117, 109] := by kernel_rfl
theorem z_str41 : (ByteArray.mk #[115, 116, 117, 102, 102]) = bstr [115, 116, 117, 102, 102] := by kernel_rfl
theorem z_str42 : (ByteArray.mk #[115, 104, 111, 114, 116]) = bstr [115, 104, 111, 114, 116] := by kernel_rfl
theorem z_str43 : (ByteArray.mk #[115, 101, 101, 110]) = bstr [115, 101, 101, 110] := by kernel_rfl
theorem z_str44 : (ByteArray.mk #[111, 108, 100]) = bstr [111, 108, 100] := by kernel_rfl
theorem z_str45 : (ByteArray.mk #[116, 119, 105, 99, 101]) = bstr [116, 119, 105, 99, 101] := by kernel_rfl
theorem z_str46 : (ByteArray.mk #[109, 101, 101, 116]) = bstr [109, 101, 101, 116] := by kernel_rfl
theorem z_str47 : (ByteArray.mk #[108, 97, 116, 101]) = bstr [108, 97, 116, 101] := by kernel_rfl
theorem z_en47 : enters Tryd.prog 47 = true := by kernel_rfl
theorem z_str48 : (ByteArray.mk #[101, 118, 105, 99, 116, 32]) = bstr [101, 118, 105, 99, 116, 32] := by kernel_rfl
theorem z_en39 : enters Tryd.prog 39 = true := by kernel_rfl
theorem z_str49 : (ByteArray.mk #[100, 101, 108, 105, 118, 101, 114, 32, 55, 32, 118, 32, 49, 32, 104, 111, 108, 100, 32, 114, 111, 98, 111, 116, 32, 49, 32, 114, 101, 97, 115, 111, 110, 32, 50, 32, 122, 111, 110, 101, 32, 48]) = bstr [100, 101, 108, 105, 118, 101, 114, 32, 55, 32, 118, 32, 49, 32, 104, 111, 108, 100, 32, 114, 111, 98, 111, 116, 32, 49, 32, 114, 101, 97, 115, 111, 110, 32, 50, 32, 122, 111, 110, 101, 32, 48] := by kernel_rfl
theorem z_en14 : enters Tryd.prog 14 = true := by kernel_rfl
theorem z_str50 : (ByteArray.mk #[114, 101, 106, 101, 99, 116, 32, 48, 32, 115, 117, 109]) = bstr [114, 101, 106, 101, 99, 116, 32, 48, 32, 115, 117, 109] := by kernel_rfl
theorem z_en15 : enters Tryd.prog 15 = true := by kernel_rfl
theorem z_str51 : (ByteArray.mk #[101, 118, 105, 99, 116, 32, 53]) = bstr [101, 118, 105, 99, 116, 32, 53] := by kernel_rfl
theorem z_en13 : enters Tryd.prog 13 = true := by kernel_rfl
theorem z_size23 : sizeT Tryd.prog 23 = some 6 := by kernel_rfl
theorem z_size28 : sizeT Tryd.prog 28 = some 1 := by kernel_rfl
theorem z_size22 : sizeT Tryd.prog 22 = some 1 := by kernel_rfl
def z_tyf : TyF := ⟨[(22, .u32), (3, .i64)], [(126, 0, 0), (126, 1, 1), (126, 2, 2), (126, 3, 3), (126, 4, 4), (126, 5, 5), (27, 0, 0), (27, 1, 1), (27, 2, 7), (27, 3, 8), (27, 4, 9), (27, 5, 10), (31, 0, 0), (31, 1, 1), (31, 2, 2), (31, 3, 3), (31, 4, 4), (35, 0, 0), (35, 1, 1), (35, 2, 7), (35, 3, 8), (35, 4, 9), (35, 5, 10), (38, 0, 0), (38, 1, 1), (38, 2, 2), (38, 3, 3), (38, 4, 4), (42, 0, 0), (42, 1, 1)], [9], [], [], []⟩
theorem z_T : TyOk Tryd.prog z_tyf := ⟨(fa_cons Tryd.underlying22 (fa_cons Tryd.underlying3 fa_nil)), (fa_cons z_field126_0 (fa_cons z_field126_1 (fa_cons z_field126_2 (fa_cons z_field126_3 (fa_cons z_field126_4 (fa_cons z_field126_5 (fa_cons z_field27_0 (fa_cons z_field27_1 (fa_cons z_field27_2 (fa_cons z_field27_3 (fa_cons z_field27_4 (fa_cons z_field27_5 (fa_cons z_field31_0 (fa_cons z_field31_1 (fa_cons z_field31_2 (fa_cons z_field31_3 (fa_cons z_field31_4 (fa_cons z_field35_0 (fa_cons z_field35_1 (fa_cons z_field35_2 (fa_cons z_field35_3 (fa_cons z_field35_4 (fa_cons z_field35_5 (fa_cons z_field38_0 (fa_cons z_field38_1 (fa_cons z_field38_2 (fa_cons z_field38_3 (fa_cons z_field38_4 (fa_cons z_field42_0 (fa_cons z_field42_1 fa_nil)))))))))))))))))))))))))))))), (fa_cons Tryd.underlying9 fa_nil), fa_nil, fa_nil, fa_nil⟩
def z_tym : TyM := ⟨[22, 24, 25, 28, 3, 33, 9], [(126, 7), (23, 6), (27, 11), (31, 15), (35, 11), (42, 2)], [(27, [.int .i64 0, .int .i64 0, .int .i64 0, .int .i64 0, .int .i64 0, .int .i64 0, .int .i64 0, .slice none 0 0, .slice none 0 0, .string (bstr []), .string (bstr [])], [(0, 1), (1, 6), (7, 1), (8, 1), (9, 1), (10, 1)]), (31, [.int .i64 0, .int .u32 0, .int .i64 0, .int .i64 0, .int .i64 0, .int .i64 0, .int .i64 0, .int .i64 0, .int .i64 0, .int .i64 0, .int .i64 0, .slice none 0 0, .slice none 0 0, .string (bstr []), .string (bstr [])], [(0, 1), (1, 1), (2, 1), (3, 1), (4, 11)]), (38, [.int .i64 0, .int .u32 0, .int .i64 0, .int .i64 0, .int .i64 0, .int .i64 0, .int .i64 0, .int .i64 0, .int .i64 0, .int .i64 0, .int .i64 0, .slice none 0 0, .slice none 0 0, .string (bstr []), .string (bstr [])], [(0, 1), (1, 1), (2, 1), (3, 1), (4, 11)])], []⟩
theorem z_M : TyMOk Tryd.prog z_tym := ⟨(fa_cons z_sc22 (fa_cons z_sc24 (fa_cons z_sc25 (fa_cons z_sc28 (fa_cons z_sc3 (fa_cons z_sc33 (fa_cons z_sc9 fa_nil))))))), (fa_cons z_size22 (fa_cons z_size24 (fa_cons z_size25 (fa_cons z_size28 (fa_cons z_size3 (fa_cons z_size33 (fa_cons z_size9 fa_nil))))))), (fa_cons z_agg126 (fa_cons z_agg23 (fa_cons z_agg27 (fa_cons z_agg31 (fa_cons z_agg35 (fa_cons z_agg42 fa_nil)))))), (fa_cons z_size126 (fa_cons z_size23 (fa_cons z_size27 (fa_cons z_size31 (fa_cons z_size35 (fa_cons z_size42 fa_nil)))))), (fa_cons z_struct27 (fa_cons z_struct31 (fa_cons z_struct38 fa_nil))), fa_nil⟩
theorem Z {n : Nat} {c : Ctx Tryd.prog n} {σ : Sto} {gs : List Grp} (f : Nat) {ρ ρ' : Env} {k k' : List Item} (h : go z_tyf n f ρ k = some (ρ', k')) (hk : St c ρ' σ gs k') : St c ρ σ gs k := st_go z_T f h hk
theorem dA {n : Nat} {c : Ctx Tryd.prog n} {k : List Item} {ops : Array Oper} {dsts : List Nat} {L : List DT} {ρ : Env} {i : Nat} (h : dpv z_tyf n ops dsts L ρ i = dvl L i := by exact rfl) (hs : (dvl L i).isSome = true := by exact rfl) : Core c k ops dsts L ρ i := core_A z_T h hs
theorem dG {n : Nat} {c : Ctx Tryd.prog n} {k : List Item} {ops : Array Oper} {dsts : List Nat} {L : List DT} {ρ : Env} {i : Nat} (ks : List Nat) (h : DGok z_tyf n ops dsts L ρ ks i := by exact ⟨rfl, rfl, rfl⟩) : Core c k ops dsts L ρ i := core_G z_T h
theorem ZZ {n : Nat} {c : Ctx Tryd.prog n} {σ : Sto} (f : Nat) (js : List Nat) {gs gs' : List Grp} {ρ ρ' : Env} {k k' : List Item} {e : List (Nat × Nat)} (h : go2 z_tyf z_tym n f js ρ gs k = some (ρ', gs', k', e)) (he : e.map (·.1) = e.map (·.2)) (hk : St c ρ' σ gs' k') : St c ρ σ gs k := st_go2 z_T z_M f h he hk
end Go.Rel
