import Derived.Test.YtonmgcebhhdplaaGreatProg
import Derived.Test.YtonmgcebhhdplaaGreatEngU
import Derived.KernelRfl
/-! Facts of the program's types and functions. -/
namespace Go.Rel
open Go Go.Eng Go.Proofs
theorem z_slT22 : slT Tryz.prog 22 = some (32, 15, 168) := by kernel_rfl
theorem z_agg32 : aggSize Tryz.prog 32 = some 15 := by kernel_rfl
theorem z_zero32 : zeroT Tryz.prog 32 = some [.int .i64 0, .int .u32 0, .int .i64 0, .int .i64 0, .int .i64 0, .int .i64 0, .int .i64 0, .int .i64 0, .int .i64 0, .int .i64 0, .int .i64 0, .slice none 0 0, .slice none 0 0, .string (bstr []), .string (bstr [])] := by kernel_rfl
theorem z_field32_4 : fieldT Tryz.prog 32 4 = some 4 := by kernel_rfl
theorem z_agg30 : aggSize Tryz.prog 30 = some 11 := by kernel_rfl
theorem z_zero30 : zeroT Tryz.prog 30 = some [.int .i64 0, .int .i64 0, .int .i64 0, .int .i64 0, .int .i64 0, .int .i64 0, .int .i64 0, .slice none 0 0, .slice none 0 0, .string (bstr []), .string (bstr [])] := by kernel_rfl
theorem z_field30_2 : fieldT Tryz.prog 30 2 = some 7 := by kernel_rfl
theorem z_sc27 : isScalar Tryz.prog 27 = true := by kernel_rfl
theorem z_slT27 : slT Tryz.prog 27 = some (84, 2, 16) := by kernel_rfl
theorem z_field30_3 : fieldT Tryz.prog 30 3 = some 8 := by kernel_rfl
theorem z_sc28 : isScalar Tryz.prog 28 = true := by kernel_rfl
theorem z_slT28 : slT Tryz.prog 28 = some (3, 1, 8) := by kernel_rfl
theorem z_size27 : sizeT Tryz.prog 27 = some 1 := by kernel_rfl
theorem z_mix : Tryz.prog.follows .mixedOrders = true := by kernel_rfl
theorem z_size28 : sizeT Tryz.prog 28 = some 1 := by kernel_rfl
theorem z_field30_4 : fieldT Tryz.prog 30 4 = some 9 := by kernel_rfl
theorem z_sc9 : isScalar Tryz.prog 9 = true := by kernel_rfl
theorem z_field30_5 : fieldT Tryz.prog 30 5 = some 10 := by kernel_rfl
theorem z_size9 : sizeT Tryz.prog 9 = some 1 := by kernel_rfl
theorem z_size30 : sizeT Tryz.prog 30 = some 11 := by kernel_rfl
theorem z_size32 : sizeT Tryz.prog 32 = some 15 := by kernel_rfl
theorem z_zero38 : zeroT Tryz.prog 38 = some [.int .i64 0, .int .u32 0, .int .i64 0, .int .i64 0, .int .i64 0, .int .i64 0, .int .i64 0, .int .i64 0, .int .i64 0, .int .i64 0, .int .i64 0, .slice none 0 0, .slice none 0 0, .string (bstr []), .string (bstr [])] := by kernel_rfl
theorem z_field32_0 : fieldT Tryz.prog 32 0 = some 0 := by kernel_rfl
theorem z_sc3 : isScalar Tryz.prog 3 = true := by kernel_rfl
theorem z_field32_1 : fieldT Tryz.prog 32 1 = some 1 := by kernel_rfl
theorem z_sc24 : isScalar Tryz.prog 24 = true := by kernel_rfl
theorem z_field32_2 : fieldT Tryz.prog 32 2 = some 2 := by kernel_rfl
theorem z_field32_3 : fieldT Tryz.prog 32 3 = some 3 := by kernel_rfl
theorem z_sc25 : isScalar Tryz.prog 25 = true := by kernel_rfl
theorem z_zero36 : zeroT Tryz.prog 36 = some [.int .i64 0, .int .i64 0, .int .i64 0, .int .i64 0, .int .i64 0, .int .i64 0, .int .i64 0, .slice none 0 0, .slice none 0 0, .string (bstr []), .string (bstr [])] := by kernel_rfl
theorem z_field30_0 : fieldT Tryz.prog 30 0 = some 0 := by kernel_rfl
theorem z_field30_1 : fieldT Tryz.prog 30 1 = some 1 := by kernel_rfl
theorem z_agg26 : aggSize Tryz.prog 26 = some 6 := by kernel_rfl
theorem z_struct36 : structT Tryz.prog 36 = some ([.int .i64 0, .int .i64 0, .int .i64 0, .int .i64 0, .int .i64 0, .int .i64 0, .int .i64 0, .slice none 0 0, .slice none 0 0, .string (bstr []), .string (bstr [])], [(0, 1), (1, 6), (7, 1), (8, 1), (9, 1), (10, 1)]) := by kernel_rfl
theorem z_size36 : sizeT Tryz.prog 36 = some 11 := by kernel_rfl
theorem z_field36_2 : fieldT Tryz.prog 36 2 = some 7 := by kernel_rfl
theorem z_sc34 : isScalar Tryz.prog 34 = true := by kernel_rfl
theorem z_field84_0 : fieldT Tryz.prog 84 0 = some 0 := by kernel_rfl
theorem z_field84_1 : fieldT Tryz.prog 84 1 = some 1 := by kernel_rfl
theorem z_arrz85 : arrT Tryz.prog 85 = some ([.int .i64 0, .int .i64 0], 1) := by kernel_rfl
theorem z_slT34 : slT Tryz.prog 34 = some (85, 2, 16) := by kernel_rfl
theorem z_zero85 : zeroT Tryz.prog 85 = some [.int .i64 0, .int .i64 0] := by kernel_rfl
theorem z_size34 : sizeT Tryz.prog 34 = some 1 := by kernel_rfl
theorem z_agg36 : aggSize Tryz.prog 36 = some 11 := by kernel_rfl
theorem z_en20 : enters Tryz.prog 20 = true := by kernel_rfl
theorem z_struct38 : structT Tryz.prog 38 = some ([.int .i64 0, .int .u32 0, .int .i64 0, .int .i64 0, .int .i64 0, .int .i64 0, .int .i64 0, .int .i64 0, .int .i64 0, .int .i64 0, .int .i64 0, .slice none 0 0, .slice none 0 0, .string (bstr []), .string (bstr [])], [(0, 1), (1, 1), (2, 1), (3, 1), (4, 11)]) := by kernel_rfl
theorem z_size38 : sizeT Tryz.prog 38 = some 15 := by kernel_rfl
theorem z_agg38 : aggSize Tryz.prog 38 = some 15 := by kernel_rfl
theorem z_en6 : enters Tryz.prog 6 = true := by kernel_rfl
theorem z_slT23 : slT Tryz.prog 23 = some (38, 15, 168) := by kernel_rfl
theorem z_zero89 : zeroT Tryz.prog 89 = some [.string (bstr []), .int .i64 0, .int .i64 0, .int .i64 0, .int .i64 0, .int .i64 0, .int .i64 0] := by kernel_rfl
theorem z_str0 : (ByteArray.mk #[114, 111, 98, 111, 116]) = bstr [114, 111, 98, 111, 116] := by kernel_rfl
theorem z_struct89 : structT Tryz.prog 89 = some ([.string (bstr []), .int .i64 0, .int .i64 0, .int .i64 0, .int .i64 0, .int .i64 0, .int .i64 0], [(0, 1), (1, 1), (2, 1), (3, 1), (4, 1), (5, 1), (6, 1)]) := by kernel_rfl
theorem z_size89 : sizeT Tryz.prog 89 = some 7 := by kernel_rfl
theorem z_agg89 : aggSize Tryz.prog 89 = some 7 := by kernel_rfl
theorem z_en66 : enters Tryz.prog 66 = true := by kernel_rfl
theorem z_str1 : (ByteArray.mk #[115, 112, 101, 101, 100]) = bstr [115, 112, 101, 101, 100] := by kernel_rfl
theorem z_str2 : (ByteArray.mk #[97, 99, 99, 101, 108]) = bstr [97, 99, 99, 101, 108] := by kernel_rfl
theorem z_str3 : (ByteArray.mk #[112, 97, 116, 104]) = bstr [112, 97, 116, 104] := by kernel_rfl
theorem z_str4 : (ByteArray.mk #[116, 97, 103]) = bstr [116, 97, 103] := by kernel_rfl
theorem z_slT86 : slT Tryz.prog 86 = some (89, 7, 64) := by kernel_rfl
theorem z_str5 : (ByteArray.mk #[114, 101, 97, 115, 111, 110]) = bstr [114, 101, 97, 115, 111, 110] := by kernel_rfl
theorem z_str6 : (ByteArray.mk #[122, 111, 110, 101]) = bstr [122, 111, 110, 101] := by kernel_rfl
theorem z_str7 : (ByteArray.mk #[108, 101, 97, 115, 101]) = bstr [108, 101, 97, 115, 101] := by kernel_rfl
theorem z_str8 : (ByteArray.mk #[99, 101, 108, 108, 115]) = bstr [99, 101, 108, 108, 115] := by kernel_rfl
theorem z_str9 : (ByteArray.mk #[120]) = bstr [120] := by kernel_rfl
theorem z_str10 : (ByteArray.mk #[121]) = bstr [121] := by kernel_rfl
theorem z_str11 : (ByteArray.mk #[104, 101, 97, 100, 105, 110, 103]) = bstr [104, 101, 97, 100, 105, 110, 103] := by kernel_rfl
theorem z_str12 : (ByteArray.mk #[98, 97, 116, 116, 101, 114, 121]) = bstr [98, 97, 116, 116, 101, 114, 121] := by kernel_rfl
theorem z_str13 : (ByteArray.mk #[115, 117, 114, 101]) = bstr [115, 117, 114, 101] := by kernel_rfl
theorem z_str14 : (ByteArray.mk #[99, 111, 100, 101]) = bstr [99, 111, 100, 101] := by kernel_rfl
theorem z_str15 : (ByteArray.mk #[115, 101, 118, 101, 114, 105, 116, 121]) = bstr [115, 101, 118, 101, 114, 105, 116, 121] := by kernel_rfl
theorem z_str16 : (ByteArray.mk #[112, 97, 114, 116]) = bstr [112, 97, 114, 116] := by kernel_rfl
theorem z_str17 : (ByteArray.mk #[116, 105, 109, 101, 115]) = bstr [116, 105, 109, 101, 115] := by kernel_rfl
theorem z_str18 : (ByteArray.mk #[116, 101, 120, 116]) = bstr [116, 101, 120, 116] := by kernel_rfl
theorem z_en40 : enters Tryz.prog 40 = true := by kernel_rfl
theorem z_field89_1 : fieldT Tryz.prog 89 1 = some 1 := by kernel_rfl
theorem z_field89_3 : fieldT Tryz.prog 89 3 = some 3 := by kernel_rfl
theorem z_field89_4 : fieldT Tryz.prog 89 4 = some 4 := by kernel_rfl
theorem z_en87 : enters Tryz.prog 87 = true := by kernel_rfl
theorem z_agg84 : aggSize Tryz.prog 84 = some 2 := by kernel_rfl
theorem z_zero84 : zeroT Tryz.prog 84 = some [.int .i64 0, .int .i64 0] := by kernel_rfl
theorem z_size84 : sizeT Tryz.prog 84 = some 2 := by kernel_rfl
theorem z_en67 : enters Tryz.prog 67 = true := by kernel_rfl
theorem z_en68 : enters Tryz.prog 68 = true := by kernel_rfl
theorem z_slT42 : slT Tryz.prog 42 = some (5, 1, 1) := by kernel_rfl
theorem z_sc5 : isScalar Tryz.prog 5 = true := by kernel_rfl
theorem z_en69 : enters Tryz.prog 69 = true := by kernel_rfl
theorem z_field89_2 : fieldT Tryz.prog 89 2 = some 2 := by kernel_rfl
theorem z_arr26 : arrP Tryz.prog 26 = some (6, 3, 1) := by kernel_rfl
theorem z_en41 : enters Tryz.prog 41 = true := by kernel_rfl
theorem z_str19 : (ByteArray.mk #[]) = bstr [] := by kernel_rfl
theorem z_size3 : sizeT Tryz.prog 3 = some 1 := by kernel_rfl
theorem z_en42 : enters Tryz.prog 42 = true := by kernel_rfl
theorem z_struct30 : structT Tryz.prog 30 = some ([.int .i64 0, .int .i64 0, .int .i64 0, .int .i64 0, .int .i64 0, .int .i64 0, .int .i64 0, .slice none 0 0, .slice none 0 0, .string (bstr []), .string (bstr [])], [(0, 1), (1, 6), (7, 1), (8, 1), (9, 1), (10, 1)]) := by kernel_rfl
theorem z_info3 : (Tryz.prog.info? 3).isSome = true := by kernel_rfl
theorem z_cell3 : Program.cellsOf Tryz.prog 3 = 1 := by kernel_rfl
theorem z_eqg26 : Program.eqGuardType Tryz.prog (Program.depth Tryz.prog) 26 = false := by kernel_rfl
theorem z_held84 : Program.stoodInHeld Tryz.prog 84 = false := by kernel_rfl
theorem z_eqg84 : Program.eqGuardType Tryz.prog (Program.depth Tryz.prog) 84 = false := by kernel_rfl
theorem z_en43 : enters Tryz.prog 43 = true := by kernel_rfl
theorem z_en44 : enters Tryz.prog 44 = true := by kernel_rfl
theorem z_en22 : enters Tryz.prog 22 = true := by kernel_rfl
theorem z_en21 : enters Tryz.prog 21 = true := by kernel_rfl
theorem z_str20 : (ByteArray.mk #[108, 111, 110, 103]) = bstr [108, 111, 110, 103] := by kernel_rfl
theorem z_str21 : (ByteArray.mk #[102, 111, 114, 109]) = bstr [102, 111, 114, 109] := by kernel_rfl
theorem z_str22 : (ByteArray.mk #[101, 110, 100]) = bstr [101, 110, 100] := by kernel_rfl
theorem z_str23 : (ByteArray.mk #[114, 97, 110, 103, 101]) = bstr [114, 97, 110, 103, 101] := by kernel_rfl
theorem z_str24 : (ByteArray.mk #[109, 97, 110, 121]) = bstr [109, 97, 110, 121] := by kernel_rfl
theorem z_str25 : (ByteArray.mk #[107, 105, 110, 100]) = bstr [107, 105, 110, 100] := by kernel_rfl
theorem z_str26 : (ByteArray.mk #[118, 101, 114, 115, 105, 111, 110]) = bstr [118, 101, 114, 115, 105, 111, 110] := by kernel_rfl
theorem z_str27 : (ByteArray.mk #[115, 117, 109]) = bstr [115, 117, 109] := by kernel_rfl
theorem z_str28 : (ByteArray.mk #[115, 116, 117, 102, 102]) = bstr [115, 116, 117, 102, 102] := by kernel_rfl
theorem z_str29 : (ByteArray.mk #[115, 104, 111, 114, 116]) = bstr [115, 104, 111, 114, 116] := by kernel_rfl
theorem z_str30 : (ByteArray.mk #[115, 101, 101, 110]) = bstr [115, 101, 101, 110] := by kernel_rfl
theorem z_str31 : (ByteArray.mk #[111, 108, 100]) = bstr [111, 108, 100] := by kernel_rfl
theorem z_str32 : (ByteArray.mk #[116, 119, 105, 99, 101]) = bstr [116, 119, 105, 99, 101] := by kernel_rfl
theorem z_str33 : (ByteArray.mk #[109, 101, 101, 116]) = bstr [109, 101, 101, 116] := by kernel_rfl
theorem z_str34 : (ByteArray.mk #[108, 97, 116, 101]) = bstr [108, 97, 116, 101] := by kernel_rfl
theorem z_en23 : enters Tryz.prog 23 = true := by kernel_rfl
theorem z_en7 : enters Tryz.prog 7 = true := by kernel_rfl
theorem z_field38_0 : fieldT Tryz.prog 38 0 = some 0 := by kernel_rfl
theorem z_field38_2 : fieldT Tryz.prog 38 2 = some 2 := by kernel_rfl
theorem z_field38_4 : fieldT Tryz.prog 38 4 = some 4 := by kernel_rfl
theorem z_field36_0 : fieldT Tryz.prog 36 0 = some 0 := by kernel_rfl
theorem z_slT94 : slT Tryz.prog 94 = some (98, 7, 64) := by kernel_rfl
theorem z_zero98 : zeroT Tryz.prog 98 = some [.string (bstr []), .int .i64 0, .int .i64 0, .int .i64 0, .int .i64 0, .int .i64 0, .int .i64 0] := by kernel_rfl
theorem z_struct98 : structT Tryz.prog 98 = some ([.string (bstr []), .int .i64 0, .int .i64 0, .int .i64 0, .int .i64 0, .int .i64 0, .int .i64 0], [(0, 1), (1, 1), (2, 1), (3, 1), (4, 1), (5, 1), (6, 1)]) := by kernel_rfl
theorem z_agg98 : aggSize Tryz.prog 98 = some 7 := by kernel_rfl
theorem z_size98 : sizeT Tryz.prog 98 = some 7 := by kernel_rfl
theorem z_field98_2 : fieldT Tryz.prog 98 2 = some 2 := by kernel_rfl
theorem z_field98_1 : fieldT Tryz.prog 98 1 = some 1 := by kernel_rfl
theorem z_en45 : enters Tryz.prog 45 = true := by kernel_rfl
theorem z_size4 : sizeT Tryz.prog 4 = some 1 := by kernel_rfl
theorem z_arr85 : arrP Tryz.prog 85 = some (2, 3, 1) := by kernel_rfl
theorem z_field36_3 : fieldT Tryz.prog 36 3 = some 8 := by kernel_rfl
theorem z_field36_4 : fieldT Tryz.prog 36 4 = some 9 := by kernel_rfl
theorem z_field36_5 : fieldT Tryz.prog 36 5 = some 10 := by kernel_rfl
theorem z_field36_1 : fieldT Tryz.prog 36 1 = some 1 := by kernel_rfl
theorem z_field98_3 : fieldT Tryz.prog 98 3 = some 3 := by kernel_rfl
theorem z_field98_4 : fieldT Tryz.prog 98 4 = some 4 := by kernel_rfl
theorem z_sc4 : isScalar Tryz.prog 4 = true := by kernel_rfl
theorem z_field38_3 : fieldT Tryz.prog 38 3 = some 3 := by kernel_rfl
theorem z_en49 : enters Tryz.prog 49 = true := by kernel_rfl
theorem z_agg85 : aggSize Tryz.prog 85 = some 2 := by kernel_rfl
theorem z_eqg85 : Program.eqGuardType Tryz.prog (Program.depth Tryz.prog) 85 = false := by kernel_rfl
theorem z_en25 : enters Tryz.prog 25 = true := by kernel_rfl
theorem z_zero3 : zeroT Tryz.prog 3 = some [.int .i64 0] := by kernel_rfl
theorem z_slT102 : slT Tryz.prog 102 = some (9, 1, 16) := by kernel_rfl
theorem z_zero9 : zeroT Tryz.prog 9 = some [.string (bstr [])] := by kernel_rfl
theorem z_en26 : enters Tryz.prog 26 = true := by kernel_rfl
theorem z_struct127 : structT Tryz.prog 127 = some ([.slice none 0 0, .int .i64 0, .bool false], [(0, 1), (1, 1), (2, 1)]) := by kernel_rfl
theorem z_struct129 : structT Tryz.prog 129 = some ([.slice none 0 0, .int .i64 0, .bool false], [(0, 3)]) := by kernel_rfl
theorem z_en50 : enters Tryz.prog 50 = true := by kernel_rfl
theorem z_arrz151 : arrT Tryz.prog 151 = some ([.int .u8 0, .int .u8 0, .int .u8 0, .int .u8 0], 1) := by kernel_rfl
theorem z_zero151 : zeroT Tryz.prog 151 = some [.int .u8 0, .int .u8 0, .int .u8 0, .int .u8 0] := by kernel_rfl
theorem z_size151 : sizeT Tryz.prog 151 = some 4 := by kernel_rfl
theorem z_arr151 : arrP Tryz.prog 151 = some (4, 5, 1) := by kernel_rfl
theorem z_field129_0 : fieldT Tryz.prog 129 0 = some 0 := by kernel_rfl
theorem z_field127_2 : fieldT Tryz.prog 127 2 = some 2 := by kernel_rfl
theorem z_field127_1 : fieldT Tryz.prog 127 1 = some 1 := by kernel_rfl
theorem z_field127_0 : fieldT Tryz.prog 127 0 = some 0 := by kernel_rfl
theorem z_sc42 : isScalar Tryz.prog 42 = true := by kernel_rfl
theorem z_size42 : sizeT Tryz.prog 42 = some 1 := by kernel_rfl
theorem z_en54 : enters Tryz.prog 54 = true := by kernel_rfl
theorem z_en70 : enters Tryz.prog 70 = true := by kernel_rfl
theorem z_en51 : enters Tryz.prog 51 = true := by kernel_rfl
theorem z_en52 : enters Tryz.prog 52 = true := by kernel_rfl
theorem z_en71 : enters Tryz.prog 71 = true := by kernel_rfl
theorem z_zero42 : zeroT Tryz.prog 42 = some [.slice none 0 0] := by kernel_rfl
theorem z_field89_5 : fieldT Tryz.prog 89 5 = some 5 := by kernel_rfl
theorem z_en102 : enters Tryz.prog 102 = true := by kernel_rfl
theorem z_en89 : enters Tryz.prog 89 = true := by kernel_rfl
theorem z_sc152 : isScalar Tryz.prog 152 = true := by kernel_rfl
theorem z_field89_0 : fieldT Tryz.prog 89 0 = some 0 := by kernel_rfl
theorem z_slT112 : slT Tryz.prog 112 = some (77, 1, 8) := by kernel_rfl
theorem z_zero77 : zeroT Tryz.prog 77 = some [.int .u64 0] := by kernel_rfl
theorem z_sc77 : isScalar Tryz.prog 77 = true := by kernel_rfl
theorem z_zero5 : zeroT Tryz.prog 5 = some [.int .u8 0] := by kernel_rfl
theorem z_en73 : enters Tryz.prog 73 = true := by kernel_rfl
theorem z_en103 : enters Tryz.prog 103 = true := by kernel_rfl
theorem z_slT182 : slT Tryz.prog 182 = some (2, 1, 8) := by kernel_rfl
theorem z_zero2 : zeroT Tryz.prog 2 = some [.int .i64 0] := by kernel_rfl
theorem z_sc2 : isScalar Tryz.prog 2 = true := by kernel_rfl
theorem z_en117 : enters Tryz.prog 117 = true := by kernel_rfl
theorem z_en104 : enters Tryz.prog 104 = true := by kernel_rfl
theorem z_en105 : enters Tryz.prog 105 = true := by kernel_rfl
theorem z_en106 : enters Tryz.prog 106 = true := by kernel_rfl
theorem z_en55 : enters Tryz.prog 55 = true := by kernel_rfl
theorem z_en56 : enters Tryz.prog 56 = true := by kernel_rfl
theorem z_en90 : enters Tryz.prog 90 = true := by kernel_rfl
theorem z_en88 : enters Tryz.prog 88 = true := by kernel_rfl
theorem z_en72 : enters Tryz.prog 72 = true := by kernel_rfl
theorem z_en53 : enters Tryz.prog 53 = true := by kernel_rfl
theorem z_en27 : enters Tryz.prog 27 = true := by kernel_rfl
theorem z_en9 : enters Tryz.prog 9 = true := by kernel_rfl
theorem z_field38_1 : fieldT Tryz.prog 38 1 = some 1 := by kernel_rfl
theorem z_field98_5 : fieldT Tryz.prog 98 5 = some 5 := by kernel_rfl
theorem z_en11 : enters Tryz.prog 11 = true := by kernel_rfl
theorem z_struct32 : structT Tryz.prog 32 = some ([.int .i64 0, .int .u32 0, .int .i64 0, .int .i64 0, .int .i64 0, .int .i64 0, .int .i64 0, .int .i64 0, .int .i64 0, .int .i64 0, .int .i64 0, .slice none 0 0, .slice none 0 0, .string (bstr []), .string (bstr [])], [(0, 1), (1, 1), (2, 1), (3, 1), (4, 11)]) := by kernel_rfl
theorem z_en31 : enters Tryz.prog 31 = true := by kernel_rfl
theorem z_en32 : enters Tryz.prog 32 = true := by kernel_rfl
theorem z_en12 : enters Tryz.prog 12 = true := by kernel_rfl
theorem z_zero22 : zeroT Tryz.prog 22 = some [.slice none 0 0] := by kernel_rfl
theorem z_struct137 : structT Tryz.prog 137 = some ([.slice none 0 0, .int .i64 0, .int .i64 0], [(0, 1), (1, 1), (2, 1)]) := by kernel_rfl
theorem z_en59 : enters Tryz.prog 59 = true := by kernel_rfl
theorem z_field137_0 : fieldT Tryz.prog 137 0 = some 0 := by kernel_rfl
theorem z_field137_1 : fieldT Tryz.prog 137 1 = some 1 := by kernel_rfl
theorem z_en76 : enters Tryz.prog 76 = true := by kernel_rfl
theorem z_en60 : enters Tryz.prog 60 = true := by kernel_rfl
theorem z_en61 : enters Tryz.prog 61 = true := by kernel_rfl
theorem z_field137_2 : fieldT Tryz.prog 137 2 = some 2 := by kernel_rfl
theorem z_en79 : enters Tryz.prog 79 = true := by kernel_rfl
theorem z_en78 : enters Tryz.prog 78 = true := by kernel_rfl
theorem z_size25 : sizeT Tryz.prog 25 = some 1 := by kernel_rfl
theorem z_en77 : enters Tryz.prog 77 = true := by kernel_rfl
theorem z_en62 : enters Tryz.prog 62 = true := by kernel_rfl
theorem z_en63 : enters Tryz.prog 63 = true := by kernel_rfl
theorem z_zero24 : zeroT Tryz.prog 24 = some [.int .u32 0] := by kernel_rfl
theorem z_size24 : sizeT Tryz.prog 24 = some 1 := by kernel_rfl
theorem z_en118 : enters Tryz.prog 118 = true := by kernel_rfl
theorem z_en108 : enters Tryz.prog 108 = true := by kernel_rfl
theorem z_en107 : enters Tryz.prog 107 = true := by kernel_rfl
theorem z_en92 : enters Tryz.prog 92 = true := by kernel_rfl
theorem z_en80 : enters Tryz.prog 80 = true := by kernel_rfl
theorem z_en81 : enters Tryz.prog 81 = true := by kernel_rfl
theorem z_en116 : enters Tryz.prog 116 = true := by kernel_rfl
theorem z_en97 : enters Tryz.prog 97 = true := by kernel_rfl
theorem z_en83 : enters Tryz.prog 83 = true := by kernel_rfl
theorem z_str35 : (ByteArray.mk #[109, 111, 118, 101]) = bstr [109, 111, 118, 101] := by kernel_rfl
theorem z_str36 : (ByteArray.mk #[104, 111, 108, 100]) = bstr [104, 111, 108, 100] := by kernel_rfl
theorem z_str37 : (ByteArray.mk #[103, 114, 97, 110, 116]) = bstr [103, 114, 97, 110, 116] := by kernel_rfl
theorem z_str38 : (ByteArray.mk #[112, 111, 115, 101]) = bstr [112, 111, 115, 101] := by kernel_rfl
theorem z_str39 : (ByteArray.mk #[102, 97, 117, 108, 116]) = bstr [102, 97, 117, 108, 116] := by kernel_rfl
theorem z_en93 : enters Tryz.prog 93 = true := by kernel_rfl
theorem z_struct162 : structT Tryz.prog 162 = some ([.pointer none, .int .i64 0], [(0, 1), (1, 1)]) := by kernel_rfl
theorem z_zero160 : zeroT Tryz.prog 160 = some [.pointer none] := by kernel_rfl
theorem z_size160 : sizeT Tryz.prog 160 = some 1 := by kernel_rfl
theorem z_sc160 : isScalar Tryz.prog 160 = true := by kernel_rfl
theorem z_field162_0 : fieldT Tryz.prog 162 0 = some 0 := by kernel_rfl
theorem z_sc113 : isScalar Tryz.prog 113 = true := by kernel_rfl
theorem z_size77 : sizeT Tryz.prog 77 = some 1 := by kernel_rfl
theorem z_en119 : enters Tryz.prog 119 = true := by kernel_rfl
theorem z_en109 : enters Tryz.prog 109 = true := by kernel_rfl
theorem z_field162_1 : fieldT Tryz.prog 162 1 = some 1 := by kernel_rfl
theorem z_en95 : enters Tryz.prog 95 = true := by kernel_rfl
theorem z_en110 : enters Tryz.prog 110 = true := by kernel_rfl
theorem z_size2 : sizeT Tryz.prog 2 = some 1 := by kernel_rfl
theorem z_en121 : enters Tryz.prog 121 = true := by kernel_rfl
theorem z_en120 : enters Tryz.prog 120 = true := by kernel_rfl
theorem z_en111 : enters Tryz.prog 111 = true := by kernel_rfl
theorem z_en123 : enters Tryz.prog 123 = true := by kernel_rfl
theorem z_en122 : enters Tryz.prog 122 = true := by kernel_rfl
theorem z_en112 : enters Tryz.prog 112 = true := by kernel_rfl
theorem z_en113 : enters Tryz.prog 113 = true := by kernel_rfl
theorem z_en114 : enters Tryz.prog 114 = true := by kernel_rfl
theorem z_en94 : enters Tryz.prog 94 = true := by kernel_rfl
theorem z_en84 : enters Tryz.prog 84 = true := by kernel_rfl
theorem z_en124 : enters Tryz.prog 124 = true := by kernel_rfl
theorem z_en125 : enters Tryz.prog 125 = true := by kernel_rfl
theorem z_en115 : enters Tryz.prog 115 = true := by kernel_rfl
theorem z_field89_6 : fieldT Tryz.prog 89 6 = some 6 := by kernel_rfl
theorem z_en96 : enters Tryz.prog 96 = true := by kernel_rfl
theorem z_en82 : enters Tryz.prog 82 = true := by kernel_rfl
theorem z_en64 : enters Tryz.prog 64 = true := by kernel_rfl
theorem z_sc22 : isScalar Tryz.prog 22 = true := by kernel_rfl
theorem z_size22 : sizeT Tryz.prog 22 = some 1 := by kernel_rfl
theorem z_en34 : enters Tryz.prog 34 = true := by kernel_rfl
theorem z_en33 : enters Tryz.prog 33 = true := by kernel_rfl
theorem z_en13 : enters Tryz.prog 13 = true := by kernel_rfl
theorem z_en17 : enters Tryz.prog 17 = true := by kernel_rfl
theorem z_en14 : enters Tryz.prog 14 = true := by kernel_rfl
theorem z_en35 : enters Tryz.prog 35 = true := by kernel_rfl
theorem z_en99 : enters Tryz.prog 99 = true := by kernel_rfl
theorem z_en98 : enters Tryz.prog 98 = true := by kernel_rfl
theorem z_size85 : sizeT Tryz.prog 85 = some 2 := by kernel_rfl
theorem z_en100 : enters Tryz.prog 100 = true := by kernel_rfl
theorem z_en101 : enters Tryz.prog 101 = true := by kernel_rfl
theorem z_en85 : enters Tryz.prog 85 = true := by kernel_rfl
theorem z_field98_6 : fieldT Tryz.prog 98 6 = some 6 := by kernel_rfl
theorem z_en86 : enters Tryz.prog 86 = true := by kernel_rfl
theorem z_en65 : enters Tryz.prog 65 = true := by kernel_rfl
theorem z_en36 : enters Tryz.prog 36 = true := by kernel_rfl
theorem z_en15 : enters Tryz.prog 15 = true := by kernel_rfl
theorem z_zero23 : zeroT Tryz.prog 23 = some [.slice none 0 0] := by kernel_rfl
theorem z_zero28 : zeroT Tryz.prog 28 = some [.slice none 0 0] := by kernel_rfl
theorem z_size23 : sizeT Tryz.prog 23 = some 1 := by kernel_rfl
theorem z_sc23 : isScalar Tryz.prog 23 = true := by kernel_rfl
theorem z_zero4 : zeroT Tryz.prog 4 = some [.bool false] := by kernel_rfl
theorem z_sc82 : isScalar Tryz.prog 82 = true := by kernel_rfl
theorem z_en38 : enters Tryz.prog 38 = true := by kernel_rfl
theorem z_en37 : enters Tryz.prog 37 = true := by kernel_rfl
theorem z_en16 : enters Tryz.prog 16 = true := by kernel_rfl
theorem z_en39 : enters Tryz.prog 39 = true := by kernel_rfl
theorem z_en18 : enters Tryz.prog 18 = true := by kernel_rfl
theorem z_agg151 : aggSize Tryz.prog 151 = some 4 := by kernel_rfl
theorem z_size113 : sizeT Tryz.prog 113 = some 1 := by kernel_rfl
theorem z_size82 : sizeT Tryz.prog 82 = some 1 := by kernel_rfl
theorem z_size26 : sizeT Tryz.prog 26 = some 6 := by kernel_rfl
def z_tyf : TyF := ⟨[(2, .i64), (24, .u32), (25, .i64), (3, .i64), (5, .u8), (77, .u64)], [(127, 0, 0), (127, 1, 1), (127, 2, 2), (129, 0, 0), (137, 0, 0), (137, 1, 1), (137, 2, 2), (162, 0, 0), (162, 1, 1), (30, 0, 0), (30, 1, 1), (30, 2, 7), (30, 3, 8), (30, 4, 9), (30, 5, 10), (32, 0, 0), (32, 1, 1), (32, 2, 2), (32, 3, 3), (32, 4, 4), (36, 0, 0), (36, 1, 1), (36, 2, 7), (36, 3, 8), (36, 4, 9), (36, 5, 10), (38, 0, 0), (38, 1, 1), (38, 2, 2), (38, 3, 3), (38, 4, 4), (84, 0, 0), (84, 1, 1), (89, 0, 0), (89, 1, 1), (89, 2, 2), (89, 3, 3), (89, 4, 4), (89, 5, 5), (89, 6, 6), (98, 1, 1), (98, 2, 2), (98, 3, 3), (98, 4, 4), (98, 5, 5)], [9], [], [103, 113], [56]⟩
theorem z_T : TyOk Tryz.prog z_tyf := ⟨(fa_cons Tryz.underlying2 (fa_cons Tryz.underlying24 (fa_cons Tryz.underlying25 (fa_cons Tryz.underlying3 (fa_cons Tryz.underlying5 (fa_cons Tryz.underlying77 fa_nil)))))), (fa_cons z_field127_0 (fa_cons z_field127_1 (fa_cons z_field127_2 (fa_cons z_field129_0 (fa_cons z_field137_0 (fa_cons z_field137_1 (fa_cons z_field137_2 (fa_cons z_field162_0 (fa_cons z_field162_1 (fa_cons z_field30_0 (fa_cons z_field30_1 (fa_cons z_field30_2 (fa_cons z_field30_3 (fa_cons z_field30_4 (fa_cons z_field30_5 (fa_cons z_field32_0 (fa_cons z_field32_1 (fa_cons z_field32_2 (fa_cons z_field32_3 (fa_cons z_field32_4 (fa_cons z_field36_0 (fa_cons z_field36_1 (fa_cons z_field36_2 (fa_cons z_field36_3 (fa_cons z_field36_4 (fa_cons z_field36_5 (fa_cons z_field38_0 (fa_cons z_field38_1 (fa_cons z_field38_2 (fa_cons z_field38_3 (fa_cons z_field38_4 (fa_cons z_field84_0 (fa_cons z_field84_1 (fa_cons z_field89_0 (fa_cons z_field89_1 (fa_cons z_field89_2 (fa_cons z_field89_3 (fa_cons z_field89_4 (fa_cons z_field89_5 (fa_cons z_field89_6 (fa_cons z_field98_1 (fa_cons z_field98_2 (fa_cons z_field98_3 (fa_cons z_field98_4 (fa_cons z_field98_5 fa_nil))))))))))))))))))))))))))))))))))))))))))))), (fa_cons Tryz.underlying9 fa_nil), fa_nil, (fa_cons ⟨_, Tryz.underlying103⟩ (fa_cons ⟨_, Tryz.underlying113⟩ fa_nil)), (fa_cons ⟨_, _, _, Tryz.underlying56⟩ fa_nil)⟩
def z_tym : TyM := ⟨[113, 160, 2, 22, 23, 24, 25, 27, 28, 3, 34, 4, 42, 77, 82, 9], [(151, 4), (26, 6), (30, 11), (32, 15), (36, 11), (38, 15), (84, 2), (85, 2), (89, 7), (98, 7)], [(127, [.slice none 0 0, .int .i64 0, .bool false], [(0, 1), (1, 1), (2, 1)]), (129, [.slice none 0 0, .int .i64 0, .bool false], [(0, 3)]), (162, [.pointer none, .int .i64 0], [(0, 1), (1, 1)]), (30, [.int .i64 0, .int .i64 0, .int .i64 0, .int .i64 0, .int .i64 0, .int .i64 0, .int .i64 0, .slice none 0 0, .slice none 0 0, .string (bstr []), .string (bstr [])], [(0, 1), (1, 6), (7, 1), (8, 1), (9, 1), (10, 1)]), (32, [.int .i64 0, .int .u32 0, .int .i64 0, .int .i64 0, .int .i64 0, .int .i64 0, .int .i64 0, .int .i64 0, .int .i64 0, .int .i64 0, .int .i64 0, .slice none 0 0, .slice none 0 0, .string (bstr []), .string (bstr [])], [(0, 1), (1, 1), (2, 1), (3, 1), (4, 11)]), (36, [.int .i64 0, .int .i64 0, .int .i64 0, .int .i64 0, .int .i64 0, .int .i64 0, .int .i64 0, .slice none 0 0, .slice none 0 0, .string (bstr []), .string (bstr [])], [(0, 1), (1, 6), (7, 1), (8, 1), (9, 1), (10, 1)]), (38, [.int .i64 0, .int .u32 0, .int .i64 0, .int .i64 0, .int .i64 0, .int .i64 0, .int .i64 0, .int .i64 0, .int .i64 0, .int .i64 0, .int .i64 0, .slice none 0 0, .slice none 0 0, .string (bstr []), .string (bstr [])], [(0, 1), (1, 1), (2, 1), (3, 1), (4, 11)])], []⟩
theorem z_M : TyMOk Tryz.prog z_tym := ⟨(fa_cons z_sc113 (fa_cons z_sc160 (fa_cons z_sc2 (fa_cons z_sc22 (fa_cons z_sc23 (fa_cons z_sc24 (fa_cons z_sc25 (fa_cons z_sc27 (fa_cons z_sc28 (fa_cons z_sc3 (fa_cons z_sc34 (fa_cons z_sc4 (fa_cons z_sc42 (fa_cons z_sc77 (fa_cons z_sc82 (fa_cons z_sc9 fa_nil)))))))))))))))), (fa_cons z_size113 (fa_cons z_size160 (fa_cons z_size2 (fa_cons z_size22 (fa_cons z_size23 (fa_cons z_size24 (fa_cons z_size25 (fa_cons z_size27 (fa_cons z_size28 (fa_cons z_size3 (fa_cons z_size34 (fa_cons z_size4 (fa_cons z_size42 (fa_cons z_size77 (fa_cons z_size82 (fa_cons z_size9 fa_nil)))))))))))))))), (fa_cons z_agg151 (fa_cons z_agg26 (fa_cons z_agg30 (fa_cons z_agg32 (fa_cons z_agg36 (fa_cons z_agg38 (fa_cons z_agg84 (fa_cons z_agg85 (fa_cons z_agg89 (fa_cons z_agg98 fa_nil)))))))))), (fa_cons z_size151 (fa_cons z_size26 (fa_cons z_size30 (fa_cons z_size32 (fa_cons z_size36 (fa_cons z_size38 (fa_cons z_size84 (fa_cons z_size85 (fa_cons z_size89 (fa_cons z_size98 fa_nil)))))))))), (fa_cons z_struct127 (fa_cons z_struct129 (fa_cons z_struct162 (fa_cons z_struct30 (fa_cons z_struct32 (fa_cons z_struct36 (fa_cons z_struct38 fa_nil))))))), fa_nil⟩
theorem Z {n : Nat} {c : Ctx Tryz.prog n} {σ : Sto} {gs : List Grp} (f : Nat) {ρ ρ' : Env} {k k' : List Item} (h : go z_tyf n f ρ k = some (ρ', k')) (hk : St c ρ' σ gs k') : St c ρ σ gs k := st_go z_T f h hk
theorem dA {n : Nat} {c : Ctx Tryz.prog n} {k : List Item} {ops : Array Oper} {dsts : List Nat} {L : List DT} {ρ : Env} {i : Nat} (h : dpv z_tyf n ops dsts L ρ i = dvl L i := by exact rfl) (hs : (dvl L i).isSome = true := by exact rfl) : Core c k ops dsts L ρ i := core_A z_T h hs
theorem dG {n : Nat} {c : Ctx Tryz.prog n} {k : List Item} {ops : Array Oper} {dsts : List Nat} {L : List DT} {ρ : Env} {i : Nat} (ks : List Nat) (h : DGok z_tyf n ops dsts L ρ ks i := by exact ⟨rfl, rfl, rfl⟩) : Core c k ops dsts L ρ i := core_G z_T h
theorem ZZ {n : Nat} {c : Ctx Tryz.prog n} {σ : Sto} (f : Nat) (js : List Nat) {gs gs' : List Grp} {ρ ρ' : Env} {k k' : List Item} {e : List (Nat × Nat)} (h : go2 z_tyf z_tym n f js ρ gs k = some (ρ', gs', k', e)) (he : e.map (·.1) = e.map (·.2)) (hk : St c ρ' σ gs' k') : St c ρ σ gs k := st_go2 z_T z_M f h he hk
end Go.Rel
