import Derived.Test.YthglcjhdmoljjabGreatDoorProg
import Derived.Test.YthglcjhdmoljjabGreatDoorEngU
import Derived.KernelRfl
import Derived.Test.YthglcjhdmoljjabGreatDoorEngZ
import Derived.Test.YthglcjhdmoljjabGreatDoorEngZB
import Derived.Test.YthglcjhdmoljjabGreatDoorShelf
/-! Facts of the program's types and functions. -/
namespace Go.Rel
open Go Go.Eng Go.Proofs
theorem z_zero29 : zeroT Tryz.prog 29 = some [.int .i64 0, .int .i64 0, .int .i64 0, .int .i64 0, .int .i64 0, .bool false, .bool false, .int .i64 0, .int .i64 0, .slice none 0 0, .int .i64 0, .int .i64 0] := by kernel_rfl
theorem z_struct29 : structT Tryz.prog 29 = some ([.int .i64 0, .int .i64 0, .int .i64 0, .int .i64 0, .int .i64 0, .bool false, .bool false, .int .i64 0, .int .i64 0, .slice none 0 0, .int .i64 0, .int .i64 0], [(0, 1), (1, 1), (2, 1), (3, 1), (4, 1), (5, 1), (6, 1), (7, 1), (8, 1), (9, 1), (10, 1), (11, 1)]) := by kernel_rfl
theorem z_size29 : sizeT Tryz.prog 29 = some 12 := by kernel_rfl
theorem z_agg29 : aggSize Tryz.prog 29 = some 12 := by kernel_rfl
theorem z_en4 : enters Tryz.prog 4 = true := by kernel_rfl
theorem z_zero3 : zeroT Tryz.prog 3 = some [.int .i64 0] := by kernel_rfl
theorem z_size3 : sizeT Tryz.prog 3 = some 1 := by kernel_rfl
theorem z_sc27 : isScalar Tryz.prog 27 = true := by kernel_rfl
theorem z_en19 : enters Tryz.prog 19 = true := by kernel_rfl
theorem z_en5 : enters Tryz.prog 5 = true := by kernel_rfl
theorem z_sc3 : isScalar Tryz.prog 3 = true := by kernel_rfl
theorem z_struct57 : structT Tryz.prog 57 = some ([.map none, .map none], [(0, 1), (1, 1)]) := by kernel_rfl
theorem z_en17 : enters Tryz.prog 17 = true := by kernel_rfl
theorem z_arrz22 : arrT Tryz.prog 22 = some ([.int .i64 0, .int .i64 0, .int .i64 0, .int .i64 0, .int .i64 0, .int .i64 0], 1) := by kernel_rfl
theorem z_slT24 : slT Tryz.prog 24 = some (3, 1, 8) := by kernel_rfl
theorem z_struct26 : structT Tryz.prog 26 = some ([.int .i64 0, .int .i64 0, .int .i64 0, .int .i64 0, .int .i64 0, .int .i64 0, .int .i64 0, .slice none 0 0, .slice none 0 0, .string (bstr []), .string (bstr [])], [(0, 1), (1, 6), (7, 1), (8, 1), (9, 1), (10, 1)]) := by kernel_rfl
theorem z_slT64 : slT Tryz.prog 64 = some (26, 11, 136) := by kernel_rfl
theorem z_zero26 : zeroT Tryz.prog 26 = some [.int .i64 0, .int .i64 0, .int .i64 0, .int .i64 0, .int .i64 0, .int .i64 0, .int .i64 0, .slice none 0 0, .slice none 0 0, .string (bstr []), .string (bstr [])] := by kernel_rfl
theorem z_agg26 : aggSize Tryz.prog 26 = some 11 := by kernel_rfl
theorem z_size26 : sizeT Tryz.prog 26 = some 11 := by kernel_rfl
theorem z_mix : Tryz.prog.follows .mixedOrders = true := by kernel_rfl
theorem z_field26_0 : fieldT Tryz.prog 26 0 = some 0 := by kernel_rfl
theorem z_zero88 : zeroT Tryz.prog 88 = some [.string (bstr []), .int .i64 0, .int .i64 0, .int .i64 0, .int .i64 0, .int .i64 0, .int .i64 0] := by kernel_rfl
theorem z_str0 : (ByteArray.mk #[114, 111, 98, 111, 116]) = bstr [114, 111, 98, 111, 116] := by kernel_rfl
theorem z_struct88 : structT Tryz.prog 88 = some ([.string (bstr []), .int .i64 0, .int .i64 0, .int .i64 0, .int .i64 0, .int .i64 0, .int .i64 0], [(0, 1), (1, 1), (2, 1), (3, 1), (4, 1), (5, 1), (6, 1)]) := by kernel_rfl
theorem z_size88 : sizeT Tryz.prog 88 = some 7 := by kernel_rfl
theorem z_agg88 : aggSize Tryz.prog 88 = some 7 := by kernel_rfl
theorem z_en54 : enters Tryz.prog 54 = true := by kernel_rfl
theorem z_str1 : (ByteArray.mk #[115, 112, 101, 101, 100]) = bstr [115, 112, 101, 101, 100] := by kernel_rfl
theorem z_str2 : (ByteArray.mk #[97, 99, 99, 101, 108]) = bstr [97, 99, 99, 101, 108] := by kernel_rfl
theorem z_str3 : (ByteArray.mk #[112, 97, 116, 104]) = bstr [112, 97, 116, 104] := by kernel_rfl
theorem z_str4 : (ByteArray.mk #[116, 97, 103]) = bstr [116, 97, 103] := by kernel_rfl
theorem z_slT85 : slT Tryz.prog 85 = some (88, 7, 64) := by kernel_rfl
theorem z_str5 : (ByteArray.mk #[114, 101, 97, 115, 111, 110]) = bstr [114, 101, 97, 115, 111, 110] := by kernel_rfl
theorem z_str6 : (ByteArray.mk #[122, 111, 110, 101]) = bstr [122, 111, 110, 101] := by kernel_rfl
theorem z_str7 : (ByteArray.mk #[108, 101, 97, 115, 101]) = bstr [108, 101, 97, 115, 101] := by kernel_rfl
theorem z_str8 : (ByteArray.mk #[99, 101, 108, 108, 115]) = bstr [99, 101, 108, 108, 115] := by kernel_rfl
theorem z_str9 : (ByteArray.mk #[120]) = bstr [120] := by kernel_rfl
theorem z_str10 : (ByteArray.mk #[121]) = bstr [121] := by kernel_rfl
theorem z_str11 : (ByteArray.mk #[104, 101, 97, 100, 105, 110, 103]) = bstr [104, 101, 97, 100, 105, 110, 103] := by kernel_rfl
theorem z_str12 : (ByteArray.mk #[98, 97, 116, 116, 101, 114, 121]) = bstr [98, 97, 116, 116, 101, 114, 121] := by kernel_rfl
theorem z_str13 : (ByteArray.mk #[115, 117, 114, 101]) = bstr [115, 117, 114, 101] := by kernel_rfl
theorem z_str14 : (ByteArray.mk #[99, 111, 100, 101]) = bstr [99, 111, 100, 101] := by kernel_rfl
theorem z_str15 : (ByteArray.mk #[115, 101, 118, 101, 114, 105, 116, 121]) = bstr [115, 101, 118, 101, 114, 105, 116, 121] := by kernel_rfl
theorem z_str16 : (ByteArray.mk #[112, 97, 114, 116]) = bstr [112, 97, 114, 116] := by kernel_rfl
theorem z_str17 : (ByteArray.mk #[116, 105, 109, 101, 115]) = bstr [116, 105, 109, 101, 115] := by kernel_rfl
theorem z_str18 : (ByteArray.mk #[116, 101, 120, 116]) = bstr [116, 101, 120, 116] := by kernel_rfl
theorem z_en39 : enters Tryz.prog 39 = true := by kernel_rfl
theorem z_field88_1 : fieldT Tryz.prog 88 1 = some 1 := by kernel_rfl
theorem z_field26_2 : fieldT Tryz.prog 26 2 = some 7 := by kernel_rfl
theorem z_sc23 : isScalar Tryz.prog 23 = true := by kernel_rfl
theorem z_slT23 : slT Tryz.prog 23 = some (60, 2, 16) := by kernel_rfl
theorem z_field88_3 : fieldT Tryz.prog 88 3 = some 3 := by kernel_rfl
theorem z_field88_4 : fieldT Tryz.prog 88 4 = some 4 := by kernel_rfl
theorem z_en80 : enters Tryz.prog 80 = true := by kernel_rfl
theorem z_agg60 : aggSize Tryz.prog 60 = some 2 := by kernel_rfl
theorem z_zero60 : zeroT Tryz.prog 60 = some [.int .i64 0, .int .i64 0] := by kernel_rfl
theorem z_size60 : sizeT Tryz.prog 60 = some 2 := by kernel_rfl
theorem z_field60_0 : fieldT Tryz.prog 60 0 = some 0 := by kernel_rfl
theorem z_field60_1 : fieldT Tryz.prog 60 1 = some 1 := by kernel_rfl
theorem z_en55 : enters Tryz.prog 55 = true := by kernel_rfl
theorem z_field26_3 : fieldT Tryz.prog 26 3 = some 8 := by kernel_rfl
theorem z_sc24 : isScalar Tryz.prog 24 = true := by kernel_rfl
theorem z_en56 : enters Tryz.prog 56 = true := by kernel_rfl
theorem z_field26_4 : fieldT Tryz.prog 26 4 = some 9 := by kernel_rfl
theorem z_sc9 : isScalar Tryz.prog 9 = true := by kernel_rfl
theorem z_slT128 : slT Tryz.prog 128 = some (5, 1, 1) := by kernel_rfl
theorem z_sc5 : isScalar Tryz.prog 5 = true := by kernel_rfl
theorem z_en57 : enters Tryz.prog 57 = true := by kernel_rfl
theorem z_field26_5 : fieldT Tryz.prog 26 5 = some 10 := by kernel_rfl
theorem z_field88_2 : fieldT Tryz.prog 88 2 = some 2 := by kernel_rfl
theorem z_field26_1 : fieldT Tryz.prog 26 1 = some 1 := by kernel_rfl
theorem z_arr22 : arrP Tryz.prog 22 = some (6, 3, 1) := by kernel_rfl
theorem z_en40 : enters Tryz.prog 40 = true := by kernel_rfl
theorem z_size23 : sizeT Tryz.prog 23 = some 1 := by kernel_rfl
theorem z_size24 : sizeT Tryz.prog 24 = some 1 := by kernel_rfl
theorem z_str19 : (ByteArray.mk #[]) = bstr [] := by kernel_rfl
theorem z_size9 : sizeT Tryz.prog 9 = some 1 := by kernel_rfl
theorem z_en41 : enters Tryz.prog 41 = true := by kernel_rfl
theorem z_agg22 : aggSize Tryz.prog 22 = some 6 := by kernel_rfl
theorem z_info3 : (Tryz.prog.info? 3).isSome = true := by kernel_rfl
theorem z_cell3 : Program.cellsOf Tryz.prog 3 = 1 := by kernel_rfl
theorem z_eqg22 : Program.eqGuardType Tryz.prog (Program.depth Tryz.prog) 22 = false := by kernel_rfl
theorem z_held60 : Program.stoodInHeld Tryz.prog 60 = false := by kernel_rfl
theorem z_eqg60 : Program.eqGuardType Tryz.prog (Program.depth Tryz.prog) 60 = false := by kernel_rfl
theorem z_en51 : enters Tryz.prog 51 = true := by kernel_rfl
theorem z_en35 : enters Tryz.prog 35 = true := by kernel_rfl
theorem z_en42 : enters Tryz.prog 42 = true := by kernel_rfl
theorem z_en22 : enters Tryz.prog 22 = true := by kernel_rfl
theorem z_field88_0 : fieldT Tryz.prog 88 0 = some 0 := by kernel_rfl
theorem z_held88 : Program.stoodInHeld Tryz.prog 88 = false := by kernel_rfl
theorem z_eqg88 : Program.eqGuardType Tryz.prog (Program.depth Tryz.prog) 88 = false := by kernel_rfl
theorem z_en81 : enters Tryz.prog 81 = true := by kernel_rfl
theorem z_en58 : enters Tryz.prog 58 = true := by kernel_rfl
theorem z_en43 : enters Tryz.prog 43 = true := by kernel_rfl
theorem z_field57_0 : fieldT Tryz.prog 57 0 = some 0 := by kernel_rfl
theorem z_sc54 : isScalar Tryz.prog 54 = true := by kernel_rfl
theorem z_map54 : mapT Tryz.prog 54 = some (3, 29) := by kernel_rfl
theorem z_zeroV29 : zeroV Tryz.prog 29 = some (.agg [.int .i64 0, .int .i64 0, .int .i64 0, .int .i64 0, .int .i64 0, .bool false, .bool false, .int .i64 0, .int .i64 0, .slice none 0 0, .int .i64 0, .int .i64 0].toArray) := by kernel_rfl
theorem z_field29_6 : fieldT Tryz.prog 29 6 = some 6 := by kernel_rfl
theorem z_size4 : sizeT Tryz.prog 4 = some 1 := by kernel_rfl
theorem z_field29_7 : fieldT Tryz.prog 29 7 = some 7 := by kernel_rfl
theorem z_field29_8 : fieldT Tryz.prog 29 8 = some 8 := by kernel_rfl
theorem z_en18 : enters Tryz.prog 18 = true := by kernel_rfl
theorem z_field29_9 : fieldT Tryz.prog 29 9 = some 9 := by kernel_rfl
theorem z_field57_1 : fieldT Tryz.prog 57 1 = some 1 := by kernel_rfl
theorem z_sc55 : isScalar Tryz.prog 55 = true := by kernel_rfl
theorem z_struct71 : structT Tryz.prog 71 = some ([.int .i64 0, .int .i64 0], [(0, 1), (1, 1)]) := by kernel_rfl
theorem z_en24 : enters Tryz.prog 24 = true := by kernel_rfl
theorem z_held71 : Program.stoodInHeld Tryz.prog 71 = false := by kernel_rfl
theorem z_keyP71 : KeyOk Tryz.prog 71 kPr := keyP Tryz.underlying71 z_held71 (by decide) (by decide) rfl rfl z_sc3 z_sc3 Tryz.underlying3 Tryz.underlying3
theorem z_map55 : mapT Tryz.prog 55 = some (71, 24) := by kernel_rfl
theorem z_field29_0 : fieldT Tryz.prog 29 0 = some 0 := by kernel_rfl
theorem z_field29_1 : fieldT Tryz.prog 29 1 = some 1 := by kernel_rfl
theorem z_field29_2 : fieldT Tryz.prog 29 2 = some 2 := by kernel_rfl
theorem z_field29_3 : fieldT Tryz.prog 29 3 = some 3 := by kernel_rfl
theorem z_field29_4 : fieldT Tryz.prog 29 4 = some 4 := by kernel_rfl
theorem z_field29_5 : fieldT Tryz.prog 29 5 = some 5 := by kernel_rfl
theorem z_field29_10 : fieldT Tryz.prog 29 10 = some 10 := by kernel_rfl
theorem z_field29_11 : fieldT Tryz.prog 29 11 = some 11 := by kernel_rfl
theorem z_en23 : enters Tryz.prog 23 = true := by kernel_rfl
theorem z_en7 : enters Tryz.prog 7 = true := by kernel_rfl
theorem z_zero71 : zeroT Tryz.prog 71 = some [.int .i64 0, .int .i64 0] := by kernel_rfl
theorem z_size71 : sizeT Tryz.prog 71 = some 2 := by kernel_rfl
theorem z_map73 : mapT Tryz.prog 73 = some (45, 3) := by kernel_rfl
theorem z_held45 : Program.stoodInHeld Tryz.prog 45 = false := by kernel_rfl
theorem z_keyP45 : KeyOk Tryz.prog 45 kPr := keyP Tryz.underlying45 z_held45 (by decide) (by decide) rfl rfl z_sc3 z_sc3 Tryz.underlying3 Tryz.underlying3
theorem z_zeroV3 : zeroV Tryz.prog 3 = some (.int .i64 0) := by kernel_rfl
theorem z_field71_1 : fieldT Tryz.prog 71 1 = some 1 := by kernel_rfl
theorem z_struct45 : structT Tryz.prog 45 = some ([.int .i64 0, .int .i64 0], [(0, 1), (1, 1)]) := by kernel_rfl
theorem z_zero45 : zeroT Tryz.prog 45 = some [.int .i64 0, .int .i64 0] := by kernel_rfl
theorem z_size45 : sizeT Tryz.prog 45 = some 2 := by kernel_rfl
theorem z_agg45 : aggSize Tryz.prog 45 = some 2 := by kernel_rfl
theorem z_slT46 : slT Tryz.prog 46 = some (45, 2, 16) := by kernel_rfl
theorem z_str20 : (ByteArray.mk #[0, 1, 2, 2, 3, 3, 3, 3, 4, 4, 4, 4, 4, 4, 4, 4, 5, 5, 5, 5, 5, 5, 5, 5, 5, 5, 5, 5, 5, 5, 5, 5, 6, 6, 6, 6, 6, 6, 6, 6, 6, 6, 6, 6, 6, 6, 6, 6, 6, 6, 6, 6, 6, 6, 6, 6, 6, 6, 6, 6, 6, 6, 6, 6, 7, 7, 7, 7, 7, 7, 7, 7, 7, 7, 7, 7, 7, 7, 7, 7, 7, 7, 7, 7, 7, 7, 7, 7, 7, 7, 7, 7, 7, 7, 7, 7, 7, 7, 7, 7, 7, 7, 7, 7, 7, 7, 7, 7, 7, 7, 7, 7, 7, 7, 7, 7, 7, 7, 7, 7, 7, 7, 7, 7, 7, 7, 7, 7, 8, 8, 8, 8, 8, 8, 8, 8, 8, 8, 8, 8, 8, 8, 8, 8, 8, 8, 8, 8, 8, 8, 8, 8, 8, 8, 8, 8, 8, 8, 8, 8, 8, 8, 8, 8, 8, 8, 8, 8, 8, 8, 8, 8, 8, 8, 8, 8, 8, 8, 8, 8, 8, 8, 8, 8, 8, 8, 8, 8, 8, 8, 8, 8, 8, 8, 8, 8, 8, 8, 8, 8, 8, 8, 8, 8, 8, 8, 8, 8, 8, 8, 8, 8, 8, 8, 8, 8, 8, 8, 8, 8, 8, 8, 8, 8, 8, 8, 8, 8, 8, 8, 8, 8, 8, 8, 8, 8, 8, 8, 8, 8, 8, 8, 8, 8, 8, 8, 8, 8, 8, 8, 8, 8, 8, 8, 8, 8]) = bstr [0, 1, 2, 2, 3, 3, 3, 3, 4, 4, 4, 4, 4, 4, 4, 4, 5, 5, 5, 5, 5, 5, 5, 5, 5, 5, 5, 5, 5, 5, 5, 5, 6, 6, 6, 6, 6, 6, 6, 6, 6, 6, 6, 6, 6, 6, 6, 6, 6, 6, 6, 6, 6, 6, 6, 6, 6, 6, 6, 6, 6, 6, 6, 6, 7, 7, 7, 7, 7, 7, 7, 7, 7, 7, 7, 7, 7, 7, 7, 7, 7, 7, 7, 7, 7, 7, 7, 7, 7, 7, 7, 7, 7, 7, 7, 7, 7, 7, 7, 7, 7, 7, 7, 7, 7, 7, 7, 7, 7, 7, 7, 7, 7, 7, 7, 7, 7, 7, 7, 7, 7, 7, 7, 7, 7, 7, 7, 7, 8, 8, 8, 8, 8, 8, 8, 8, 8, 8, 8, 8, 8, 8, 8, 8, 8, 8, 8, 8, 8, 8, 8, 8, 8, 8, 8, 8, 8, 8, 8, 8, 8, 8, 8, 8, 8, 8, 8, 8, 8, 8, 8, 8, 8, 8, 8, 8, 8, 8, 8, 8, 8, 8, 8, 8, 8, 8, 8, 8, 8, 8, 8, 8, 8, 8, 8, 8, 8, 8, 8, 8, 8, 8, 8, 8, 8, 8, 8, 8, 8, 8, 8, 8, 8, 8, 8, 8, 8, 8, 8, 8, 8, 8, 8, 8, 8, 8, 8, 8, 8, 8, 8, 8, 8, 8, 8, 8, 8, 8, 8, 8, 8, 8, 8, 8, 8, 8, 8, 8, 8, 8, 8, 8, 8, 8, 8, 8] := by kernel_rfl
theorem z_en68 : enters Tryz.prog 68 = true := by kernel_rfl
theorem z_en46 : enters Tryz.prog 46 = true := by kernel_rfl
theorem z_field45_0 : fieldT Tryz.prog 45 0 = some 0 := by kernel_rfl
theorem z_en69 : enters Tryz.prog 69 = true := by kernel_rfl
theorem z_en48 : enters Tryz.prog 48 = true := by kernel_rfl
theorem z_field45_1 : fieldT Tryz.prog 45 1 = some 1 := by kernel_rfl
theorem z_en47 : enters Tryz.prog 47 = true := by kernel_rfl
theorem z_en27 : enters Tryz.prog 27 = true := by kernel_rfl
theorem z_en59 : enters Tryz.prog 59 = true := by kernel_rfl
theorem z_en45 : enters Tryz.prog 45 = true := by kernel_rfl
theorem z_en26 : enters Tryz.prog 26 = true := by kernel_rfl
theorem z_en12 : enters Tryz.prog 12 = true := by kernel_rfl
theorem z_eqg45 : Program.eqGuardType Tryz.prog (Program.depth Tryz.prog) 45 = false := by kernel_rfl
theorem z_en6 : enters Tryz.prog 6 = true := by kernel_rfl
theorem z_en8 : enters Tryz.prog 8 = true := by kernel_rfl
theorem z_struct41 : structT Tryz.prog 41 = some ([.int .i64 0, .int .i64 0, .int .i64 0, .int .i64 0, .int .i64 0, .bool false, .bool false, .int .i64 0, .int .i64 0, .slice none 0 0, .int .i64 0, .int .i64 0], [(0, 1), (1, 1), (2, 1), (3, 1), (4, 1), (5, 1), (6, 1), (7, 1), (8, 1), (9, 1), (10, 1), (11, 1)]) := by kernel_rfl
theorem z_field41_9 : fieldT Tryz.prog 41 9 = some 9 := by kernel_rfl
theorem z_sc39 : isScalar Tryz.prog 39 = true := by kernel_rfl
theorem z_slT39 : slT Tryz.prog 39 = some (68, 2, 16) := by kernel_rfl
theorem z_arr68 : arrP Tryz.prog 68 = some (2, 3, 1) := by kernel_rfl
theorem z_field41_0 : fieldT Tryz.prog 41 0 = some 0 := by kernel_rfl
theorem z_field41_1 : fieldT Tryz.prog 41 1 = some 1 := by kernel_rfl
theorem z_field41_2 : fieldT Tryz.prog 41 2 = some 2 := by kernel_rfl
theorem z_field41_3 : fieldT Tryz.prog 41 3 = some 3 := by kernel_rfl
theorem z_field41_4 : fieldT Tryz.prog 41 4 = some 4 := by kernel_rfl
theorem z_sc4 : isScalar Tryz.prog 4 = true := by kernel_rfl
theorem z_field41_5 : fieldT Tryz.prog 41 5 = some 5 := by kernel_rfl
theorem z_field41_6 : fieldT Tryz.prog 41 6 = some 6 := by kernel_rfl
theorem z_field41_7 : fieldT Tryz.prog 41 7 = some 7 := by kernel_rfl
theorem z_field41_8 : fieldT Tryz.prog 41 8 = some 8 := by kernel_rfl
theorem z_field41_10 : fieldT Tryz.prog 41 10 = some 10 := by kernel_rfl
theorem z_field41_11 : fieldT Tryz.prog 41 11 = some 11 := by kernel_rfl
theorem z_en9 : enters Tryz.prog 9 = true := by kernel_rfl
theorem z_en10 : enters Tryz.prog 10 = true := by kernel_rfl
theorem z_zero24 : zeroT Tryz.prog 24 = some [.slice none 0 0] := by kernel_rfl
theorem z_en11 : enters Tryz.prog 11 = true := by kernel_rfl
theorem z_en13 : enters Tryz.prog 13 = true := by kernel_rfl
theorem z_zero49 : zeroT Tryz.prog 49 = some [.slice none 0 0] := by kernel_rfl
theorem z_sc49 : isScalar Tryz.prog 49 = true := by kernel_rfl
theorem z_str21 : (ByteArray.mk #[99, 111, 110, 116, 101, 115, 116, 101, 100]) = bstr [99, 111, 110, 116, 101, 115, 116, 101, 100] := by kernel_rfl
theorem z_en70 : enters Tryz.prog 70 = true := by kernel_rfl
theorem z_en49 : enters Tryz.prog 49 = true := by kernel_rfl
theorem z_str22 : (ByteArray.mk #[32]) = bstr [32] := by kernel_rfl
theorem z_en28 : enters Tryz.prog 28 = true := by kernel_rfl
theorem z_slT49 : slT Tryz.prog 49 = some (9, 1, 16) := by kernel_rfl
theorem z_zero9 : zeroT Tryz.prog 9 = some [.string (bstr [])] := by kernel_rfl
theorem z_size49 : sizeT Tryz.prog 49 = some 1 := by kernel_rfl
theorem z_en14 : enters Tryz.prog 14 = true := by kernel_rfl
theorem z_en15 : enters Tryz.prog 15 = true := by kernel_rfl
theorem z_en33 : enters Tryz.prog 33 = true := by kernel_rfl
theorem z_en32 : enters Tryz.prog 32 = true := by kernel_rfl
theorem z_agg71 : aggSize Tryz.prog 71 = some 2 := by kernel_rfl
theorem z_zeroV24 : zeroV Tryz.prog 24 = some (.slice none 0 0) := by kernel_rfl
theorem z_en34 : enters Tryz.prog 34 = true := by kernel_rfl
theorem z_en16 : enters Tryz.prog 16 = true := by kernel_rfl
theorem z_size55 : sizeT Tryz.prog 55 = some 1 := by kernel_rfl
theorem z_size39 : sizeT Tryz.prog 39 = some 1 := by kernel_rfl
theorem z_size22 : sizeT Tryz.prog 22 = some 6 := by kernel_rfl
theorem z_size27 : sizeT Tryz.prog 27 = some 1 := by kernel_rfl
theorem z_size54 : sizeT Tryz.prog 54 = some 1 := by kernel_rfl
def z_tyf : TyF := ⟨[(121, .u64), (3, .i64), (5, .u8), (96, .u64)], [(26, 0, 0), (26, 1, 1), (26, 2, 7), (26, 3, 8), (26, 4, 9), (26, 5, 10), (29, 0, 0), (29, 1, 1), (29, 10, 10), (29, 11, 11), (29, 2, 2), (29, 3, 3), (29, 4, 4), (29, 5, 5), (29, 6, 6), (29, 7, 7), (29, 8, 8), (29, 9, 9), (41, 0, 0), (41, 1, 1), (41, 10, 10), (41, 11, 11), (41, 2, 2), (41, 3, 3), (41, 4, 4), (41, 5, 5), (41, 6, 6), (41, 7, 7), (41, 8, 8), (41, 9, 9), (45, 0, 0), (45, 1, 1), (57, 0, 0), (57, 1, 1), (60, 0, 0), (60, 1, 1), (88, 0, 0), (88, 1, 1), (88, 2, 2), (88, 3, 3), (88, 4, 4)], [9], [4], [27], [33]⟩
theorem z_T : TyOk Tryz.prog z_tyf := ⟨(fa_cons Tryz.underlying121 (fa_cons Tryz.underlying3 (fa_cons Tryz.underlying5 (fa_cons Tryz.underlying96 fa_nil)))), (fa_cons z_field26_0 (fa_cons z_field26_1 (fa_cons z_field26_2 (fa_cons z_field26_3 (fa_cons z_field26_4 (fa_cons z_field26_5 (fa_cons z_field29_0 (fa_cons z_field29_1 (fa_cons z_field29_10 (fa_cons z_field29_11 (fa_cons z_field29_2 (fa_cons z_field29_3 (fa_cons z_field29_4 (fa_cons z_field29_5 (fa_cons z_field29_6 (fa_cons z_field29_7 (fa_cons z_field29_8 (fa_cons z_field29_9 (fa_cons z_field41_0 (fa_cons z_field41_1 (fa_cons z_field41_10 (fa_cons z_field41_11 (fa_cons z_field41_2 (fa_cons z_field41_3 (fa_cons z_field41_4 (fa_cons z_field41_5 (fa_cons z_field41_6 (fa_cons z_field41_7 (fa_cons z_field41_8 (fa_cons z_field41_9 (fa_cons z_field45_0 (fa_cons z_field45_1 (fa_cons z_field57_0 (fa_cons z_field57_1 (fa_cons z_field60_0 (fa_cons z_field60_1 (fa_cons z_field88_0 (fa_cons z_field88_1 (fa_cons z_field88_2 (fa_cons z_field88_3 (fa_cons z_field88_4 fa_nil))))))))))))))))))))))))))))))))))))))))), (fa_cons Tryz.underlying9 fa_nil), (fa_cons Tryz.underlying4 fa_nil), (fa_cons ⟨_, Tryz.underlying27⟩ fa_nil), (fa_cons ⟨_, _, _, Tryz.underlying33⟩ fa_nil)⟩
def z_tym : TyM := ⟨[23, 24, 27, 3, 39, 4, 49, 54, 55, 9], [(22, 6), (26, 11), (29, 12), (45, 2), (60, 2), (71, 2), (88, 7)], [(26, [.int .i64 0, .int .i64 0, .int .i64 0, .int .i64 0, .int .i64 0, .int .i64 0, .int .i64 0, .slice none 0 0, .slice none 0 0, .string (bstr []), .string (bstr [])], [(0, 1), (1, 6), (7, 1), (8, 1), (9, 1), (10, 1)]), (29, [.int .i64 0, .int .i64 0, .int .i64 0, .int .i64 0, .int .i64 0, .bool false, .bool false, .int .i64 0, .int .i64 0, .slice none 0 0, .int .i64 0, .int .i64 0], [(0, 1), (1, 1), (2, 1), (3, 1), (4, 1), (5, 1), (6, 1), (7, 1), (8, 1), (9, 1), (10, 1), (11, 1)]), (41, [.int .i64 0, .int .i64 0, .int .i64 0, .int .i64 0, .int .i64 0, .bool false, .bool false, .int .i64 0, .int .i64 0, .slice none 0 0, .int .i64 0, .int .i64 0], [(0, 1), (1, 1), (2, 1), (3, 1), (4, 1), (5, 1), (6, 1), (7, 1), (8, 1), (9, 1), (10, 1), (11, 1)]), (45, [.int .i64 0, .int .i64 0], [(0, 1), (1, 1)]), (71, [.int .i64 0, .int .i64 0], [(0, 1), (1, 1)]), (88, [.string (bstr []), .int .i64 0, .int .i64 0, .int .i64 0, .int .i64 0, .int .i64 0, .int .i64 0], [(0, 1), (1, 1), (2, 1), (3, 1), (4, 1), (5, 1), (6, 1)])], []⟩
theorem z_M : TyMOk Tryz.prog z_tym := ⟨(fa_cons z_sc23 (fa_cons z_sc24 (fa_cons z_sc27 (fa_cons z_sc3 (fa_cons z_sc39 (fa_cons z_sc4 (fa_cons z_sc49 (fa_cons z_sc54 (fa_cons z_sc55 (fa_cons z_sc9 fa_nil)))))))))), (fa_cons z_size23 (fa_cons z_size24 (fa_cons z_size27 (fa_cons z_size3 (fa_cons z_size39 (fa_cons z_size4 (fa_cons z_size49 (fa_cons z_size54 (fa_cons z_size55 (fa_cons z_size9 fa_nil)))))))))), (fa_cons z_agg22 (fa_cons z_agg26 (fa_cons z_agg29 (fa_cons z_agg45 (fa_cons z_agg60 (fa_cons z_agg71 (fa_cons z_agg88 fa_nil))))))), (fa_cons z_size22 (fa_cons z_size26 (fa_cons z_size29 (fa_cons z_size45 (fa_cons z_size60 (fa_cons z_size71 (fa_cons z_size88 fa_nil))))))), (fa_cons z_struct26 (fa_cons z_struct29 (fa_cons z_struct41 (fa_cons z_struct45 (fa_cons z_struct71 (fa_cons z_struct88 fa_nil)))))), fa_nil⟩
theorem Z {n : Nat} {c : Ctx Tryz.prog n} {σ : Sto} {gs : List Grp} (f : Nat) {ρ ρ' : Env} {k k' : List Item} (h : go z_tyf n f ρ k = some (ρ', k')) (hk : St c ρ' σ gs k') : St c ρ σ gs k := st_go z_T f h hk
theorem dA {n : Nat} {c : Ctx Tryz.prog n} {k : List Item} {ops : Array Oper} {dsts : List Nat} {L : List DT} {ρ : Env} {i : Nat} (h : dpv z_tyf n ops dsts L ρ i = dvl L i := by exact rfl) (hs : (dvl L i).isSome = true := by exact rfl) : Core c k ops dsts L ρ i := core_A z_T h hs
theorem dG {n : Nat} {c : Ctx Tryz.prog n} {k : List Item} {ops : Array Oper} {dsts : List Nat} {L : List DT} {ρ : Env} {i : Nat} (ks : List Nat) (h : DGok z_tyf n ops dsts L ρ ks i := by exact ⟨rfl, rfl, rfl⟩) : Core c k ops dsts L ρ i := core_G z_T h
theorem ZZ {n : Nat} {c : Ctx Tryz.prog n} {σ : Sto} (f : Nat) (js : List Nat) {gs gs' : List Grp} {ρ ρ' : Env} {k k' : List Item} {e : List (Nat × Nat)} (h : go2 z_tyf z_tym n f js ρ gs k = some (ρ', gs', k', e)) (he : e.map (·.1) = e.map (·.2)) (hk : St c ρ' σ gs' k') : St c ρ σ gs k := st_go2 z_T z_M f h he hk
end Go.Rel
