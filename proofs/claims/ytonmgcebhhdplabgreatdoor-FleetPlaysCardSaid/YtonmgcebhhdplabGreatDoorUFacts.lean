import Derived.Test.YtonmgcebhhdplabGreatDoorProg
import Derived.Test.YtonmgcebhhdplabGreatDoorEngU
import Derived.KernelRfl
import Derived.Test.YtonmgcebhhdplabGreatDoorEngZ
import Derived.Test.YtonmgcebhhdplabGreatDoorEngZA
import Derived.Test.YtonmgcebhhdplabGreatDoorEngZB
import Derived.Test.YtonmgcebhhdplabGreatDoorEngZD
import Derived.Test.YtonmgcebhhdplabGreatDoorEngZE
import Derived.Test.YtonmgcebhhdplabGreatDoorEngZF
import Derived.Test.YtonmgcebhhdplabGreatDoorMaps
import Derived.Test.YtonmgcebhhdplabGreatDoorShelf
/-! Facts of the program's types and functions. -/
namespace Go.Rel
open Go Go.Eng Go.Proofs Go.Proofs.Tryz
open Go.IntKind (i64 u8 u16 u32 u64)
theorem z_struct76 : structT prog 76 = some ([.map none, .map none], [(0, 1), (1, 1)]) := by kernel_rfl
theorem z_en5 : enters prog 5 = true := by kernel_rfl
theorem z_zero28 : zeroT prog 28 = some [.slice none 0 0, .slice none 0 0] := by kernel_rfl
theorem z_slT22 : slT prog 22 = some (35, 15, 168) := by kernel_rfl
theorem z_agg35 : aggSize prog 35 = some 15 := by kernel_rfl
theorem z_zero35 : zeroT prog 35 = some [.int .i64 0, .int .i64 0, .int .i64 0, .int .i64 0, .int .i64 0, .int .i64 0, .int .i64 0, .int .i64 0, .int .i64 0, .int .i64 0, .int .i64 0, .slice none 0 0, .slice none 0 0, .string (bstr []), .string (bstr [])] := by kernel_rfl
theorem z_size35 : sizeT prog 35 = some 15 := by kernel_rfl
theorem z_field35_4 : fieldT prog 35 4 = some 4 := by kernel_rfl
theorem z_agg33 : aggSize prog 33 = some 11 := by kernel_rfl
theorem z_zero33 : zeroT prog 33 = some [.int .i64 0, .int .i64 0, .int .i64 0, .int .i64 0, .int .i64 0, .int .i64 0, .int .i64 0, .slice none 0 0, .slice none 0 0, .string (bstr []), .string (bstr [])] := by kernel_rfl
theorem z_field33_2 : fieldT prog 33 2 = some 7 := by kernel_rfl
theorem z_sc30 : isScalar prog 30 = true := by kernel_rfl
theorem z_slT30 : slT prog 30 = some (82, 2, 16) := by kernel_rfl
theorem z_field33_3 : fieldT prog 33 3 = some 8 := by kernel_rfl
theorem z_sc31 : isScalar prog 31 = true := by kernel_rfl
theorem z_slT31 : slT prog 31 = some (3, 1, 8) := by kernel_rfl
theorem z_size30 : sizeT prog 30 = some 1 := by kernel_rfl
theorem z_mix : prog.follows .mixedOrders = true := by kernel_rfl
theorem z_size31 : sizeT prog 31 = some 1 := by kernel_rfl
theorem z_field33_4 : fieldT prog 33 4 = some 9 := by kernel_rfl
theorem z_sc9 : isScalar prog 9 = true := by kernel_rfl
theorem z_field33_5 : fieldT prog 33 5 = some 10 := by kernel_rfl
theorem z_size9 : sizeT prog 9 = some 1 := by kernel_rfl
theorem z_size33 : sizeT prog 33 = some 11 := by kernel_rfl
theorem z_en6 : enters prog 6 = true := by kernel_rfl
theorem z_field35_0 : fieldT prog 35 0 = some 0 := by kernel_rfl
theorem z_sc3 : isScalar prog 3 = true := by kernel_rfl
theorem z_agg28 : aggSize prog 28 = some 2 := by kernel_rfl
theorem z_zero41 : zeroT prog 41 = some [.int .i64 0, .int .i64 0, .int .i64 0, .int .i64 0, .int .i64 0, .int .i64 0, .int .i64 0, .slice none 0 0, .slice none 0 0, .string (bstr []), .string (bstr [])] := by kernel_rfl
theorem z_field33_0 : fieldT prog 33 0 = some 0 := by kernel_rfl
theorem z_field33_1 : fieldT prog 33 1 = some 1 := by kernel_rfl
theorem z_agg29 : aggSize prog 29 = some 6 := by kernel_rfl
theorem z_struct41 : structT prog 41 = some ([.int .i64 0, .int .i64 0, .int .i64 0, .int .i64 0, .int .i64 0, .int .i64 0, .int .i64 0, .slice none 0 0, .slice none 0 0, .string (bstr []), .string (bstr [])], [(0, 1), (1, 6), (7, 1), (8, 1), (9, 1), (10, 1)]) := by kernel_rfl
theorem z_size41 : sizeT prog 41 = some 11 := by kernel_rfl
theorem z_field41_2 : fieldT prog 41 2 = some 7 := by kernel_rfl
theorem z_sc39 : isScalar prog 39 = true := by kernel_rfl
theorem z_field82_0 : fieldT prog 82 0 = some 0 := by kernel_rfl
theorem z_field82_1 : fieldT prog 82 1 = some 1 := by kernel_rfl
theorem z_arrz83 : arrT prog 83 = some ([.int .i64 0, .int .i64 0], 1) := by kernel_rfl
theorem z_slT39 : slT prog 39 = some (83, 2, 16) := by kernel_rfl
theorem z_zero83 : zeroT prog 83 = some [.int .i64 0, .int .i64 0] := by kernel_rfl
theorem z_size39 : sizeT prog 39 = some 1 := by kernel_rfl
theorem z_agg41 : aggSize prog 41 = some 11 := by kernel_rfl
theorem z_en8 : enters prog 8 = true := by kernel_rfl
theorem z_field41_0 : fieldT prog 41 0 = some 0 := by kernel_rfl
theorem z_slT109 : slT prog 109 = some (114, 7, 64) := by kernel_rfl
theorem z_zero114 : zeroT prog 114 = some [.string (bstr []), .int .i64 0, .int .i64 0, .int .i64 0, .int .i64 0, .int .i64 0, .int .i64 0] := by kernel_rfl
theorem z_str0 : (ByteArray.mk #[114, 111, 98, 111, 116]) = bstr [114, 111, 98, 111, 116] := by kernel_rfl
theorem z_struct114 : structT prog 114 = some ([.string (bstr []), .int .i64 0, .int .i64 0, .int .i64 0, .int .i64 0, .int .i64 0, .int .i64 0], [(0, 1), (1, 1), (2, 1), (3, 1), (4, 1), (5, 1), (6, 1)]) := by kernel_rfl
theorem z_str1 : (ByteArray.mk #[115, 112, 101, 101, 100]) = bstr [115, 112, 101, 101, 100] := by kernel_rfl
theorem z_str2 : (ByteArray.mk #[97, 99, 99, 101, 108]) = bstr [97, 99, 99, 101, 108] := by kernel_rfl
theorem z_str3 : (ByteArray.mk #[112, 97, 116, 104]) = bstr [112, 97, 116, 104] := by kernel_rfl
theorem z_str4 : (ByteArray.mk #[116, 97, 103]) = bstr [116, 97, 103] := by kernel_rfl
theorem z_str5 : (ByteArray.mk #[114, 101, 97, 115, 111, 110]) = bstr [114, 101, 97, 115, 111, 110] := by kernel_rfl
theorem z_str6 : (ByteArray.mk #[122, 111, 110, 101]) = bstr [122, 111, 110, 101] := by kernel_rfl
theorem z_str7 : (ByteArray.mk #[108, 101, 97, 115, 101]) = bstr [108, 101, 97, 115, 101] := by kernel_rfl
theorem z_str8 : (ByteArray.mk #[99, 101, 108, 108, 115]) = bstr [99, 101, 108, 108, 115] := by kernel_rfl
theorem z_str9 : (ByteArray.mk #[120]) = bstr [120] := by kernel_rfl
theorem z_str10 : (ByteArray.mk #[121]) = bstr [121] := by kernel_rfl
theorem z_str11 : (ByteArray.mk #[104, 101, 97, 100, 105, 110, 103]) = bstr [104, 101, 97, 100, 105, 110, 103] := by kernel_rfl
theorem z_str12 : (ByteArray.mk #[98, 97, 116, 116, 101, 114, 121]) = bstr [98, 97, 116, 116, 101, 114, 121] := by kernel_rfl
theorem z_str13 : (ByteArray.mk #[115, 117, 114, 101]) = bstr [115, 117, 114, 101] := by kernel_rfl
theorem z_str14 : (ByteArray.mk #[99, 111, 100, 101]) = bstr [99, 111, 100, 101] := by kernel_rfl
theorem z_str15 : (ByteArray.mk #[115, 101, 118, 101, 114, 105, 116, 121]) = bstr [115, 101, 118, 101, 114, 105, 116, 121] := by kernel_rfl
theorem z_str16 : (ByteArray.mk #[112, 97, 114, 116]) = bstr [112, 97, 114, 116] := by kernel_rfl
theorem z_str17 : (ByteArray.mk #[116, 105, 109, 101, 115]) = bstr [116, 105, 109, 101, 115] := by kernel_rfl
theorem z_str18 : (ByteArray.mk #[116, 101, 120, 116]) = bstr [116, 101, 120, 116] := by kernel_rfl
theorem z_agg114 : aggSize prog 114 = some 7 := by kernel_rfl
theorem z_size114 : sizeT prog 114 = some 7 := by kernel_rfl
theorem z_field114_2 : fieldT prog 114 2 = some 2 := by kernel_rfl
theorem z_size3 : sizeT prog 3 = some 1 := by kernel_rfl
theorem z_field114_1 : fieldT prog 114 1 = some 1 := by kernel_rfl
theorem z_en52 : enters prog 52 = true := by kernel_rfl
theorem z_zero111 : zeroT prog 111 = some [.bool false, .bool false, .bool false, .bool false, .bool false, .bool false, .bool false] := by kernel_rfl
theorem z_zero112 : zeroT prog 112 = some [.bool false, .bool false, .bool false, .bool false, .bool false, .bool false] := by kernel_rfl
theorem z_arr111 : arrP prog 111 = some (7, 4, 1) := by kernel_rfl
theorem z_size4 : sizeT prog 4 = some 1 := by kernel_rfl
theorem z_arr83 : arrP prog 83 = some (2, 3, 1) := by kernel_rfl
theorem z_en53 : enters prog 53 = true := by kernel_rfl
theorem z_field41_3 : fieldT prog 41 3 = some 8 := by kernel_rfl
theorem z_en54 : enters prog 54 = true := by kernel_rfl
theorem z_field41_4 : fieldT prog 41 4 = some 9 := by kernel_rfl
theorem z_en55 : enters prog 55 = true := by kernel_rfl
theorem z_field41_5 : fieldT prog 41 5 = some 10 := by kernel_rfl
theorem z_arr112 : arrP prog 112 = some (6, 4, 1) := by kernel_rfl
theorem z_field41_1 : fieldT prog 41 1 = some 1 := by kernel_rfl
theorem z_arr29 : arrP prog 29 = some (6, 3, 1) := by kernel_rfl
theorem z_field114_3 : fieldT prog 114 3 = some 3 := by kernel_rfl
theorem z_field114_4 : fieldT prog 114 4 = some 4 := by kernel_rfl
theorem z_sc4 : isScalar prog 4 = true := by kernel_rfl
theorem z_str19 : (ByteArray.mk #[]) = bstr [] := by kernel_rfl
theorem z_en28 : enters prog 28 = true := by kernel_rfl
theorem z_size28 : sizeT prog 28 = some 2 := by kernel_rfl
theorem z_slT25 : slT prog 25 = some (41, 11, 136) := by kernel_rfl
theorem z_field28_0 : fieldT prog 28 0 = some 0 := by kernel_rfl
theorem z_sc25 : isScalar prog 25 = true := by kernel_rfl
theorem z_size25 : sizeT prog 25 = some 1 := by kernel_rfl
theorem z_struct80 : structT prog 80 = some ([.int .i64 0, .int .i64 0, .slice none 0 0], [(0, 1), (1, 1), (2, 1)]) := by kernel_rfl
theorem z_field28_1 : fieldT prog 28 1 = some 1 := by kernel_rfl
theorem z_sc26 : isScalar prog 26 = true := by kernel_rfl
theorem z_slT26 : slT prog 26 = some (80, 3, 40) := by kernel_rfl
theorem z_field80_0 : fieldT prog 80 0 = some 0 := by kernel_rfl
theorem z_field80_1 : fieldT prog 80 1 = some 1 := by kernel_rfl
theorem z_agg80 : aggSize prog 80 = some 3 := by kernel_rfl
theorem z_zero80 : zeroT prog 80 = some [.int .i64 0, .int .i64 0, .slice none 0 0] := by kernel_rfl
theorem z_field80_2 : fieldT prog 80 2 = some 2 := by kernel_rfl
theorem z_size26 : sizeT prog 26 = some 1 := by kernel_rfl
theorem z_en29 : enters prog 29 = true := by kernel_rfl
theorem z_en7 : enters prog 7 = true := by kernel_rfl
theorem z_slT84 : slT prog 84 = some (33, 11, 136) := by kernel_rfl
theorem z_zero120 : zeroT prog 120 = some [.string (bstr []), .int .i64 0, .int .i64 0, .int .i64 0, .int .i64 0, .int .i64 0, .int .i64 0] := by kernel_rfl
theorem z_struct120 : structT prog 120 = some ([.string (bstr []), .int .i64 0, .int .i64 0, .int .i64 0, .int .i64 0, .int .i64 0, .int .i64 0], [(0, 1), (1, 1), (2, 1), (3, 1), (4, 1), (5, 1), (6, 1)]) := by kernel_rfl
theorem z_size120 : sizeT prog 120 = some 7 := by kernel_rfl
theorem z_agg120 : aggSize prog 120 = some 7 := by kernel_rfl
theorem z_en74 : enters prog 74 = true := by kernel_rfl
theorem z_slT118 : slT prog 118 = some (120, 7, 64) := by kernel_rfl
theorem z_en56 : enters prog 56 = true := by kernel_rfl
theorem z_field120_1 : fieldT prog 120 1 = some 1 := by kernel_rfl
theorem z_field120_3 : fieldT prog 120 3 = some 3 := by kernel_rfl
theorem z_field120_4 : fieldT prog 120 4 = some 4 := by kernel_rfl
theorem z_en94 : enters prog 94 = true := by kernel_rfl
theorem z_agg82 : aggSize prog 82 = some 2 := by kernel_rfl
theorem z_zero82 : zeroT prog 82 = some [.int .i64 0, .int .i64 0] := by kernel_rfl
theorem z_size82 : sizeT prog 82 = some 2 := by kernel_rfl
theorem z_en75 : enters prog 75 = true := by kernel_rfl
theorem z_en76 : enters prog 76 = true := by kernel_rfl
theorem z_slT158 : slT prog 158 = some (5, 1, 1) := by kernel_rfl
theorem z_sc5 : isScalar prog 5 = true := by kernel_rfl
theorem z_en77 : enters prog 77 = true := by kernel_rfl
theorem z_field120_2 : fieldT prog 120 2 = some 2 := by kernel_rfl
theorem z_en57 : enters prog 57 = true := by kernel_rfl
theorem z_en58 : enters prog 58 = true := by kernel_rfl
theorem z_struct33 : structT prog 33 = some ([.int .i64 0, .int .i64 0, .int .i64 0, .int .i64 0, .int .i64 0, .int .i64 0, .int .i64 0, .slice none 0 0, .slice none 0 0, .string (bstr []), .string (bstr [])], [(0, 1), (1, 6), (7, 1), (8, 1), (9, 1), (10, 1)]) := by kernel_rfl
theorem z_info3 : (prog.info? 3).isSome = true := by kernel_rfl
theorem z_cell3 : Program.cellsOf prog 3 = 1 := by kernel_rfl
theorem z_eqg29 : Program.eqGuardType prog (Program.depth prog) 29 = false := by kernel_rfl
theorem z_held82 : Program.stoodInHeld prog 82 = false := by kernel_rfl
theorem z_eqg82 : Program.eqGuardType prog (Program.depth prog) 82 = false := by kernel_rfl
theorem z_en64 : enters prog 64 = true := by kernel_rfl
theorem z_en40 : enters prog 40 = true := by kernel_rfl
theorem z_en59 : enters prog 59 = true := by kernel_rfl
theorem z_en30 : enters prog 30 = true := by kernel_rfl
theorem z_field120_0 : fieldT prog 120 0 = some 0 := by kernel_rfl
theorem z_held120 : Program.stoodInHeld prog 120 = false := by kernel_rfl
theorem z_eqg120 : Program.eqGuardType prog (Program.depth prog) 120 = false := by kernel_rfl
theorem z_en95 : enters prog 95 = true := by kernel_rfl
theorem z_en78 : enters prog 78 = true := by kernel_rfl
theorem z_en60 : enters prog 60 = true := by kernel_rfl
theorem z_field76_0 : fieldT prog 76 0 = some 0 := by kernel_rfl
theorem z_sc73 : isScalar prog 73 = true := by kernel_rfl
theorem z_map73 : mapT prog 73 = some (3, 49) := by kernel_rfl
theorem z_zeroV49 : zeroV prog 49 = some (.agg [.int .i64 0, .int .i64 0, .int .i64 0, .int .i64 0, .int .i64 0, .bool false, .bool false, .int .i64 0, .int .i64 0, .slice none 0 0, .int .i64 0, .int .i64 0].toArray) := by kernel_rfl
theorem z_zero49 : zeroT prog 49 = some [.int .i64 0, .int .i64 0, .int .i64 0, .int .i64 0, .int .i64 0, .bool false, .bool false, .int .i64 0, .int .i64 0, .slice none 0 0, .int .i64 0, .int .i64 0] := by kernel_rfl
theorem z_size49 : sizeT prog 49 = some 12 := by kernel_rfl
theorem z_field49_6 : fieldT prog 49 6 = some 6 := by kernel_rfl
theorem z_field49_7 : fieldT prog 49 7 = some 7 := by kernel_rfl
theorem z_field49_8 : fieldT prog 49 8 = some 8 := by kernel_rfl
theorem z_en41 : enters prog 41 = true := by kernel_rfl
theorem z_field49_9 : fieldT prog 49 9 = some 9 := by kernel_rfl
theorem z_field76_1 : fieldT prog 76 1 = some 1 := by kernel_rfl
theorem z_sc74 : isScalar prog 74 = true := by kernel_rfl
theorem z_struct89 : structT prog 89 = some ([.int .i64 0, .int .i64 0], [(0, 1), (1, 1)]) := by kernel_rfl
theorem z_zero3 : zeroT prog 3 = some [.int .i64 0] := by kernel_rfl
theorem z_en42 : enters prog 42 = true := by kernel_rfl
theorem z_held89 : Program.stoodInHeld prog 89 = false := by kernel_rfl
theorem z_keyP89 : KeyOk prog 89 kPr := keyP underlying89 z_held89 (by decide) (by decide) rfl rfl z_sc3 z_sc3 underlying3 underlying3
theorem z_map74 : mapT prog 74 = some (89, 31) := by kernel_rfl
theorem z_field49_0 : fieldT prog 49 0 = some 0 := by kernel_rfl
theorem z_field49_1 : fieldT prog 49 1 = some 1 := by kernel_rfl
theorem z_field49_2 : fieldT prog 49 2 = some 2 := by kernel_rfl
theorem z_field49_3 : fieldT prog 49 3 = some 3 := by kernel_rfl
theorem z_field49_4 : fieldT prog 49 4 = some 4 := by kernel_rfl
theorem z_field49_5 : fieldT prog 49 5 = some 5 := by kernel_rfl
theorem z_field49_10 : fieldT prog 49 10 = some 10 := by kernel_rfl
theorem z_field49_11 : fieldT prog 49 11 = some 11 := by kernel_rfl
theorem z_agg49 : aggSize prog 49 = some 12 := by kernel_rfl
theorem z_en31 : enters prog 31 = true := by kernel_rfl
theorem z_en9 : enters prog 9 = true := by kernel_rfl
theorem z_field35_1 : fieldT prog 35 1 = some 1 := by kernel_rfl
theorem z_field35_2 : fieldT prog 35 2 = some 2 := by kernel_rfl
theorem z_en21 : enters prog 21 = true := by kernel_rfl
theorem z_en10 : enters prog 10 = true := by kernel_rfl
theorem z_zero89 : zeroT prog 89 = some [.int .i64 0, .int .i64 0] := by kernel_rfl
theorem z_size89 : sizeT prog 89 = some 2 := by kernel_rfl
theorem z_agg89 : aggSize prog 89 = some 2 := by kernel_rfl
theorem z_zeroV31 : zeroV prog 31 = some (.slice none 0 0) := by kernel_rfl
theorem z_en11 : enters prog 11 = true := by kernel_rfl
theorem z_en12 : enters prog 12 = true := by kernel_rfl
theorem z_en16 : enters prog 16 = true := by kernel_rfl
theorem z_zero31 : zeroT prog 31 = some [.slice none 0 0] := by kernel_rfl
theorem z_zero4 : zeroT prog 4 = some [.bool false] := by kernel_rfl
theorem z_sc23 : isScalar prog 23 = true := by kernel_rfl
theorem z_en47 : enters prog 47 = true := by kernel_rfl
theorem z_en46 : enters prog 46 = true := by kernel_rfl
theorem z_en45 : enters prog 45 = true := by kernel_rfl
theorem z_en25 : enters prog 25 = true := by kernel_rfl
theorem z_en15 : enters prog 15 = true := by kernel_rfl
theorem z_zero55 : zeroT prog 55 = some [.int .i64 0, .int .i64 0, .int .i64 0, .int .i64 0, .int .i64 0, .bool false, .bool false, .int .i64 0, .int .i64 0, .slice none 0 0, .int .i64 0, .int .i64 0] := by kernel_rfl
theorem z_field55_6 : fieldT prog 55 6 = some 6 := by kernel_rfl
theorem z_field55_7 : fieldT prog 55 7 = some 7 := by kernel_rfl
theorem z_field55_8 : fieldT prog 55 8 = some 8 := by kernel_rfl
theorem z_field55_9 : fieldT prog 55 9 = some 9 := by kernel_rfl
theorem z_field55_0 : fieldT prog 55 0 = some 0 := by kernel_rfl
theorem z_field55_1 : fieldT prog 55 1 = some 1 := by kernel_rfl
theorem z_field55_2 : fieldT prog 55 2 = some 2 := by kernel_rfl
theorem z_field55_3 : fieldT prog 55 3 = some 3 := by kernel_rfl
theorem z_field55_4 : fieldT prog 55 4 = some 4 := by kernel_rfl
theorem z_field55_5 : fieldT prog 55 5 = some 5 := by kernel_rfl
theorem z_field55_10 : fieldT prog 55 10 = some 10 := by kernel_rfl
theorem z_field55_11 : fieldT prog 55 11 = some 11 := by kernel_rfl
theorem z_agg55 : aggSize prog 55 = some 12 := by kernel_rfl
theorem z_size55 : sizeT prog 55 = some 12 := by kernel_rfl
theorem z_en18 : enters prog 18 = true := by kernel_rfl
theorem z_en17 : enters prog 17 = true := by kernel_rfl
theorem z_size83 : sizeT prog 83 = some 2 := by kernel_rfl
theorem z_en44 : enters prog 44 = true := by kernel_rfl
theorem z_en23 : enters prog 23 = true := by kernel_rfl
theorem z_agg83 : aggSize prog 83 = some 2 := by kernel_rfl
theorem z_eqg83 : Program.eqGuardType prog (Program.depth prog) 83 = false := by kernel_rfl
theorem z_en34 : enters prog 34 = true := by kernel_rfl
theorem z_map104 : mapT prog 104 = some (62, 3) := by kernel_rfl
theorem z_held62 : Program.stoodInHeld prog 62 = false := by kernel_rfl
theorem z_keyP62 : KeyOk prog 62 kPr := keyP underlying62 z_held62 (by decide) (by decide) rfl rfl z_sc3 z_sc3 underlying3 underlying3
theorem z_zeroV3 : zeroV prog 3 = some (.int .i64 0) := by kernel_rfl
theorem z_field89_1 : fieldT prog 89 1 = some 1 := by kernel_rfl
theorem z_struct62 : structT prog 62 = some ([.int .i64 0, .int .i64 0], [(0, 1), (1, 1)]) := by kernel_rfl
theorem z_zero62 : zeroT prog 62 = some [.int .i64 0, .int .i64 0] := by kernel_rfl
theorem z_size62 : sizeT prog 62 = some 2 := by kernel_rfl
theorem z_agg62 : aggSize prog 62 = some 2 := by kernel_rfl
theorem z_slT68 : slT prog 68 = some (62, 2, 16) := by kernel_rfl
theorem z_en48 : enters prog 48 = true := by kernel_rfl
theorem z_en26 : enters prog 26 = true := by kernel_rfl
theorem z_zero70 : zeroT prog 70 = some [.slice none 0 0] := by kernel_rfl
theorem z_en93 : enters prog 93 = true := by kernel_rfl
theorem z_en73 : enters prog 73 = true := by kernel_rfl
theorem z_str20 : (ByteArray.mk #[32]) = bstr [32] := by kernel_rfl
theorem z_en50 : enters prog 50 = true := by kernel_rfl
theorem z_str21 : (ByteArray.mk #[32, 97, 116]) = bstr [32, 97, 116] := by kernel_rfl
theorem z_str22 : (ByteArray.mk #[32, 104, 101, 108, 100]) = bstr [32, 104, 101, 108, 100] := by kernel_rfl
theorem z_sc70 : isScalar prog 70 = true := by kernel_rfl
theorem z_str23 : (ByteArray.mk #[32, 112, 97, 116, 104]) = bstr [32, 112, 97, 116, 104] := by kernel_rfl
theorem z_str24 : (ByteArray.mk #[32, 102, 97, 117, 108, 116, 115]) = bstr [32, 102, 97, 117, 108, 116, 115] := by kernel_rfl
theorem z_slT70 : slT prog 70 = some (9, 1, 16) := by kernel_rfl
theorem z_zero9 : zeroT prog 9 = some [.string (bstr [])] := by kernel_rfl
theorem z_size70 : sizeT prog 70 = some 1 := by kernel_rfl
theorem z_field89_0 : fieldT prog 89 0 = some 0 := by kernel_rfl
theorem z_en67 : enters prog 67 = true := by kernel_rfl
theorem z_en51 : enters prog 51 = true := by kernel_rfl
theorem z_en20 : enters prog 20 = true := by kernel_rfl
theorem z_str25 : (ByteArray.mk #[103, 114, 97, 110, 116]) = bstr [103, 114, 97, 110, 116] := by kernel_rfl
theorem z_field62_0 : fieldT prog 62 0 = some 0 := by kernel_rfl
theorem z_field62_1 : fieldT prog 62 1 = some 1 := by kernel_rfl
theorem z_str26 : (ByteArray.mk #[99, 111, 110, 116, 101, 115, 116, 101, 100]) = bstr [99, 111, 110, 116, 101, 115, 116, 101, 100] := by kernel_rfl
theorem z_en27 : enters prog 27 = true := by kernel_rfl
theorem z_zero5 : zeroT prog 5 = some [.int .u8 0] := by kernel_rfl
theorem z_str27 : (ByteArray.mk #[45]) = bstr [45] := by kernel_rfl
theorem z_en79 : enters prog 79 = true := by kernel_rfl
theorem z_en62 : enters prog 62 = true := by kernel_rfl
theorem z_en63 : enters prog 63 = true := by kernel_rfl
theorem z_en36 : enters prog 36 = true := by kernel_rfl
theorem z_en35 : enters prog 35 = true := by kernel_rfl
theorem z_en65 : enters prog 65 = true := by kernel_rfl
theorem z_en43 : enters prog 43 = true := by kernel_rfl
theorem z_en22 : enters prog 22 = true := by kernel_rfl
theorem z_en19 : enters prog 19 = true := by kernel_rfl
theorem z_en13 : enters prog 13 = true := by kernel_rfl
theorem z_en38 : enters prog 38 = true := by kernel_rfl
theorem z_en37 : enters prog 37 = true := by kernel_rfl
theorem z_en39 : enters prog 39 = true := by kernel_rfl
theorem z_en14 : enters prog 14 = true := by kernel_rfl
theorem z_field35_3 : fieldT prog 35 3 = some 3 := by kernel_rfl
theorem z_arrz29 : arrT prog 29 = some ([.int .i64 0, .int .i64 0, .int .i64 0, .int .i64 0, .int .i64 0, .int .i64 0], 1) := by kernel_rfl
theorem z_eqg62 : Program.eqGuardType prog (Program.depth prog) 62 = false := by kernel_rfl
theorem z_en24 : enters prog 24 = true := by kernel_rfl
theorem z_size80 : sizeT prog 80 = some 3 := by kernel_rfl
theorem z_size23 : sizeT prog 23 = some 1 := by kernel_rfl
theorem z_size74 : sizeT prog 74 = some 1 := by kernel_rfl
theorem z_size29 : sizeT prog 29 = some 6 := by kernel_rfl
theorem z_size73 : sizeT prog 73 = some 1 := by kernel_rfl
def z_tyf : TyF := ⟨[(3, .i64), (5, .u8)], [(114, 1, 1), (114, 2, 2), (120, 0, 0), (120, 1, 1), (120, 2, 2), (120, 3, 3), (120, 4, 4), (28, 0, 0), (28, 1, 1), (33, 0, 0), (33, 1, 1), (33, 2, 7), (33, 3, 8), (33, 4, 9), (33, 5, 10), (35, 0, 0), (35, 1, 1), (35, 2, 2), (35, 3, 3), (35, 4, 4), (41, 0, 0), (41, 1, 1), (41, 2, 7), (41, 3, 8), (41, 4, 9), (41, 5, 10), (49, 0, 0), (49, 1, 1), (49, 10, 10), (49, 11, 11), (49, 2, 2), (49, 3, 3), (49, 4, 4), (49, 5, 5), (49, 6, 6), (49, 7, 7), (49, 8, 8), (49, 9, 9), (55, 0, 0), (55, 1, 1), (55, 10, 10), (55, 11, 11), (55, 2, 2), (55, 3, 3), (55, 4, 4), (55, 5, 5), (55, 6, 6), (55, 7, 7), (55, 8, 8), (55, 9, 9), (62, 0, 0), (62, 1, 1), (76, 0, 0), (76, 1, 1), (80, 0, 0), (80, 1, 1), (80, 2, 2), (82, 0, 0), (82, 1, 1), (89, 0, 0), (89, 1, 1)], [9], [4], [23], [66]⟩
theorem z_T : TyOk prog z_tyf := ⟨(fa_cons underlying3 (fa_cons underlying5 fa_nil)), (fa_cons z_field114_1 (fa_cons z_field114_2 (fa_cons z_field120_0 (fa_cons z_field120_1 (fa_cons z_field120_2 (fa_cons z_field120_3 (fa_cons z_field120_4 (fa_cons z_field28_0 (fa_cons z_field28_1 (fa_cons z_field33_0 (fa_cons z_field33_1 (fa_cons z_field33_2 (fa_cons z_field33_3 (fa_cons z_field33_4 (fa_cons z_field33_5 (fa_cons z_field35_0 (fa_cons z_field35_1 (fa_cons z_field35_2 (fa_cons z_field35_3 (fa_cons z_field35_4 (fa_cons z_field41_0 (fa_cons z_field41_1 (fa_cons z_field41_2 (fa_cons z_field41_3 (fa_cons z_field41_4 (fa_cons z_field41_5 (fa_cons z_field49_0 (fa_cons z_field49_1 (fa_cons z_field49_10 (fa_cons z_field49_11 (fa_cons z_field49_2 (fa_cons z_field49_3 (fa_cons z_field49_4 (fa_cons z_field49_5 (fa_cons z_field49_6 (fa_cons z_field49_7 (fa_cons z_field49_8 (fa_cons z_field49_9 (fa_cons z_field55_0 (fa_cons z_field55_1 (fa_cons z_field55_10 (fa_cons z_field55_11 (fa_cons z_field55_2 (fa_cons z_field55_3 (fa_cons z_field55_4 (fa_cons z_field55_5 (fa_cons z_field55_6 (fa_cons z_field55_7 (fa_cons z_field55_8 (fa_cons z_field55_9 (fa_cons z_field62_0 (fa_cons z_field62_1 (fa_cons z_field76_0 (fa_cons z_field76_1 (fa_cons z_field80_0 (fa_cons z_field80_1 (fa_cons z_field80_2 (fa_cons z_field82_0 (fa_cons z_field82_1 (fa_cons z_field89_0 (fa_cons z_field89_1 fa_nil))))))))))))))))))))))))))))))))))))))))))))))))))))))))))))), (fa_cons underlying9 fa_nil), (fa_cons underlying4 fa_nil), (fa_cons ⟨_, underlying23⟩ fa_nil), (fa_cons ⟨_, _, _, underlying66⟩ fa_nil)⟩
def z_tym : TyM := ⟨[23, 25, 26, 3, 30, 31, 39, 4, 70, 73, 74, 9], [(114, 7), (120, 7), (28, 2), (29, 6), (33, 11), (41, 11), (49, 12), (55, 12), (62, 2), (80, 3), (82, 2), (83, 2), (89, 2)], [(120, [.string (bstr []), .int .i64 0, .int .i64 0, .int .i64 0, .int .i64 0, .int .i64 0, .int .i64 0], [(0, 1), (1, 1), (2, 1), (3, 1), (4, 1), (5, 1), (6, 1)]), (33, [.int .i64 0, .int .i64 0, .int .i64 0, .int .i64 0, .int .i64 0, .int .i64 0, .int .i64 0, .slice none 0 0, .slice none 0 0, .string (bstr []), .string (bstr [])], [(0, 1), (1, 6), (7, 1), (8, 1), (9, 1), (10, 1)]), (62, [.int .i64 0, .int .i64 0], [(0, 1), (1, 1)]), (80, [.int .i64 0, .int .i64 0, .slice none 0 0], [(0, 1), (1, 1), (2, 1)]), (89, [.int .i64 0, .int .i64 0], [(0, 1), (1, 1)])], []⟩
theorem z_M : TyMOk prog z_tym := ⟨(fa_cons z_sc23 (fa_cons z_sc25 (fa_cons z_sc26 (fa_cons z_sc3 (fa_cons z_sc30 (fa_cons z_sc31 (fa_cons z_sc39 (fa_cons z_sc4 (fa_cons z_sc70 (fa_cons z_sc73 (fa_cons z_sc74 (fa_cons z_sc9 fa_nil)))))))))))), (fa_cons z_size23 (fa_cons z_size25 (fa_cons z_size26 (fa_cons z_size3 (fa_cons z_size30 (fa_cons z_size31 (fa_cons z_size39 (fa_cons z_size4 (fa_cons z_size70 (fa_cons z_size73 (fa_cons z_size74 (fa_cons z_size9 fa_nil)))))))))))), (fa_cons z_agg114 (fa_cons z_agg120 (fa_cons z_agg28 (fa_cons z_agg29 (fa_cons z_agg33 (fa_cons z_agg41 (fa_cons z_agg49 (fa_cons z_agg55 (fa_cons z_agg62 (fa_cons z_agg80 (fa_cons z_agg82 (fa_cons z_agg83 (fa_cons z_agg89 fa_nil))))))))))))), (fa_cons z_size114 (fa_cons z_size120 (fa_cons z_size28 (fa_cons z_size29 (fa_cons z_size33 (fa_cons z_size41 (fa_cons z_size49 (fa_cons z_size55 (fa_cons z_size62 (fa_cons z_size80 (fa_cons z_size82 (fa_cons z_size83 (fa_cons z_size89 fa_nil))))))))))))), (fa_cons z_struct120 (fa_cons z_struct33 (fa_cons z_struct62 (fa_cons z_struct80 (fa_cons z_struct89 fa_nil))))), fa_nil⟩
theorem Z {n : Nat} {c : Ctx prog n} {σ : Sto} {gs : List Grp} (f : Nat) {ρ ρ' : Env} {k k' : List Item} (hk : St c ρ' σ gs k') (h : go z_tyf n f ρ k = some (ρ', k') := by exact rfl) : St c ρ σ gs k := st_go z_T f h hk
theorem dA {n : Nat} {c : Ctx prog n} {k : List Item} {ops : Array Oper} {dsts : List Nat} {L : List DT} {ρ : Env} {i : Nat} (h : dpv z_tyf n ops dsts L ρ i = dvl L i := by exact rfl) (hs : (dvl L i).isSome = true := by exact rfl) : Core c k ops dsts L ρ i := core_A z_T h hs
theorem dG {n : Nat} {c : Ctx prog n} {k : List Item} {ops : Array Oper} {dsts : List Nat} {L : List DT} {ρ : Env} {i : Nat} (ks : List Nat) (h : DGok z_tyf n ops dsts L ρ ks i := by exact ⟨rfl, rfl, rfl⟩) : Core c k ops dsts L ρ i := core_G z_T h
theorem ZZ {n : Nat} {c : Ctx prog n} {σ : Sto} (f : Nat) (js : List Nat) {gs gs' : List Grp} {ρ ρ' : Env} {k k' : List Item} {e : List (Nat × Nat)} (hk : St c ρ' σ gs' k') (h : go2 z_tyf z_tym n f js ρ gs k = some (ρ', gs', k', e) := by exact rfl) (he : e.map (·.1) = e.map (·.2) := by exact rfl) : St c ρ σ gs k := st_go2 z_T z_M f h he hk
end Go.Rel
