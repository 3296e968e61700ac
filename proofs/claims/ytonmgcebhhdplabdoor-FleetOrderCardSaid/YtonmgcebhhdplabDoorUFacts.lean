import Derived.Test.YtonmgcebhhdplabDoorProg
import Derived.Test.YtonmgcebhhdplabDoorEngU
import Derived.KernelRfl
import Derived.Test.YtonmgcebhhdplabDoorEngZ
import Derived.Test.YtonmgcebhhdplabDoorEngZA
import Derived.Test.YtonmgcebhhdplabDoorEngZB
import Derived.Test.YtonmgcebhhdplabDoorEngZE
import Derived.Test.YtonmgcebhhdplabDoorEngZF
import Derived.Test.YtonmgcebhhdplabDoorMaps
import Derived.Test.YtonmgcebhhdplabDoorShelf
/-! Facts of the program's types and functions. -/
namespace Go.Rel
open Go Go.Eng Go.Proofs
theorem z_agg39 : aggSize Tryd.prog 39 = some 11 := by kernel_rfl
theorem z_zero39 : zeroT Tryd.prog 39 = some [.int .i64 0, .int .i64 0, .int .i64 0, .int .i64 0, .int .i64 0, .int .i64 0, .int .i64 0, .slice none 0 0, .slice none 0 0, .string (bstr []), .string (bstr [])] := by kernel_rfl
theorem z_field39_2 : fieldT Tryd.prog 39 2 = some 7 := by kernel_rfl
theorem z_sc36 : isScalar Tryd.prog 36 = true := by kernel_rfl
theorem z_slT36 : slT Tryd.prog 36 = some (109, 2, 16) := by kernel_rfl
theorem z_field39_3 : fieldT Tryd.prog 39 3 = some 8 := by kernel_rfl
theorem z_sc37 : isScalar Tryd.prog 37 = true := by kernel_rfl
theorem z_slT37 : slT Tryd.prog 37 = some (3, 1, 8) := by kernel_rfl
theorem z_size36 : sizeT Tryd.prog 36 = some 1 := by kernel_rfl
theorem z_mix : Tryd.prog.follows .mixedOrders = true := by kernel_rfl
theorem z_size37 : sizeT Tryd.prog 37 = some 1 := by kernel_rfl
theorem z_field39_4 : fieldT Tryd.prog 39 4 = some 9 := by kernel_rfl
theorem z_sc9 : isScalar Tryd.prog 9 = true := by kernel_rfl
theorem z_field39_5 : fieldT Tryd.prog 39 5 = some 10 := by kernel_rfl
theorem z_size9 : sizeT Tryd.prog 9 = some 1 := by kernel_rfl
theorem z_size39 : sizeT Tryd.prog 39 = some 11 := by kernel_rfl
theorem z_en16 : enters Tryd.prog 16 = true := by kernel_rfl
theorem z_sc3 : isScalar Tryd.prog 3 = true := by kernel_rfl
theorem z_size3 : sizeT Tryd.prog 3 = some 1 := by kernel_rfl
theorem z_field39_0 : fieldT Tryd.prog 39 0 = some 0 := by kernel_rfl
theorem z_str0 : (ByteArray.mk #[]) = bstr [] := by kernel_rfl
theorem z_str3 : (ByteArray.mk #[103, 114, 97, 110, 116]) = bstr [103, 114, 97, 110, 116] := by kernel_rfl
theorem z_arr35 : arrP Tryd.prog 35 = some (6, 3, 1) := by kernel_rfl
theorem z_zeroV3 : zeroV Tryd.prog 3 = some (.int .i64 0) := by kernel_rfl
theorem z_agg35 : aggSize Tryd.prog 35 = some 6 := by kernel_rfl
theorem z_info3 : (Tryd.prog.info? 3).isSome = true := by kernel_rfl
theorem z_cell3 : Program.cellsOf Tryd.prog 3 = 1 := by kernel_rfl
theorem z_eqg35 : Program.eqGuardType Tryd.prog (Program.depth Tryd.prog) 35 = false := by kernel_rfl
theorem z_zero3 : zeroT Tryd.prog 3 = some [.int .i64 0] := by kernel_rfl
theorem z_struct39 : structT Tryd.prog 39 = some ([.int .i64 0, .int .i64 0, .int .i64 0, .int .i64 0, .int .i64 0, .int .i64 0, .int .i64 0, .slice none 0 0, .slice none 0 0, .string (bstr []), .string (bstr [])], [(0, 1), (1, 6), (7, 1), (8, 1), (9, 1), (10, 1)]) := by kernel_rfl
theorem z_zero109 : zeroT Tryd.prog 109 = some [.int .i64 0, .int .i64 0] := by kernel_rfl
theorem z_en54 : enters Tryd.prog 54 = true := by kernel_rfl
theorem z_en55 : enters Tryd.prog 55 = true := by kernel_rfl
theorem z_en66 : enters Tryd.prog 66 = true := by kernel_rfl
theorem z_en45 : enters Tryd.prog 45 = true := by kernel_rfl
theorem z_slT44 : slT Tryd.prog 44 = some (9, 1, 16) := by kernel_rfl
theorem z_zero9 : zeroT Tryd.prog 9 = some [.string (bstr [])] := by kernel_rfl
theorem z_zero44 : zeroT Tryd.prog 44 = some [.slice none 0 0] := by kernel_rfl
theorem z_size44 : sizeT Tryd.prog 44 = some 1 := by kernel_rfl
theorem z_sc44 : isScalar Tryd.prog 44 = true := by kernel_rfl
theorem z_str7 : (ByteArray.mk #[32]) = bstr [32] := by kernel_rfl
theorem z_str23 : (ByteArray.mk #[116, 101, 120, 116]) = bstr [116, 101, 120, 116] := by kernel_rfl
theorem z_en20 : enters Tryd.prog 20 = true := by kernel_rfl
theorem z_struct66 : structT Tryd.prog 66 = some ([.map none, .map none], [(0, 1), (1, 1)]) := by kernel_rfl
theorem z_en15 : enters Tryd.prog 15 = true := by kernel_rfl
theorem z_slT32 : slT Tryd.prog 32 = some (39, 11, 136) := by kernel_rfl
theorem z_zero102 : zeroT Tryd.prog 102 = some [.string (bstr []), .int .i64 0, .int .i64 0, .int .i64 0, .int .i64 0, .int .i64 0, .int .i64 0] := by kernel_rfl
theorem z_str30 : (ByteArray.mk #[114, 111, 98, 111, 116]) = bstr [114, 111, 98, 111, 116] := by kernel_rfl
theorem z_struct102 : structT Tryd.prog 102 = some ([.string (bstr []), .int .i64 0, .int .i64 0, .int .i64 0, .int .i64 0, .int .i64 0, .int .i64 0], [(0, 1), (1, 1), (2, 1), (3, 1), (4, 1), (5, 1), (6, 1)]) := by kernel_rfl
theorem z_size102 : sizeT Tryd.prog 102 = some 7 := by kernel_rfl
theorem z_agg102 : aggSize Tryd.prog 102 = some 7 := by kernel_rfl
theorem z_en68 : enters Tryd.prog 68 = true := by kernel_rfl
theorem z_str31 : (ByteArray.mk #[115, 112, 101, 101, 100]) = bstr [115, 112, 101, 101, 100] := by kernel_rfl
theorem z_str32 : (ByteArray.mk #[97, 99, 99, 101, 108]) = bstr [97, 99, 99, 101, 108] := by kernel_rfl
theorem z_str33 : (ByteArray.mk #[112, 97, 116, 104]) = bstr [112, 97, 116, 104] := by kernel_rfl
theorem z_str34 : (ByteArray.mk #[116, 97, 103]) = bstr [116, 97, 103] := by kernel_rfl
theorem z_slT99 : slT Tryd.prog 99 = some (102, 7, 64) := by kernel_rfl
theorem z_str35 : (ByteArray.mk #[114, 101, 97, 115, 111, 110]) = bstr [114, 101, 97, 115, 111, 110] := by kernel_rfl
theorem z_str36 : (ByteArray.mk #[122, 111, 110, 101]) = bstr [122, 111, 110, 101] := by kernel_rfl
theorem z_str37 : (ByteArray.mk #[108, 101, 97, 115, 101]) = bstr [108, 101, 97, 115, 101] := by kernel_rfl
theorem z_str38 : (ByteArray.mk #[99, 101, 108, 108, 115]) = bstr [99, 101, 108, 108, 115] := by kernel_rfl
theorem z_str39 : (ByteArray.mk #[120]) = bstr [120] := by kernel_rfl
theorem z_str40 : (ByteArray.mk #[121]) = bstr [121] := by kernel_rfl
theorem z_str41 : (ByteArray.mk #[104, 101, 97, 100, 105, 110, 103]) = bstr [104, 101, 97, 100, 105, 110, 103] := by kernel_rfl
theorem z_str42 : (ByteArray.mk #[98, 97, 116, 116, 101, 114, 121]) = bstr [98, 97, 116, 116, 101, 114, 121] := by kernel_rfl
theorem z_str43 : (ByteArray.mk #[115, 117, 114, 101]) = bstr [115, 117, 114, 101] := by kernel_rfl
theorem z_str44 : (ByteArray.mk #[99, 111, 100, 101]) = bstr [99, 111, 100, 101] := by kernel_rfl
theorem z_str45 : (ByteArray.mk #[115, 101, 118, 101, 114, 105, 116, 121]) = bstr [115, 101, 118, 101, 114, 105, 116, 121] := by kernel_rfl
theorem z_str46 : (ByteArray.mk #[112, 97, 114, 116]) = bstr [112, 97, 114, 116] := by kernel_rfl
theorem z_str47 : (ByteArray.mk #[116, 105, 109, 101, 115]) = bstr [116, 105, 109, 101, 115] := by kernel_rfl
theorem z_en49 : enters Tryd.prog 49 = true := by kernel_rfl
theorem z_field102_1 : fieldT Tryd.prog 102 1 = some 1 := by kernel_rfl
theorem z_field102_3 : fieldT Tryd.prog 102 3 = some 3 := by kernel_rfl
theorem z_field102_4 : fieldT Tryd.prog 102 4 = some 4 := by kernel_rfl
theorem z_en83 : enters Tryd.prog 83 = true := by kernel_rfl
theorem z_agg109 : aggSize Tryd.prog 109 = some 2 := by kernel_rfl
theorem z_size109 : sizeT Tryd.prog 109 = some 2 := by kernel_rfl
theorem z_field109_0 : fieldT Tryd.prog 109 0 = some 0 := by kernel_rfl
theorem z_field109_1 : fieldT Tryd.prog 109 1 = some 1 := by kernel_rfl
theorem z_en69 : enters Tryd.prog 69 = true := by kernel_rfl
theorem z_en70 : enters Tryd.prog 70 = true := by kernel_rfl
theorem z_slT138 : slT Tryd.prog 138 = some (5, 1, 1) := by kernel_rfl
theorem z_sc5 : isScalar Tryd.prog 5 = true := by kernel_rfl
theorem z_en71 : enters Tryd.prog 71 = true := by kernel_rfl
theorem z_field102_2 : fieldT Tryd.prog 102 2 = some 2 := by kernel_rfl
theorem z_field39_1 : fieldT Tryd.prog 39 1 = some 1 := by kernel_rfl
theorem z_en50 : enters Tryd.prog 50 = true := by kernel_rfl
theorem z_en51 : enters Tryd.prog 51 = true := by kernel_rfl
theorem z_held109 : Program.stoodInHeld Tryd.prog 109 = false := by kernel_rfl
theorem z_eqg109 : Program.eqGuardType Tryd.prog (Program.depth Tryd.prog) 109 = false := by kernel_rfl
theorem z_en58 : enters Tryd.prog 58 = true := by kernel_rfl
theorem z_en36 : enters Tryd.prog 36 = true := by kernel_rfl
theorem z_en52 : enters Tryd.prog 52 = true := by kernel_rfl
theorem z_en30 : enters Tryd.prog 30 = true := by kernel_rfl
theorem z_field102_0 : fieldT Tryd.prog 102 0 = some 0 := by kernel_rfl
theorem z_held102 : Program.stoodInHeld Tryd.prog 102 = false := by kernel_rfl
theorem z_eqg102 : Program.eqGuardType Tryd.prog (Program.depth Tryd.prog) 102 = false := by kernel_rfl
theorem z_en84 : enters Tryd.prog 84 = true := by kernel_rfl
theorem z_en72 : enters Tryd.prog 72 = true := by kernel_rfl
theorem z_en53 : enters Tryd.prog 53 = true := by kernel_rfl
theorem z_field66_0 : fieldT Tryd.prog 66 0 = some 0 := by kernel_rfl
theorem z_sc63 : isScalar Tryd.prog 63 = true := by kernel_rfl
theorem z_map63 : mapT Tryd.prog 63 = some (3, 75) := by kernel_rfl
theorem z_zeroV75 : zeroV Tryd.prog 75 = some (.agg [.int .i64 0, .int .i64 0, .int .i64 0, .int .i64 0, .int .i64 0, .bool false, .bool false, .int .i64 0, .int .i64 0, .slice none 0 0, .int .i64 0, .int .i64 0].toArray) := by kernel_rfl
theorem z_zero75 : zeroT Tryd.prog 75 = some [.int .i64 0, .int .i64 0, .int .i64 0, .int .i64 0, .int .i64 0, .bool false, .bool false, .int .i64 0, .int .i64 0, .slice none 0 0, .int .i64 0, .int .i64 0] := by kernel_rfl
theorem z_size75 : sizeT Tryd.prog 75 = some 12 := by kernel_rfl
theorem z_field75_6 : fieldT Tryd.prog 75 6 = some 6 := by kernel_rfl
theorem z_size4 : sizeT Tryd.prog 4 = some 1 := by kernel_rfl
theorem z_field75_7 : fieldT Tryd.prog 75 7 = some 7 := by kernel_rfl
theorem z_field75_8 : fieldT Tryd.prog 75 8 = some 8 := by kernel_rfl
theorem z_field75_9 : fieldT Tryd.prog 75 9 = some 9 := by kernel_rfl
theorem z_field66_1 : fieldT Tryd.prog 66 1 = some 1 := by kernel_rfl
theorem z_sc64 : isScalar Tryd.prog 64 = true := by kernel_rfl
theorem z_struct79 : structT Tryd.prog 79 = some ([.int .i64 0, .int .i64 0], [(0, 1), (1, 1)]) := by kernel_rfl
theorem z_held79 : Program.stoodInHeld Tryd.prog 79 = false := by kernel_rfl
theorem z_keyP79 : KeyOk Tryd.prog 79 kPr := keyP Tryd.underlying79 z_held79 (by decide) (by decide) rfl rfl z_sc3 z_sc3 Tryd.underlying3 Tryd.underlying3
theorem z_map64 : mapT Tryd.prog 64 = some (79, 37) := by kernel_rfl
theorem z_field75_0 : fieldT Tryd.prog 75 0 = some 0 := by kernel_rfl
theorem z_field75_1 : fieldT Tryd.prog 75 1 = some 1 := by kernel_rfl
theorem z_field75_2 : fieldT Tryd.prog 75 2 = some 2 := by kernel_rfl
theorem z_field75_3 : fieldT Tryd.prog 75 3 = some 3 := by kernel_rfl
theorem z_field75_4 : fieldT Tryd.prog 75 4 = some 4 := by kernel_rfl
theorem z_field75_5 : fieldT Tryd.prog 75 5 = some 5 := by kernel_rfl
theorem z_field75_10 : fieldT Tryd.prog 75 10 = some 10 := by kernel_rfl
theorem z_field75_11 : fieldT Tryd.prog 75 11 = some 11 := by kernel_rfl
theorem z_agg75 : aggSize Tryd.prog 75 = some 12 := by kernel_rfl
theorem z_en31 : enters Tryd.prog 31 = true := by kernel_rfl
theorem z_en17 : enters Tryd.prog 17 = true := by kernel_rfl
theorem z_arrz35 : arrT Tryd.prog 35 = some ([.int .i64 0, .int .i64 0, .int .i64 0, .int .i64 0, .int .i64 0, .int .i64 0], 1) := by kernel_rfl
theorem z_zero79 : zeroT Tryd.prog 79 = some [.int .i64 0, .int .i64 0] := by kernel_rfl
theorem z_size79 : sizeT Tryd.prog 79 = some 2 := by kernel_rfl
theorem z_map111 : mapT Tryd.prog 111 = some (72, 3) := by kernel_rfl
theorem z_held72 : Program.stoodInHeld Tryd.prog 72 = false := by kernel_rfl
theorem z_keyP72 : KeyOk Tryd.prog 72 kPr := keyP Tryd.underlying72 z_held72 (by decide) (by decide) rfl rfl z_sc3 z_sc3 Tryd.underlying3 Tryd.underlying3
theorem z_field79_1 : fieldT Tryd.prog 79 1 = some 1 := by kernel_rfl
theorem z_struct72 : structT Tryd.prog 72 = some ([.int .i64 0, .int .i64 0], [(0, 1), (1, 1)]) := by kernel_rfl
theorem z_zero72 : zeroT Tryd.prog 72 = some [.int .i64 0, .int .i64 0] := by kernel_rfl
theorem z_size72 : sizeT Tryd.prog 72 = some 2 := by kernel_rfl
theorem z_agg72 : aggSize Tryd.prog 72 = some 2 := by kernel_rfl
theorem z_slT69 : slT Tryd.prog 69 = some (72, 2, 16) := by kernel_rfl
theorem z_en56 : enters Tryd.prog 56 = true := by kernel_rfl
theorem z_en32 : enters Tryd.prog 32 = true := by kernel_rfl
theorem z_eqg72 : Program.eqGuardType Tryd.prog (Program.depth Tryd.prog) 72 = false := by kernel_rfl
theorem z_en18 : enters Tryd.prog 18 = true := by kernel_rfl
theorem z_sc4 : isScalar Tryd.prog 4 = true := by kernel_rfl
theorem z_en34 : enters Tryd.prog 34 = true := by kernel_rfl
theorem z_en33 : enters Tryd.prog 33 = true := by kernel_rfl
theorem z_agg79 : aggSize Tryd.prog 79 = some 2 := by kernel_rfl
theorem z_zeroV37 : zeroV Tryd.prog 37 = some (.slice none 0 0) := by kernel_rfl
theorem z_en35 : enters Tryd.prog 35 = true := by kernel_rfl
theorem z_en19 : enters Tryd.prog 19 = true := by kernel_rfl
theorem z_sc33 : isScalar Tryd.prog 33 = true := by kernel_rfl
theorem z_en61 : enters Tryd.prog 61 = true := by kernel_rfl
theorem z_en60 : enters Tryd.prog 60 = true := by kernel_rfl
theorem z_en59 : enters Tryd.prog 59 = true := by kernel_rfl
theorem z_en37 : enters Tryd.prog 37 = true := by kernel_rfl
theorem z_en38 : enters Tryd.prog 38 = true := by kernel_rfl
theorem z_str48 : (ByteArray.mk #[32, 97, 116]) = bstr [32, 97, 116] := by kernel_rfl
theorem z_str49 : (ByteArray.mk #[32, 104, 101, 108, 100]) = bstr [32, 104, 101, 108, 100] := by kernel_rfl
theorem z_str50 : (ByteArray.mk #[32, 112, 97, 116, 104]) = bstr [32, 112, 97, 116, 104] := by kernel_rfl
theorem z_str51 : (ByteArray.mk #[32, 102, 97, 117, 108, 116, 115]) = bstr [32, 102, 97, 117, 108, 116, 115] := by kernel_rfl
theorem z_field79_0 : fieldT Tryd.prog 79 0 = some 0 := by kernel_rfl
theorem z_en62 : enters Tryd.prog 62 = true := by kernel_rfl
theorem z_en39 : enters Tryd.prog 39 = true := by kernel_rfl
theorem z_en40 : enters Tryd.prog 40 = true := by kernel_rfl
theorem z_field72_0 : fieldT Tryd.prog 72 0 = some 0 := by kernel_rfl
theorem z_field72_1 : fieldT Tryd.prog 72 1 = some 1 := by kernel_rfl
theorem z_str52 : (ByteArray.mk #[99, 111, 110, 116, 101, 115, 116, 101, 100]) = bstr [99, 111, 110, 116, 101, 115, 116, 101, 100] := by kernel_rfl
theorem z_en21 : enters Tryd.prog 21 = true := by kernel_rfl
theorem z_size64 : sizeT Tryd.prog 64 = some 1 := by kernel_rfl
theorem z_size33 : sizeT Tryd.prog 33 = some 1 := by kernel_rfl
theorem z_size63 : sizeT Tryd.prog 63 = some 1 := by kernel_rfl
theorem z_size35 : sizeT Tryd.prog 35 = some 6 := by kernel_rfl
def z_tyf : TyF := ⟨[], [(102, 0, 0), (102, 1, 1), (102, 2, 2), (102, 3, 3), (102, 4, 4), (109, 0, 0), (109, 1, 1), (39, 0, 0), (39, 1, 1), (39, 2, 7), (39, 3, 8), (39, 4, 9), (39, 5, 10), (66, 0, 0), (66, 1, 1), (72, 0, 0), (72, 1, 1), (75, 0, 0), (75, 1, 1), (75, 10, 10), (75, 11, 11), (75, 2, 2), (75, 3, 3), (75, 4, 4), (75, 5, 5), (75, 6, 6), (75, 7, 7), (75, 8, 8), (75, 9, 9), (79, 0, 0), (79, 1, 1)], [9], [4], [33], []⟩
theorem z_T : TyOk Tryd.prog z_tyf := ⟨fa_nil, (fa_cons z_field102_0 (fa_cons z_field102_1 (fa_cons z_field102_2 (fa_cons z_field102_3 (fa_cons z_field102_4 (fa_cons z_field109_0 (fa_cons z_field109_1 (fa_cons z_field39_0 (fa_cons z_field39_1 (fa_cons z_field39_2 (fa_cons z_field39_3 (fa_cons z_field39_4 (fa_cons z_field39_5 (fa_cons z_field66_0 (fa_cons z_field66_1 (fa_cons z_field72_0 (fa_cons z_field72_1 (fa_cons z_field75_0 (fa_cons z_field75_1 (fa_cons z_field75_10 (fa_cons z_field75_11 (fa_cons z_field75_2 (fa_cons z_field75_3 (fa_cons z_field75_4 (fa_cons z_field75_5 (fa_cons z_field75_6 (fa_cons z_field75_7 (fa_cons z_field75_8 (fa_cons z_field75_9 (fa_cons z_field79_0 (fa_cons z_field79_1 fa_nil))))))))))))))))))))))))))))))), (fa_cons Tryd.underlying9 fa_nil), (fa_cons Tryd.underlying4 fa_nil), (fa_cons ⟨_, Tryd.underlying33⟩ fa_nil), fa_nil⟩
def z_tym : TyM := ⟨[3, 33, 36, 37, 4, 44, 63, 64, 9], [(102, 7), (109, 2), (35, 6), (39, 11), (72, 2), (75, 12), (79, 2)], [(102, [.string (bstr []), .int .i64 0, .int .i64 0, .int .i64 0, .int .i64 0, .int .i64 0, .int .i64 0], [(0, 1), (1, 1), (2, 1), (3, 1), (4, 1), (5, 1), (6, 1)]), (39, [.int .i64 0, .int .i64 0, .int .i64 0, .int .i64 0, .int .i64 0, .int .i64 0, .int .i64 0, .slice none 0 0, .slice none 0 0, .string (bstr []), .string (bstr [])], [(0, 1), (1, 6), (7, 1), (8, 1), (9, 1), (10, 1)]), (72, [.int .i64 0, .int .i64 0], [(0, 1), (1, 1)]), (79, [.int .i64 0, .int .i64 0], [(0, 1), (1, 1)])], []⟩
theorem z_M : TyMOk Tryd.prog z_tym := ⟨(fa_cons z_sc3 (fa_cons z_sc33 (fa_cons z_sc36 (fa_cons z_sc37 (fa_cons z_sc4 (fa_cons z_sc44 (fa_cons z_sc63 (fa_cons z_sc64 (fa_cons z_sc9 fa_nil))))))))), (fa_cons z_size3 (fa_cons z_size33 (fa_cons z_size36 (fa_cons z_size37 (fa_cons z_size4 (fa_cons z_size44 (fa_cons z_size63 (fa_cons z_size64 (fa_cons z_size9 fa_nil))))))))), (fa_cons z_agg102 (fa_cons z_agg109 (fa_cons z_agg35 (fa_cons z_agg39 (fa_cons z_agg72 (fa_cons z_agg75 (fa_cons z_agg79 fa_nil))))))), (fa_cons z_size102 (fa_cons z_size109 (fa_cons z_size35 (fa_cons z_size39 (fa_cons z_size72 (fa_cons z_size75 (fa_cons z_size79 fa_nil))))))), (fa_cons z_struct102 (fa_cons z_struct39 (fa_cons z_struct72 (fa_cons z_struct79 fa_nil)))), fa_nil⟩
theorem Z {n : Nat} {c : Ctx Tryd.prog n} {σ : Sto} {gs : List Grp} (f : Nat) {ρ ρ' : Env} {k k' : List Item} (h : go z_tyf n f ρ k = some (ρ', k')) (hk : St c ρ' σ gs k') : St c ρ σ gs k := st_go z_T f h hk
theorem dA {n : Nat} {c : Ctx Tryd.prog n} {k : List Item} {ops : Array Oper} {dsts : List Nat} {L : List DT} {ρ : Env} {i : Nat} (h : dpv z_tyf n ops dsts L ρ i = dvl L i := by exact rfl) (hs : (dvl L i).isSome = true := by exact rfl) : Core c k ops dsts L ρ i := core_A z_T h hs
theorem dG {n : Nat} {c : Ctx Tryd.prog n} {k : List Item} {ops : Array Oper} {dsts : List Nat} {L : List DT} {ρ : Env} {i : Nat} (ks : List Nat) (h : DGok z_tyf n ops dsts L ρ ks i := by exact ⟨rfl, rfl, rfl⟩) : Core c k ops dsts L ρ i := core_G z_T h
theorem ZZ {n : Nat} {c : Ctx Tryd.prog n} {σ : Sto} (f : Nat) (js : List Nat) {gs gs' : List Grp} {ρ ρ' : Env} {k k' : List Item} {e : List (Nat × Nat)} (h : go2 z_tyf z_tym n f js ρ gs k = some (ρ', gs', k', e)) (he : e.map (·.1) = e.map (·.2)) (hk : St c ρ' σ gs' k') : St c ρ σ gs k := st_go2 z_T z_M f h he hk
end Go.Rel
