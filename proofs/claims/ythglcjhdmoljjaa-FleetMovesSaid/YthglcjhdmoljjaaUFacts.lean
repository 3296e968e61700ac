import Derived.Test.YthglcjhdmoljjaaProg
import Derived.Test.YthglcjhdmoljjaaEngU
import Derived.KernelRfl
import Derived.Test.YthglcjhdmoljjaaEngZ
import Derived.Test.YthglcjhdmoljjaaEngZB
/-! Facts of the program's types and functions. -/
namespace Go.Rel
open Go Go.Eng Go.Proofs
theorem z_struct41 : structT Try.prog 41 = some ([.map none, .map none], [(0, 1), (1, 1)]) := by kernel_rfl
theorem z_en4 : enters Try.prog 4 = true := by kernel_rfl
theorem z_slT22 : slT Try.prog 22 = some (29, 11, 136) := by kernel_rfl
theorem z_agg29 : aggSize Try.prog 29 = some 11 := by kernel_rfl
theorem z_zero29 : zeroT Try.prog 29 = some [.int .i64 0, .int .i64 0, .int .i64 0, .int .i64 0, .int .i64 0, .int .i64 0, .int .i64 0, .slice none 0 0, .slice none 0 0, .string (bstr []), .string (bstr [])] := by kernel_rfl
theorem z_field29_2 : fieldT Try.prog 29 2 = some 7 := by kernel_rfl
theorem z_sc26 : isScalar Try.prog 26 = true := by kernel_rfl
theorem z_slT26 : slT Try.prog 26 = some (44, 2, 16) := by kernel_rfl
theorem z_field29_3 : fieldT Try.prog 29 3 = some 8 := by kernel_rfl
theorem z_sc27 : isScalar Try.prog 27 = true := by kernel_rfl
theorem z_slT27 : slT Try.prog 27 = some (3, 1, 8) := by kernel_rfl
theorem z_size26 : sizeT Try.prog 26 = some 1 := by kernel_rfl
theorem z_mix : Try.prog.follows .mixedOrders = true := by kernel_rfl
theorem z_size27 : sizeT Try.prog 27 = some 1 := by kernel_rfl
theorem z_field29_4 : fieldT Try.prog 29 4 = some 9 := by kernel_rfl
theorem z_sc9 : isScalar Try.prog 9 = true := by kernel_rfl
theorem z_field29_5 : fieldT Try.prog 29 5 = some 10 := by kernel_rfl
theorem z_size9 : sizeT Try.prog 9 = some 1 := by kernel_rfl
theorem z_size29 : sizeT Try.prog 29 = some 11 := by kernel_rfl
theorem z_en5 : enters Try.prog 5 = true := by kernel_rfl
theorem z_field29_1 : fieldT Try.prog 29 1 = some 1 := by kernel_rfl
theorem z_arr25 : arrP Try.prog 25 = some (6, 3, 1) := by kernel_rfl
theorem z_sc3 : isScalar Try.prog 3 = true := by kernel_rfl
theorem z_zero32 : zeroT Try.prog 32 = some [.int .i64 0, .int .i64 0, .int .i64 0, .int .i64 0, .int .i64 0, .bool false, .bool false, .int .i64 0, .int .i64 0, .slice none 0 0, .int .i64 0, .int .i64 0] := by kernel_rfl
theorem z_field41_0 : fieldT Try.prog 41 0 = some 0 := by kernel_rfl
theorem z_sc38 : isScalar Try.prog 38 = true := by kernel_rfl
theorem z_map38 : mapT Try.prog 38 = some (3, 32) := by kernel_rfl
theorem z_zeroV32 : zeroV Try.prog 32 = some (.agg [.int .i64 0, .int .i64 0, .int .i64 0, .int .i64 0, .int .i64 0, .bool false, .bool false, .int .i64 0, .int .i64 0, .slice none 0 0, .int .i64 0, .int .i64 0].toArray) := by kernel_rfl
theorem z_size32 : sizeT Try.prog 32 = some 12 := by kernel_rfl
theorem z_field32_9 : fieldT Try.prog 32 9 = some 9 := by kernel_rfl
theorem z_zero44 : zeroT Try.prog 44 = some [.int .i64 0, .int .i64 0] := by kernel_rfl
theorem z_en9 : enters Try.prog 9 = true := by kernel_rfl
theorem z_agg32 : aggSize Try.prog 32 = some 12 := by kernel_rfl
theorem z_en6 : enters Try.prog 6 = true := by kernel_rfl
theorem z_field29_0 : fieldT Try.prog 29 0 = some 0 := by kernel_rfl
theorem z_zero55 : zeroT Try.prog 55 = some [.string (bstr []), .int .i64 0, .int .i64 0, .int .i64 0, .int .i64 0, .int .i64 0, .int .i64 0] := by kernel_rfl
theorem z_str0 : (ByteArray.mk #[114, 111, 98, 111, 116]) = bstr [114, 111, 98, 111, 116] := by kernel_rfl
theorem z_struct55 : structT Try.prog 55 = some ([.string (bstr []), .int .i64 0, .int .i64 0, .int .i64 0, .int .i64 0, .int .i64 0, .int .i64 0], [(0, 1), (1, 1), (2, 1), (3, 1), (4, 1), (5, 1), (6, 1)]) := by kernel_rfl
theorem z_size55 : sizeT Try.prog 55 = some 7 := by kernel_rfl
theorem z_agg55 : aggSize Try.prog 55 = some 7 := by kernel_rfl
theorem z_en21 : enters Try.prog 21 = true := by kernel_rfl
theorem z_str1 : (ByteArray.mk #[115, 112, 101, 101, 100]) = bstr [115, 112, 101, 101, 100] := by kernel_rfl
theorem z_str2 : (ByteArray.mk #[97, 99, 99, 101, 108]) = bstr [97, 99, 99, 101, 108] := by kernel_rfl
theorem z_str3 : (ByteArray.mk #[112, 97, 116, 104]) = bstr [112, 97, 116, 104] := by kernel_rfl
theorem z_str4 : (ByteArray.mk #[116, 97, 103]) = bstr [116, 97, 103] := by kernel_rfl
theorem z_slT52 : slT Try.prog 52 = some (55, 7, 64) := by kernel_rfl
theorem z_str5 : (ByteArray.mk #[114, 101, 97, 115, 111, 110]) = bstr [114, 101, 97, 115, 111, 110] := by kernel_rfl
theorem z_str6 : (ByteArray.mk #[122, 111, 110, 101]) = bstr [122, 111, 110, 101] := by kernel_rfl
theorem z_str7 : (ByteArray.mk #[108, 101, 97, 115, 101]) = bstr [108, 101, 97, 115, 101] := by kernel_rfl
theorem z_str8 : (ByteArray.mk #[99, 101, 108, 108, 115]) = bstr [99, 101, 108, 108, 115] := by kernel_rfl
theorem z_str9 : (ByteArray.mk #[120]) = bstr [120] := by kernel_rfl
theorem z_str10 : (ByteArray.mk #[121]) = bstr [121] := by kernel_rfl
theorem z_str11 : (ByteArray.mk #[104, 101, 97, 100, 105, 110, 103]) = bstr [104, 101, 97, 100, 105, 110, 103] := by kernel_rfl
theorem z_str12 : (ByteArray.mk #[98, 97, 116, 116, 101, 114, 121]) = bstr [98, 97, 116, 116, 101, 114, 121] := by kernel_rfl
theorem z_str13 : (ByteArray.mk #[115, 117, 114, 101]) = bstr [115, 117, 114, 101] := by kernel_rfl
theorem z_str14 : (ByteArray.mk #[99, 111, 100, 101]) = bstr [99, 111, 100, 101] := by kernel_rfl
theorem z_str15 : (ByteArray.mk #[115, 101, 118, 101, 114, 105, 116, 121]) = bstr [115, 101, 118, 101, 114, 105, 116, 121] := by kernel_rfl
theorem z_str16 : (ByteArray.mk #[112, 97, 114, 116]) = bstr [112, 97, 114, 116] := by kernel_rfl
theorem z_str17 : (ByteArray.mk #[116, 105, 109, 101, 115]) = bstr [116, 105, 109, 101, 115] := by kernel_rfl
theorem z_str18 : (ByteArray.mk #[116, 101, 120, 116]) = bstr [116, 101, 120, 116] := by kernel_rfl
theorem z_en13 : enters Try.prog 13 = true := by kernel_rfl
theorem z_field55_1 : fieldT Try.prog 55 1 = some 1 := by kernel_rfl
theorem z_field55_3 : fieldT Try.prog 55 3 = some 3 := by kernel_rfl
theorem z_field55_4 : fieldT Try.prog 55 4 = some 4 := by kernel_rfl
theorem z_en32 : enters Try.prog 32 = true := by kernel_rfl
theorem z_agg44 : aggSize Try.prog 44 = some 2 := by kernel_rfl
theorem z_size44 : sizeT Try.prog 44 = some 2 := by kernel_rfl
theorem z_field44_0 : fieldT Try.prog 44 0 = some 0 := by kernel_rfl
theorem z_field44_1 : fieldT Try.prog 44 1 = some 1 := by kernel_rfl
theorem z_en22 : enters Try.prog 22 = true := by kernel_rfl
theorem z_en23 : enters Try.prog 23 = true := by kernel_rfl
theorem z_slT80 : slT Try.prog 80 = some (5, 1, 1) := by kernel_rfl
theorem z_sc5 : isScalar Try.prog 5 = true := by kernel_rfl
theorem z_en24 : enters Try.prog 24 = true := by kernel_rfl
theorem z_field55_2 : fieldT Try.prog 55 2 = some 2 := by kernel_rfl
theorem z_en14 : enters Try.prog 14 = true := by kernel_rfl
theorem z_str19 : (ByteArray.mk #[]) = bstr [] := by kernel_rfl
theorem z_size3 : sizeT Try.prog 3 = some 1 := by kernel_rfl
theorem z_en15 : enters Try.prog 15 = true := by kernel_rfl
theorem z_struct29 : structT Try.prog 29 = some ([.int .i64 0, .int .i64 0, .int .i64 0, .int .i64 0, .int .i64 0, .int .i64 0, .int .i64 0, .slice none 0 0, .slice none 0 0, .string (bstr []), .string (bstr [])], [(0, 1), (1, 6), (7, 1), (8, 1), (9, 1), (10, 1)]) := by kernel_rfl
theorem z_agg25 : aggSize Try.prog 25 = some 6 := by kernel_rfl
theorem z_info3 : (Try.prog.info? 3).isSome = true := by kernel_rfl
theorem z_cell3 : Program.cellsOf Try.prog 3 = 1 := by kernel_rfl
theorem z_eqg25 : Program.eqGuardType Try.prog (Program.depth Try.prog) 25 = false := by kernel_rfl
theorem z_held44 : Program.stoodInHeld Try.prog 44 = false := by kernel_rfl
theorem z_eqg44 : Program.eqGuardType Try.prog (Program.depth Try.prog) 44 = false := by kernel_rfl
theorem z_en25 : enters Try.prog 25 = true := by kernel_rfl
theorem z_en26 : enters Try.prog 26 = true := by kernel_rfl
theorem z_en16 : enters Try.prog 16 = true := by kernel_rfl
theorem z_en10 : enters Try.prog 10 = true := by kernel_rfl
theorem z_field55_0 : fieldT Try.prog 55 0 = some 0 := by kernel_rfl
theorem z_held55 : Program.stoodInHeld Try.prog 55 = false := by kernel_rfl
theorem z_eqg55 : Program.eqGuardType Try.prog (Program.depth Try.prog) 55 = false := by kernel_rfl
theorem z_en33 : enters Try.prog 33 = true := by kernel_rfl
theorem z_en27 : enters Try.prog 27 = true := by kernel_rfl
theorem z_en17 : enters Try.prog 17 = true := by kernel_rfl
theorem z_field32_6 : fieldT Try.prog 32 6 = some 6 := by kernel_rfl
theorem z_size4 : sizeT Try.prog 4 = some 1 := by kernel_rfl
theorem z_field32_7 : fieldT Try.prog 32 7 = some 7 := by kernel_rfl
theorem z_field32_8 : fieldT Try.prog 32 8 = some 8 := by kernel_rfl
theorem z_field41_1 : fieldT Try.prog 41 1 = some 1 := by kernel_rfl
theorem z_sc39 : isScalar Try.prog 39 = true := by kernel_rfl
theorem z_struct62 : structT Try.prog 62 = some ([.int .i64 0, .int .i64 0], [(0, 1), (1, 1)]) := by kernel_rfl
theorem z_zero3 : zeroT Try.prog 3 = some [.int .i64 0] := by kernel_rfl
theorem z_en18 : enters Try.prog 18 = true := by kernel_rfl
theorem z_held62 : Program.stoodInHeld Try.prog 62 = false := by kernel_rfl
theorem z_keyP62 : KeyOk Try.prog 62 kPr := keyP Try.underlying62 z_held62 (by decide) (by decide) rfl rfl z_sc3 z_sc3 Try.underlying3 Try.underlying3
theorem z_map39 : mapT Try.prog 39 = some (62, 27) := by kernel_rfl
theorem z_field32_0 : fieldT Try.prog 32 0 = some 0 := by kernel_rfl
theorem z_field32_1 : fieldT Try.prog 32 1 = some 1 := by kernel_rfl
theorem z_field32_2 : fieldT Try.prog 32 2 = some 2 := by kernel_rfl
theorem z_field32_3 : fieldT Try.prog 32 3 = some 3 := by kernel_rfl
theorem z_field32_4 : fieldT Try.prog 32 4 = some 4 := by kernel_rfl
theorem z_field32_5 : fieldT Try.prog 32 5 = some 5 := by kernel_rfl
theorem z_field32_10 : fieldT Try.prog 32 10 = some 10 := by kernel_rfl
theorem z_field32_11 : fieldT Try.prog 32 11 = some 11 := by kernel_rfl
theorem z_en11 : enters Try.prog 11 = true := by kernel_rfl
theorem z_en7 : enters Try.prog 7 = true := by kernel_rfl
theorem z_sc4 : isScalar Try.prog 4 = true := by kernel_rfl
theorem z_arrz25 : arrT Try.prog 25 = some ([.int .i64 0, .int .i64 0, .int .i64 0, .int .i64 0, .int .i64 0, .int .i64 0], 1) := by kernel_rfl
theorem z_zero62 : zeroT Try.prog 62 = some [.int .i64 0, .int .i64 0] := by kernel_rfl
theorem z_size62 : sizeT Try.prog 62 = some 2 := by kernel_rfl
theorem z_map63 : mapT Try.prog 63 = some (51, 3) := by kernel_rfl
theorem z_held51 : Program.stoodInHeld Try.prog 51 = false := by kernel_rfl
theorem z_keyP51 : KeyOk Try.prog 51 kPr := keyP Try.underlying51 z_held51 (by decide) (by decide) rfl rfl z_sc3 z_sc3 Try.underlying3 Try.underlying3
theorem z_zeroV3 : zeroV Try.prog 3 = some (.int .i64 0) := by kernel_rfl
theorem z_field62_1 : fieldT Try.prog 62 1 = some 1 := by kernel_rfl
theorem z_struct51 : structT Try.prog 51 = some ([.int .i64 0, .int .i64 0], [(0, 1), (1, 1)]) := by kernel_rfl
theorem z_zero51 : zeroT Try.prog 51 = some [.int .i64 0, .int .i64 0] := by kernel_rfl
theorem z_size51 : sizeT Try.prog 51 = some 2 := by kernel_rfl
theorem z_agg51 : aggSize Try.prog 51 = some 2 := by kernel_rfl
theorem z_slT48 : slT Try.prog 48 = some (51, 2, 16) := by kernel_rfl
theorem z_str20 : (ByteArray.mk #[0, 1, 2, 2, 3, 3, 3, 3, 4, 4, 4, 4, 4, 4, 4, 4, 5, 5, 5, 5, 5, 5, 5, 5, 5, 5, 5, 5, 5, 5, 5, 5, 6, 6, 6, 6, 6, 6, 6, 6, 6, 6, 6, 6, 6, 6, 6, 6, 6, 6, 6, 6, 6, 6, 6, 6, 6, 6, 6, 6, 6, 6, 6, 6, 7, 7, 7, 7, 7, 7, 7, 7, 7, 7, 7, 7, 7, 7, 7, 7, 7, 7, 7, 7, 7, 7, 7, 7, 7, 7, 7, 7, 7, 7, 7, 7, 7, 7, 7, 7, 7, 7, 7, 7, 7, 7, 7, 7, 7, 7, 7, 7, 7, 7, 7, 7, 7, 7, 7, 7, 7, 7, 7, 7, 7, 7, 7, 7, 8, 8, 8, 8, 8, 8, 8, 8, 8, 8, 8, 8, 8, 8, 8, 8, 8, 8, 8, 8, 8, 8, 8, 8, 8, 8, 8, 8, 8, 8, 8, 8, 8, 8, 8, 8, 8, 8, 8, 8, 8, 8, 8, 8, 8, 8, 8, 8, 8, 8, 8, 8, 8, 8, 8, 8, 8, 8, 8, 8, 8, 8, 8, 8, 8, 8, 8, 8, 8, 8, 8, 8, 8, 8, 8, 8, 8, 8, 8, 8, 8, 8, 8, 8, 8, 8, 8, 8, 8, 8, 8, 8, 8, 8, 8, 8, 8, 8, 8, 8, 8, 8, 8, 8, 8, 8, 8, 8, 8, 8, 8, 8, 8, 8, 8, 8, 8, 8, 8, 8, 8, 8, 8, 8, 8, 8, 8, 8]) = bstr [0, 1, 2, 2, 3, 3, 3, 3, 4, 4, 4, 4, 4, 4, 4, 4, 5, 5, 5, 5, 5, 5, 5, 5, 5, 5, 5, 5, 5, 5, 5, 5, 6, 6, 6, 6, 6, 6, 6, 6, 6, 6, 6, 6, 6, 6, 6, 6, 6, 6, 6, 6, 6, 6, 6, 6, 6, 6, 6, 6, 6, 6, 6, 6, 7, 7, 7, 7, 7, 7, 7, 7, 7, 7, 7, 7, 7, 7, 7, 7, 7, 7, 7, 7, 7, 7, 7, 7, 7, 7, 7, 7, 7, 7, 7, 7, 7, 7, 7, 7, 7, 7, 7, 7, 7, 7, 7, 7, 7, 7, 7, 7, 7, 7, 7, 7, 7, 7, 7, 7, 7, 7, 7, 7, 7, 7, 7, 7, 8, 8, 8, 8, 8, 8, 8, 8, 8, 8, 8, 8, 8, 8, 8, 8, 8, 8, 8, 8, 8, 8, 8, 8, 8, 8, 8, 8, 8, 8, 8, 8, 8, 8, 8, 8, 8, 8, 8, 8, 8, 8, 8, 8, 8, 8, 8, 8, 8, 8, 8, 8, 8, 8, 8, 8, 8, 8, 8, 8, 8, 8, 8, 8, 8, 8, 8, 8, 8, 8, 8, 8, 8, 8, 8, 8, 8, 8, 8, 8, 8, 8, 8, 8, 8, 8, 8, 8, 8, 8, 8, 8, 8, 8, 8, 8, 8, 8, 8, 8, 8, 8, 8, 8, 8, 8, 8, 8, 8, 8, 8, 8, 8, 8, 8, 8, 8, 8, 8, 8, 8, 8, 8, 8, 8, 8, 8, 8] := by kernel_rfl
theorem z_en43 : enters Try.prog 43 = true := by kernel_rfl
theorem z_en29 : enters Try.prog 29 = true := by kernel_rfl
theorem z_field51_0 : fieldT Try.prog 51 0 = some 0 := by kernel_rfl
theorem z_en44 : enters Try.prog 44 = true := by kernel_rfl
theorem z_en31 : enters Try.prog 31 = true := by kernel_rfl
theorem z_field51_1 : fieldT Try.prog 51 1 = some 1 := by kernel_rfl
theorem z_en30 : enters Try.prog 30 = true := by kernel_rfl
theorem z_en20 : enters Try.prog 20 = true := by kernel_rfl
theorem z_en34 : enters Try.prog 34 = true := by kernel_rfl
theorem z_en28 : enters Try.prog 28 = true := by kernel_rfl
theorem z_en19 : enters Try.prog 19 = true := by kernel_rfl
theorem z_en12 : enters Try.prog 12 = true := by kernel_rfl
theorem z_eqg51 : Program.eqGuardType Try.prog (Program.depth Try.prog) 51 = false := by kernel_rfl
theorem z_en8 : enters Try.prog 8 = true := by kernel_rfl
theorem z_size25 : sizeT Try.prog 25 = some 6 := by kernel_rfl
theorem z_size39 : sizeT Try.prog 39 = some 1 := by kernel_rfl
theorem z_size38 : sizeT Try.prog 38 = some 1 := by kernel_rfl
theorem z_agg62 : aggSize Try.prog 62 = some 2 := by kernel_rfl
def z_tyf : TyF := ⟨[(3, .i64), (5, .u8), (76, .u64), (93, .u64)], [(29, 0, 0), (29, 1, 1), (29, 2, 7), (29, 3, 8), (29, 4, 9), (29, 5, 10), (32, 0, 0), (32, 1, 1), (32, 10, 10), (32, 11, 11), (32, 2, 2), (32, 3, 3), (32, 4, 4), (32, 5, 5), (32, 6, 6), (32, 7, 7), (32, 8, 8), (32, 9, 9), (41, 0, 0), (41, 1, 1), (44, 0, 0), (44, 1, 1), (51, 0, 0), (51, 1, 1), (55, 0, 0), (55, 1, 1), (55, 2, 2), (55, 3, 3), (55, 4, 4)], [9], [4], [23], []⟩
theorem z_T : TyOk Try.prog z_tyf := ⟨(fa_cons Try.underlying3 (fa_cons Try.underlying5 (fa_cons Try.underlying76 (fa_cons Try.underlying93 fa_nil)))), (fa_cons z_field29_0 (fa_cons z_field29_1 (fa_cons z_field29_2 (fa_cons z_field29_3 (fa_cons z_field29_4 (fa_cons z_field29_5 (fa_cons z_field32_0 (fa_cons z_field32_1 (fa_cons z_field32_10 (fa_cons z_field32_11 (fa_cons z_field32_2 (fa_cons z_field32_3 (fa_cons z_field32_4 (fa_cons z_field32_5 (fa_cons z_field32_6 (fa_cons z_field32_7 (fa_cons z_field32_8 (fa_cons z_field32_9 (fa_cons z_field41_0 (fa_cons z_field41_1 (fa_cons z_field44_0 (fa_cons z_field44_1 (fa_cons z_field51_0 (fa_cons z_field51_1 (fa_cons z_field55_0 (fa_cons z_field55_1 (fa_cons z_field55_2 (fa_cons z_field55_3 (fa_cons z_field55_4 fa_nil))))))))))))))))))))))))))))), (fa_cons Try.underlying9 fa_nil), (fa_cons Try.underlying4 fa_nil), (fa_cons ⟨_, Try.underlying23⟩ fa_nil), fa_nil⟩
def z_tym : TyM := ⟨[26, 27, 3, 38, 39, 4, 9], [(25, 6), (29, 11), (32, 12), (44, 2), (51, 2), (55, 7), (62, 2)], [(29, [.int .i64 0, .int .i64 0, .int .i64 0, .int .i64 0, .int .i64 0, .int .i64 0, .int .i64 0, .slice none 0 0, .slice none 0 0, .string (bstr []), .string (bstr [])], [(0, 1), (1, 6), (7, 1), (8, 1), (9, 1), (10, 1)]), (51, [.int .i64 0, .int .i64 0], [(0, 1), (1, 1)]), (55, [.string (bstr []), .int .i64 0, .int .i64 0, .int .i64 0, .int .i64 0, .int .i64 0, .int .i64 0], [(0, 1), (1, 1), (2, 1), (3, 1), (4, 1), (5, 1), (6, 1)])], []⟩
theorem z_M : TyMOk Try.prog z_tym := ⟨(fa_cons z_sc26 (fa_cons z_sc27 (fa_cons z_sc3 (fa_cons z_sc38 (fa_cons z_sc39 (fa_cons z_sc4 (fa_cons z_sc9 fa_nil))))))), (fa_cons z_size26 (fa_cons z_size27 (fa_cons z_size3 (fa_cons z_size38 (fa_cons z_size39 (fa_cons z_size4 (fa_cons z_size9 fa_nil))))))), (fa_cons z_agg25 (fa_cons z_agg29 (fa_cons z_agg32 (fa_cons z_agg44 (fa_cons z_agg51 (fa_cons z_agg55 (fa_cons z_agg62 fa_nil))))))), (fa_cons z_size25 (fa_cons z_size29 (fa_cons z_size32 (fa_cons z_size44 (fa_cons z_size51 (fa_cons z_size55 (fa_cons z_size62 fa_nil))))))), (fa_cons z_struct29 (fa_cons z_struct51 (fa_cons z_struct55 fa_nil))), fa_nil⟩
theorem Z {n : Nat} {c : Ctx Try.prog n} {σ : Sto} {gs : List Grp} (f : Nat) {ρ ρ' : Env} {k k' : List Item} (h : go z_tyf n f ρ k = some (ρ', k')) (hk : St c ρ' σ gs k') : St c ρ σ gs k := st_go z_T f h hk
theorem dA {n : Nat} {c : Ctx Try.prog n} {k : List Item} {ops : Array Oper} {dsts : List Nat} {L : List DT} {ρ : Env} {i : Nat} (h : dpv z_tyf n ops dsts L ρ i = dvl L i := by exact rfl) (hs : (dvl L i).isSome = true := by exact rfl) : Core c k ops dsts L ρ i := core_A z_T h hs
theorem dG {n : Nat} {c : Ctx Try.prog n} {k : List Item} {ops : Array Oper} {dsts : List Nat} {L : List DT} {ρ : Env} {i : Nat} (ks : List Nat) (h : DGok z_tyf n ops dsts L ρ ks i := by exact ⟨rfl, rfl, rfl⟩) : Core c k ops dsts L ρ i := core_G z_T h
theorem ZZ {n : Nat} {c : Ctx Try.prog n} {σ : Sto} (f : Nat) (js : List Nat) {gs gs' : List Grp} {ρ ρ' : Env} {k k' : List Item} {e : List (Nat × Nat)} (h : go2 z_tyf z_tym n f js ρ gs k = some (ρ', gs', k', e)) (he : e.map (·.1) = e.map (·.2)) (hk : St c ρ' σ gs' k') : St c ρ σ gs k := st_go2 z_T z_M f h he hk
end Go.Rel
