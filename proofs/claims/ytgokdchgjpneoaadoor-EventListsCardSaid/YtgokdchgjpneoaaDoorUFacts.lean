import Derived.Test.YtgokdchgjpneoaaDoorProg
import Derived.Test.YtgokdchgjpneoaaDoorEngU
import Derived.KernelRfl
import Derived.Test.YtgokdchgjpneoaaDoorShelf
/-! Facts of the program's types and functions. -/
namespace Go.Rel
open Go Go.Eng Go.Proofs
theorem z_agg26 : aggSize Tryd.prog 26 = some 11 := by kernel_rfl
theorem z_zero26 : zeroT Tryd.prog 26 = some [.int .i64 0, .int .i64 0, .int .i64 0, .int .i64 0, .int .i64 0, .int .i64 0, .int .i64 0, .slice none 0 0, .slice none 0 0, .string (bstr []), .string (bstr [])] := by kernel_rfl
theorem z_field26_2 : fieldT Tryd.prog 26 2 = some 7 := by kernel_rfl
theorem z_sc23 : isScalar Tryd.prog 23 = true := by kernel_rfl
theorem z_slT23 : slT Tryd.prog 23 = some (46, 2, 16) := by kernel_rfl
theorem z_field26_3 : fieldT Tryd.prog 26 3 = some 8 := by kernel_rfl
theorem z_sc24 : isScalar Tryd.prog 24 = true := by kernel_rfl
theorem z_slT24 : slT Tryd.prog 24 = some (3, 1, 8) := by kernel_rfl
theorem z_size23 : sizeT Tryd.prog 23 = some 1 := by kernel_rfl
theorem z_mix : Tryd.prog.follows .mixedOrders = true := by kernel_rfl
theorem z_size24 : sizeT Tryd.prog 24 = some 1 := by kernel_rfl
theorem z_field26_4 : fieldT Tryd.prog 26 4 = some 9 := by kernel_rfl
theorem z_sc9 : isScalar Tryd.prog 9 = true := by kernel_rfl
theorem z_field26_5 : fieldT Tryd.prog 26 5 = some 10 := by kernel_rfl
theorem z_size9 : sizeT Tryd.prog 9 = some 1 := by kernel_rfl
theorem z_size26 : sizeT Tryd.prog 26 = some 11 := by kernel_rfl
theorem z_en11 : enters Tryd.prog 11 = true := by kernel_rfl
theorem z_field26_0 : fieldT Tryd.prog 26 0 = some 0 := by kernel_rfl
theorem z_sc3 : isScalar Tryd.prog 3 = true := by kernel_rfl
theorem z_zero121 : zeroT Tryd.prog 121 = some [.string (bstr []), .int .i64 0, .int .i64 0, .int .i64 0, .int .i64 0, .int .i64 0, .int .i64 0] := by kernel_rfl
theorem z_str0 : (ByteArray.mk #[114, 111, 98, 111, 116]) = bstr [114, 111, 98, 111, 116] := by kernel_rfl
theorem z_struct121 : structT Tryd.prog 121 = some ([.string (bstr []), .int .i64 0, .int .i64 0, .int .i64 0, .int .i64 0, .int .i64 0, .int .i64 0], [(0, 1), (1, 1), (2, 1), (3, 1), (4, 1), (5, 1), (6, 1)]) := by kernel_rfl
theorem z_size121 : sizeT Tryd.prog 121 = some 7 := by kernel_rfl
theorem z_agg121 : aggSize Tryd.prog 121 = some 7 := by kernel_rfl
theorem z_en106 : enters Tryd.prog 106 = true := by kernel_rfl
theorem z_str1 : (ByteArray.mk #[115, 112, 101, 101, 100]) = bstr [115, 112, 101, 101, 100] := by kernel_rfl
theorem z_str2 : (ByteArray.mk #[97, 99, 99, 101, 108]) = bstr [97, 99, 99, 101, 108] := by kernel_rfl
theorem z_str3 : (ByteArray.mk #[112, 97, 116, 104]) = bstr [112, 97, 116, 104] := by kernel_rfl
theorem z_str4 : (ByteArray.mk #[116, 97, 103]) = bstr [116, 97, 103] := by kernel_rfl
theorem z_slT118 : slT Tryd.prog 118 = some (121, 7, 64) := by kernel_rfl
theorem z_str5 : (ByteArray.mk #[114, 101, 97, 115, 111, 110]) = bstr [114, 101, 97, 115, 111, 110] := by kernel_rfl
theorem z_str6 : (ByteArray.mk #[122, 111, 110, 101]) = bstr [122, 111, 110, 101] := by kernel_rfl
theorem z_str7 : (ByteArray.mk #[108, 101, 97, 115, 101]) = bstr [108, 101, 97, 115, 101] := by kernel_rfl
theorem z_str8 : (ByteArray.mk #[99, 101, 108, 108, 115]) = bstr [99, 101, 108, 108, 115] := by kernel_rfl
theorem z_str9 : (ByteArray.mk #[120]) = bstr [120] := by kernel_rfl
theorem z_str10 : (ByteArray.mk #[121]) = bstr [121] := by kernel_rfl
theorem z_str11 : (ByteArray.mk #[104, 101, 97, 100, 105, 110, 103]) = bstr [104, 101, 97, 100, 105, 110, 103] := by kernel_rfl
theorem z_str12 : (ByteArray.mk #[98, 97, 116, 116, 101, 114, 121]) = bstr [98, 97, 116, 116, 101, 114, 121] := by kernel_rfl
theorem z_str13 : (ByteArray.mk #[115, 117, 114, 101]) = bstr [115, 117, 114, 101] := by kernel_rfl
theorem z_str14 : (ByteArray.mk #[99, 111, 100, 101]) = bstr [99, 111, 100, 101] := by kernel_rfl
theorem z_str15 : (ByteArray.mk #[115, 101, 118, 101, 114, 105, 116, 121]) = bstr [115, 101, 118, 101, 114, 105, 116, 121] := by kernel_rfl
theorem z_str16 : (ByteArray.mk #[112, 97, 114, 116]) = bstr [112, 97, 114, 116] := by kernel_rfl
theorem z_str17 : (ByteArray.mk #[116, 105, 109, 101, 115]) = bstr [116, 105, 109, 101, 115] := by kernel_rfl
theorem z_str18 : (ByteArray.mk #[116, 101, 120, 116]) = bstr [116, 101, 120, 116] := by kernel_rfl
theorem z_en66 : enters Tryd.prog 66 = true := by kernel_rfl
theorem z_field121_1 : fieldT Tryd.prog 121 1 = some 1 := by kernel_rfl
theorem z_field121_3 : fieldT Tryd.prog 121 3 = some 3 := by kernel_rfl
theorem z_field121_4 : fieldT Tryd.prog 121 4 = some 4 := by kernel_rfl
theorem z_en146 : enters Tryd.prog 146 = true := by kernel_rfl
theorem z_agg46 : aggSize Tryd.prog 46 = some 2 := by kernel_rfl
theorem z_zero46 : zeroT Tryd.prog 46 = some [.int .i64 0, .int .i64 0] := by kernel_rfl
theorem z_size46 : sizeT Tryd.prog 46 = some 2 := by kernel_rfl
theorem z_field46_0 : fieldT Tryd.prog 46 0 = some 0 := by kernel_rfl
theorem z_field46_1 : fieldT Tryd.prog 46 1 = some 1 := by kernel_rfl
theorem z_en107 : enters Tryd.prog 107 = true := by kernel_rfl
theorem z_en108 : enters Tryd.prog 108 = true := by kernel_rfl
theorem z_slT67 : slT Tryd.prog 67 = some (5, 1, 1) := by kernel_rfl
theorem z_sc5 : isScalar Tryd.prog 5 = true := by kernel_rfl
theorem z_en109 : enters Tryd.prog 109 = true := by kernel_rfl
theorem z_field121_2 : fieldT Tryd.prog 121 2 = some 2 := by kernel_rfl
theorem z_field26_1 : fieldT Tryd.prog 26 1 = some 1 := by kernel_rfl
theorem z_arr22 : arrP Tryd.prog 22 = some (6, 3, 1) := by kernel_rfl
theorem z_en67 : enters Tryd.prog 67 = true := by kernel_rfl
theorem z_str19 : (ByteArray.mk #[]) = bstr [] := by kernel_rfl
theorem z_size3 : sizeT Tryd.prog 3 = some 1 := by kernel_rfl
theorem z_en68 : enters Tryd.prog 68 = true := by kernel_rfl
theorem z_struct26 : structT Tryd.prog 26 = some ([.int .i64 0, .int .i64 0, .int .i64 0, .int .i64 0, .int .i64 0, .int .i64 0, .int .i64 0, .slice none 0 0, .slice none 0 0, .string (bstr []), .string (bstr [])], [(0, 1), (1, 6), (7, 1), (8, 1), (9, 1), (10, 1)]) := by kernel_rfl
theorem z_agg22 : aggSize Tryd.prog 22 = some 6 := by kernel_rfl
theorem z_info3 : (Tryd.prog.info? 3).isSome = true := by kernel_rfl
theorem z_cell3 : Program.cellsOf Tryd.prog 3 = 1 := by kernel_rfl
theorem z_eqg22 : Program.eqGuardType Tryd.prog (Program.depth Tryd.prog) 22 = false := by kernel_rfl
theorem z_held46 : Program.stoodInHeld Tryd.prog 46 = false := by kernel_rfl
theorem z_eqg46 : Program.eqGuardType Tryd.prog (Program.depth Tryd.prog) 46 = false := by kernel_rfl
theorem z_en72 : enters Tryd.prog 72 = true := by kernel_rfl
theorem z_en73 : enters Tryd.prog 73 = true := by kernel_rfl
theorem z_en15 : enters Tryd.prog 15 = true := by kernel_rfl
theorem z_en12 : enters Tryd.prog 12 = true := by kernel_rfl
theorem z_arrz22 : arrT Tryd.prog 22 = some ([.int .i64 0, .int .i64 0, .int .i64 0, .int .i64 0, .int .i64 0, .int .i64 0], 1) := by kernel_rfl
theorem z_str20 : (ByteArray.mk #[109, 111, 118, 101]) = bstr [109, 111, 118, 101] := by kernel_rfl
theorem z_str21 : (ByteArray.mk #[104, 111, 108, 100]) = bstr [104, 111, 108, 100] := by kernel_rfl
theorem z_str22 : (ByteArray.mk #[103, 114, 97, 110, 116]) = bstr [103, 114, 97, 110, 116] := by kernel_rfl
theorem z_str23 : (ByteArray.mk #[112, 111, 115, 101]) = bstr [112, 111, 115, 101] := by kernel_rfl
theorem z_str24 : (ByteArray.mk #[102, 97, 117, 108, 116]) = bstr [102, 97, 117, 108, 116] := by kernel_rfl
theorem z_en69 : enters Tryd.prog 69 = true := by kernel_rfl
theorem z_zero9 : zeroT Tryd.prog 9 = some [.string (bstr [])] := by kernel_rfl
theorem z_field121_5 : fieldT Tryd.prog 121 5 = some 5 := by kernel_rfl
theorem z_en110 : enters Tryd.prog 110 = true := by kernel_rfl
theorem z_en70 : enters Tryd.prog 70 = true := by kernel_rfl
theorem z_field121_0 : fieldT Tryd.prog 121 0 = some 0 := by kernel_rfl
theorem z_str25 : (ByteArray.mk #[32]) = bstr [32] := by kernel_rfl
theorem z_en93 : enters Tryd.prog 93 = true := by kernel_rfl
theorem z_en77 : enters Tryd.prog 77 = true := by kernel_rfl
theorem z_str26 : (ByteArray.mk #[44]) = bstr [44] := by kernel_rfl
theorem z_slT68 : slT Tryd.prog 68 = some (9, 1, 16) := by kernel_rfl
theorem z_str27 : (ByteArray.mk #[59]) = bstr [59] := by kernel_rfl
theorem z_en111 : enters Tryd.prog 111 = true := by kernel_rfl
theorem z_str28 : (ByteArray.mk #[45]) = bstr [45] := by kernel_rfl
theorem z_str29 : (ByteArray.mk #[48, 49, 50, 51, 52, 53, 54, 55, 56, 57, 97, 98, 99, 100, 101, 102]) = bstr [48, 49, 50, 51, 52, 53, 54, 55, 56, 57, 97, 98, 99, 100, 101, 102] := by kernel_rfl
theorem z_zero5 : zeroT Tryd.prog 5 = some [.int .u8 0] := by kernel_rfl
theorem z_en112 : enters Tryd.prog 112 = true := by kernel_rfl
theorem z_en71 : enters Tryd.prog 71 = true := by kernel_rfl
theorem z_en14 : enters Tryd.prog 14 = true := by kernel_rfl
theorem z_en74 : enters Tryd.prog 74 = true := by kernel_rfl
theorem z_zero3 : zeroT Tryd.prog 3 = some [.int .i64 0] := by kernel_rfl
theorem z_en75 : enters Tryd.prog 75 = true := by kernel_rfl
theorem z_en16 : enters Tryd.prog 16 = true := by kernel_rfl
theorem z_zero35 : zeroT Tryd.prog 35 = some [.int .i64 0, .int .u32 0, .int .i64 0, .int .i64 0, .int .i64 0, .int .i64 0, .int .i64 0, .int .i64 0, .int .i64 0, .int .i64 0, .int .i64 0, .slice none 0 0, .slice none 0 0, .string (bstr []), .string (bstr [])] := by kernel_rfl
theorem z_struct35 : structT Tryd.prog 35 = some ([.int .i64 0, .int .u32 0, .int .i64 0, .int .i64 0, .int .i64 0, .int .i64 0, .int .i64 0, .int .i64 0, .int .i64 0, .int .i64 0, .int .i64 0, .slice none 0 0, .slice none 0 0, .string (bstr []), .string (bstr [])], [(0, 1), (1, 1), (2, 1), (3, 1), (4, 11)]) := by kernel_rfl
theorem z_size35 : sizeT Tryd.prog 35 = some 15 := by kernel_rfl
theorem z_agg35 : aggSize Tryd.prog 35 = some 15 := by kernel_rfl
theorem z_en17 : enters Tryd.prog 17 = true := by kernel_rfl
theorem z_field35_0 : fieldT Tryd.prog 35 0 = some 0 := by kernel_rfl
theorem z_field35_1 : fieldT Tryd.prog 35 1 = some 1 := by kernel_rfl
theorem z_sc33 : isScalar Tryd.prog 33 = true := by kernel_rfl
theorem z_field35_2 : fieldT Tryd.prog 35 2 = some 2 := by kernel_rfl
theorem z_field35_3 : fieldT Tryd.prog 35 3 = some 3 := by kernel_rfl
theorem z_sc28 : isScalar Tryd.prog 28 = true := by kernel_rfl
theorem z_field35_4 : fieldT Tryd.prog 35 4 = some 4 := by kernel_rfl
theorem z_en24 : enters Tryd.prog 24 = true := by kernel_rfl
theorem z_str33 : (ByteArray.mk #[100, 101, 108, 105, 118, 101, 114, 32]) = bstr [100, 101, 108, 105, 118, 101, 114, 32] := by kernel_rfl
theorem z_str34 : (ByteArray.mk #[32, 118, 32]) = bstr [32, 118, 32] := by kernel_rfl
theorem z_str35 : (ByteArray.mk #[114, 101, 106, 101, 99, 116, 32]) = bstr [114, 101, 106, 101, 99, 116, 32] := by kernel_rfl
theorem z_str36 : (ByteArray.mk #[108, 111, 110, 103]) = bstr [108, 111, 110, 103] := by kernel_rfl
theorem z_str37 : (ByteArray.mk #[102, 111, 114, 109]) = bstr [102, 111, 114, 109] := by kernel_rfl
theorem z_str38 : (ByteArray.mk #[101, 110, 100]) = bstr [101, 110, 100] := by kernel_rfl
theorem z_str39 : (ByteArray.mk #[114, 97, 110, 103, 101]) = bstr [114, 97, 110, 103, 101] := by kernel_rfl
theorem z_str40 : (ByteArray.mk #[109, 97, 110, 121]) = bstr [109, 97, 110, 121] := by kernel_rfl
theorem z_str41 : (ByteArray.mk #[107, 105, 110, 100]) = bstr [107, 105, 110, 100] := by kernel_rfl
theorem z_str42 : (ByteArray.mk #[118, 101, 114, 115, 105, 111, 110]) = bstr [118, 101, 114, 115, 105, 111, 110] := by kernel_rfl
theorem z_str43 : (ByteArray.mk #[115, 117, 109]) = bstr [115, 117, 109] := by kernel_rfl
theorem z_str44 : (ByteArray.mk #[115, 116, 117, 102, 102]) = bstr [115, 116, 117, 102, 102] := by kernel_rfl
theorem z_str45 : (ByteArray.mk #[115, 104, 111, 114, 116]) = bstr [115, 104, 111, 114, 116] := by kernel_rfl
theorem z_str46 : (ByteArray.mk #[115, 101, 101, 110]) = bstr [115, 101, 101, 110] := by kernel_rfl
theorem z_str47 : (ByteArray.mk #[111, 108, 100]) = bstr [111, 108, 100] := by kernel_rfl
theorem z_str48 : (ByteArray.mk #[116, 119, 105, 99, 101]) = bstr [116, 119, 105, 99, 101] := by kernel_rfl
theorem z_str49 : (ByteArray.mk #[109, 101, 101, 116]) = bstr [109, 101, 101, 116] := by kernel_rfl
theorem z_str50 : (ByteArray.mk #[108, 97, 116, 101]) = bstr [108, 97, 116, 101] := by kernel_rfl
theorem z_en28 : enters Tryd.prog 28 = true := by kernel_rfl
theorem z_str51 : (ByteArray.mk #[101, 118, 105, 99, 116, 32]) = bstr [101, 118, 105, 99, 116, 32] := by kernel_rfl
theorem z_en25 : enters Tryd.prog 25 = true := by kernel_rfl
theorem z_str52 : (ByteArray.mk #[100, 101, 108, 105, 118, 101, 114, 32, 55, 32, 118, 32, 49, 32, 104, 111, 108, 100, 32, 114, 111, 98, 111, 116, 32, 49, 32, 114, 101, 97, 115, 111, 110, 32, 50, 32, 122, 111, 110, 101, 32, 48]) = bstr [100, 101, 108, 105, 118, 101, 114, 32, 55, 32, 118, 32, 49, 32, 104, 111, 108, 100, 32, 114, 111, 98, 111, 116, 32, 49, 32, 114, 101, 97, 115, 111, 110, 32, 50, 32, 122, 111, 110, 101, 32, 48] := by kernel_rfl
theorem z_en22 : enters Tryd.prog 22 = true := by kernel_rfl
theorem z_str53 : (ByteArray.mk #[114, 101, 106, 101, 99, 116, 32, 48, 32, 115, 117, 109]) = bstr [114, 101, 106, 101, 99, 116, 32, 48, 32, 115, 117, 109] := by kernel_rfl
theorem z_en23 : enters Tryd.prog 23 = true := by kernel_rfl
theorem z_str54 : (ByteArray.mk #[101, 118, 105, 99, 116, 32, 53]) = bstr [101, 118, 105, 99, 116, 32, 53] := by kernel_rfl
theorem z_en21 : enters Tryd.prog 21 = true := by kernel_rfl
theorem z_size4 : sizeT Tryd.prog 4 = some 1 := by kernel_rfl
theorem z_sc4 : isScalar Tryd.prog 4 = true := by kernel_rfl
theorem z_zero57 : zeroT Tryd.prog 57 = some [.slice none 0 0] := by kernel_rfl
theorem z_slT57 : slT Tryd.prog 57 = some (35, 15, 168) := by kernel_rfl
theorem z_sc57 : isScalar Tryd.prog 57 = true := by kernel_rfl
theorem z_size57 : sizeT Tryd.prog 57 = some 1 := by kernel_rfl
theorem z_zero4 : zeroT Tryd.prog 4 = some [.bool false] := by kernel_rfl
theorem z_en80 : enters Tryd.prog 80 = true := by kernel_rfl
theorem z_en30 : enters Tryd.prog 30 = true := by kernel_rfl
theorem z_zero61 : zeroT Tryd.prog 61 = some [.slice none 0 0] := by kernel_rfl
theorem z_sc61 : isScalar Tryd.prog 61 = true := by kernel_rfl
theorem z_slT61 : slT Tryd.prog 61 = some (33, 1, 4) := by kernel_rfl
theorem z_zero33 : zeroT Tryd.prog 33 = some [.int .u32 0] := by kernel_rfl
theorem z_size61 : sizeT Tryd.prog 61 = some 1 := by kernel_rfl
theorem z_en31 : enters Tryd.prog 31 = true := by kernel_rfl
theorem z_en81 : enters Tryd.prog 81 = true := by kernel_rfl
theorem z_en32 : enters Tryd.prog 32 = true := by kernel_rfl
theorem z_size33 : sizeT Tryd.prog 33 = some 1 := by kernel_rfl
theorem z_size28 : sizeT Tryd.prog 28 = some 1 := by kernel_rfl
theorem z_size22 : sizeT Tryd.prog 22 = some 6 := by kernel_rfl
def z_tyf : TyF := ⟨[(3, .i64), (33, .u32)], [(121, 0, 0), (121, 1, 1), (121, 2, 2), (121, 3, 3), (121, 4, 4), (121, 5, 5), (26, 0, 0), (26, 1, 1), (26, 2, 7), (26, 3, 8), (26, 4, 9), (26, 5, 10), (35, 0, 0), (35, 1, 1), (35, 2, 2), (35, 3, 3), (35, 4, 4), (46, 0, 0), (46, 1, 1)], [9], [], [], [59, 64]⟩
theorem z_T : TyOk Tryd.prog z_tyf := ⟨(fa_cons Tryd.underlying3 (fa_cons Tryd.underlying33 fa_nil)), (fa_cons z_field121_0 (fa_cons z_field121_1 (fa_cons z_field121_2 (fa_cons z_field121_3 (fa_cons z_field121_4 (fa_cons z_field121_5 (fa_cons z_field26_0 (fa_cons z_field26_1 (fa_cons z_field26_2 (fa_cons z_field26_3 (fa_cons z_field26_4 (fa_cons z_field26_5 (fa_cons z_field35_0 (fa_cons z_field35_1 (fa_cons z_field35_2 (fa_cons z_field35_3 (fa_cons z_field35_4 (fa_cons z_field46_0 (fa_cons z_field46_1 fa_nil))))))))))))))))))), (fa_cons Tryd.underlying9 fa_nil), fa_nil, fa_nil, (fa_cons ⟨_, _, _, Tryd.underlying59⟩ (fa_cons ⟨_, _, _, Tryd.underlying64⟩ fa_nil))⟩
def z_tym : TyM := ⟨[23, 24, 28, 3, 33, 4, 57, 61, 9], [(121, 7), (22, 6), (26, 11), (35, 15), (46, 2)], [(26, [.int .i64 0, .int .i64 0, .int .i64 0, .int .i64 0, .int .i64 0, .int .i64 0, .int .i64 0, .slice none 0 0, .slice none 0 0, .string (bstr []), .string (bstr [])], [(0, 1), (1, 6), (7, 1), (8, 1), (9, 1), (10, 1)]), (35, [.int .i64 0, .int .u32 0, .int .i64 0, .int .i64 0, .int .i64 0, .int .i64 0, .int .i64 0, .int .i64 0, .int .i64 0, .int .i64 0, .int .i64 0, .slice none 0 0, .slice none 0 0, .string (bstr []), .string (bstr [])], [(0, 1), (1, 1), (2, 1), (3, 1), (4, 11)])], []⟩
theorem z_M : TyMOk Tryd.prog z_tym := ⟨(fa_cons z_sc23 (fa_cons z_sc24 (fa_cons z_sc28 (fa_cons z_sc3 (fa_cons z_sc33 (fa_cons z_sc4 (fa_cons z_sc57 (fa_cons z_sc61 (fa_cons z_sc9 fa_nil))))))))), (fa_cons z_size23 (fa_cons z_size24 (fa_cons z_size28 (fa_cons z_size3 (fa_cons z_size33 (fa_cons z_size4 (fa_cons z_size57 (fa_cons z_size61 (fa_cons z_size9 fa_nil))))))))), (fa_cons z_agg121 (fa_cons z_agg22 (fa_cons z_agg26 (fa_cons z_agg35 (fa_cons z_agg46 fa_nil))))), (fa_cons z_size121 (fa_cons z_size22 (fa_cons z_size26 (fa_cons z_size35 (fa_cons z_size46 fa_nil))))), (fa_cons z_struct26 (fa_cons z_struct35 fa_nil)), fa_nil⟩
theorem Z {n : Nat} {c : Ctx Tryd.prog n} {σ : Sto} {gs : List Grp} (f : Nat) {ρ ρ' : Env} {k k' : List Item} (h : go z_tyf n f ρ k = some (ρ', k')) (hk : St c ρ' σ gs k') : St c ρ σ gs k := st_go z_T f h hk
theorem dA {n : Nat} {c : Ctx Tryd.prog n} {k : List Item} {ops : Array Oper} {dsts : List Nat} {L : List DT} {ρ : Env} {i : Nat} (h : dpv z_tyf n ops dsts L ρ i = dvl L i := by exact rfl) (hs : (dvl L i).isSome = true := by exact rfl) : Core c k ops dsts L ρ i := core_A z_T h hs
theorem dG {n : Nat} {c : Ctx Tryd.prog n} {k : List Item} {ops : Array Oper} {dsts : List Nat} {L : List DT} {ρ : Env} {i : Nat} (ks : List Nat) (h : DGok z_tyf n ops dsts L ρ ks i := by exact ⟨rfl, rfl, rfl⟩) : Core c k ops dsts L ρ i := core_G z_T h
theorem ZZ {n : Nat} {c : Ctx Tryd.prog n} {σ : Sto} (f : Nat) (js : List Nat) {gs gs' : List Grp} {ρ ρ' : Env} {k k' : List Item} {e : List (Nat × Nat)} (h : go2 z_tyf z_tym n f js ρ gs k = some (ρ', gs', k', e)) (he : e.map (·.1) = e.map (·.2)) (hk : St c ρ' σ gs' k') : St c ρ σ gs k := st_go2 z_T z_M f h he hk
end Go.Rel
