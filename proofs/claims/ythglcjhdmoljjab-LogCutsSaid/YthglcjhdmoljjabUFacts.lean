import Derived.Test.YthglcjhdmoljjabProg
import Derived.Test.YthglcjhdmoljjabEngU
import Derived.KernelRfl
/-! Facts of the program's types and functions. -/
namespace Go.Rel
open Go Go.Eng Go.Proofs
theorem z_slT22 : slT Try.prog 22 = some (31, 15, 168) := by kernel_rfl
theorem z_agg31 : aggSize Try.prog 31 = some 15 := by kernel_rfl
theorem z_zero31 : zeroT Try.prog 31 = some [.int .i64 0, .int .u32 0, .int .i64 0, .int .i64 0, .int .i64 0, .int .i64 0, .int .i64 0, .int .i64 0, .int .i64 0, .int .i64 0, .int .i64 0, .slice none 0 0, .slice none 0 0, .string (bstr []), .string (bstr [])] := by kernel_rfl
theorem z_field31_4 : fieldT Try.prog 31 4 = some 4 := by kernel_rfl
theorem z_agg29 : aggSize Try.prog 29 = some 11 := by kernel_rfl
theorem z_zero29 : zeroT Try.prog 29 = some [.int .i64 0, .int .i64 0, .int .i64 0, .int .i64 0, .int .i64 0, .int .i64 0, .int .i64 0, .slice none 0 0, .slice none 0 0, .string (bstr []), .string (bstr [])] := by kernel_rfl
theorem z_field29_2 : fieldT Try.prog 29 2 = some 7 := by kernel_rfl
theorem z_sc26 : isScalar Try.prog 26 = true := by kernel_rfl
theorem z_slT26 : slT Try.prog 26 = some (61, 2, 16) := by kernel_rfl
theorem z_field29_3 : fieldT Try.prog 29 3 = some 8 := by kernel_rfl
theorem z_sc27 : isScalar Try.prog 27 = true := by kernel_rfl
theorem z_slT27 : slT Try.prog 27 = some (3, 1, 8) := by kernel_rfl
theorem z_size26 : sizeT Try.prog 26 = some 1 := by kernel_rfl
theorem z_mix : Try.prog.follows .mixedOrders = true := by kernel_rfl
theorem z_size27 : sizeT Try.prog 27 = some 1 := by kernel_rfl
theorem z_field29_4 : fieldT Try.prog 29 4 = some 9 := by kernel_rfl
theorem z_sc9 : isScalar Try.prog 9 = true := by kernel_rfl
theorem z_field29_5 : fieldT Try.prog 29 5 = some 10 := by kernel_rfl
theorem z_size9 : sizeT Try.prog 9 = some 1 := by kernel_rfl
theorem z_size29 : sizeT Try.prog 29 = some 11 := by kernel_rfl
theorem z_en11 : enters Try.prog 11 = true := by kernel_rfl
theorem z_size31 : sizeT Try.prog 31 = some 15 := by kernel_rfl
theorem z_en4 : enters Try.prog 4 = true := by kernel_rfl
theorem z_field31_0 : fieldT Try.prog 31 0 = some 0 := by kernel_rfl
theorem z_sc3 : isScalar Try.prog 3 = true := by kernel_rfl
theorem z_field31_2 : fieldT Try.prog 31 2 = some 2 := by kernel_rfl
theorem z_field29_0 : fieldT Try.prog 29 0 = some 0 := by kernel_rfl
theorem z_zero56 : zeroT Try.prog 56 = some [.string (bstr []), .int .i64 0, .int .i64 0, .int .i64 0, .int .i64 0, .int .i64 0, .int .i64 0] := by kernel_rfl
theorem z_str0 : (ByteArray.mk #[114, 111, 98, 111, 116]) = bstr [114, 111, 98, 111, 116] := by kernel_rfl
theorem z_struct56 : structT Try.prog 56 = some ([.string (bstr []), .int .i64 0, .int .i64 0, .int .i64 0, .int .i64 0, .int .i64 0, .int .i64 0], [(0, 1), (1, 1), (2, 1), (3, 1), (4, 1), (5, 1), (6, 1)]) := by kernel_rfl
theorem z_size56 : sizeT Try.prog 56 = some 7 := by kernel_rfl
theorem z_agg56 : aggSize Try.prog 56 = some 7 := by kernel_rfl
theorem z_en39 : enters Try.prog 39 = true := by kernel_rfl
theorem z_str1 : (ByteArray.mk #[115, 112, 101, 101, 100]) = bstr [115, 112, 101, 101, 100] := by kernel_rfl
theorem z_str2 : (ByteArray.mk #[97, 99, 99, 101, 108]) = bstr [97, 99, 99, 101, 108] := by kernel_rfl
theorem z_str3 : (ByteArray.mk #[112, 97, 116, 104]) = bstr [112, 97, 116, 104] := by kernel_rfl
theorem z_str4 : (ByteArray.mk #[116, 97, 103]) = bstr [116, 97, 103] := by kernel_rfl
theorem z_slT53 : slT Try.prog 53 = some (56, 7, 64) := by kernel_rfl
theorem z_str5 : (ByteArray.mk #[114, 101, 97, 115, 111, 110]) = bstr [114, 101, 97, 115, 111, 110] := by kernel_rfl
theorem z_str6 : (ByteArray.mk #[122, 111, 110, 101]) = bstr [122, 111, 110, 101] := by kernel_rfl
theorem z_str7 : (ByteArray.mk #[108, 101, 97, 115, 101]) = bstr [108, 101, 97, 115, 101] := by kernel_rfl
theorem z_str8 : (ByteArray.mk #[99, 101, 108, 108, 115]) = bstr [99, 101, 108, 108, 115] := by kernel_rfl
theorem z_str9 : (ByteArray.mk #[120]) = bstr [120] := by kernel_rfl
theorem z_str10 : (ByteArray.mk #[121]) = bstr [121] := by kernel_rfl
theorem z_str11 : (ByteArray.mk #[104, 101, 97, 100, 105, 110, 103]) = bstr [104, 101, 97, 100, 105, 110, 103] := by kernel_rfl
theorem z_str12 : (ByteArray.mk #[98, 97, 116, 116, 101, 114, 121]) = bstr [98, 97, 116, 116, 101, 114, 121] := by kernel_rfl
theorem z_str13 : (ByteArray.mk #[115, 117, 114, 101]) = bstr [115, 117, 114, 101] := by kernel_rfl
theorem z_str14 : (ByteArray.mk #[99, 111, 100, 101]) = bstr [99, 111, 100, 101] := by kernel_rfl
theorem z_str15 : (ByteArray.mk #[115, 101, 118, 101, 114, 105, 116, 121]) = bstr [115, 101, 118, 101, 114, 105, 116, 121] := by kernel_rfl
theorem z_str16 : (ByteArray.mk #[112, 97, 114, 116]) = bstr [112, 97, 114, 116] := by kernel_rfl
theorem z_str17 : (ByteArray.mk #[116, 105, 109, 101, 115]) = bstr [116, 105, 109, 101, 115] := by kernel_rfl
theorem z_str18 : (ByteArray.mk #[116, 101, 120, 116]) = bstr [116, 101, 120, 116] := by kernel_rfl
theorem z_en21 : enters Try.prog 21 = true := by kernel_rfl
theorem z_field56_1 : fieldT Try.prog 56 1 = some 1 := by kernel_rfl
theorem z_field56_3 : fieldT Try.prog 56 3 = some 3 := by kernel_rfl
theorem z_field56_4 : fieldT Try.prog 56 4 = some 4 := by kernel_rfl
theorem z_en56 : enters Try.prog 56 = true := by kernel_rfl
theorem z_agg61 : aggSize Try.prog 61 = some 2 := by kernel_rfl
theorem z_zero61 : zeroT Try.prog 61 = some [.int .i64 0, .int .i64 0] := by kernel_rfl
theorem z_size61 : sizeT Try.prog 61 = some 2 := by kernel_rfl
theorem z_field61_0 : fieldT Try.prog 61 0 = some 0 := by kernel_rfl
theorem z_field61_1 : fieldT Try.prog 61 1 = some 1 := by kernel_rfl
theorem z_en40 : enters Try.prog 40 = true := by kernel_rfl
theorem z_en41 : enters Try.prog 41 = true := by kernel_rfl
theorem z_slT34 : slT Try.prog 34 = some (5, 1, 1) := by kernel_rfl
theorem z_sc5 : isScalar Try.prog 5 = true := by kernel_rfl
theorem z_en42 : enters Try.prog 42 = true := by kernel_rfl
theorem z_field56_2 : fieldT Try.prog 56 2 = some 2 := by kernel_rfl
theorem z_field29_1 : fieldT Try.prog 29 1 = some 1 := by kernel_rfl
theorem z_arr25 : arrP Try.prog 25 = some (6, 3, 1) := by kernel_rfl
theorem z_en22 : enters Try.prog 22 = true := by kernel_rfl
theorem z_str19 : (ByteArray.mk #[]) = bstr [] := by kernel_rfl
theorem z_size3 : sizeT Try.prog 3 = some 1 := by kernel_rfl
theorem z_en23 : enters Try.prog 23 = true := by kernel_rfl
theorem z_struct29 : structT Try.prog 29 = some ([.int .i64 0, .int .i64 0, .int .i64 0, .int .i64 0, .int .i64 0, .int .i64 0, .int .i64 0, .slice none 0 0, .slice none 0 0, .string (bstr []), .string (bstr [])], [(0, 1), (1, 6), (7, 1), (8, 1), (9, 1), (10, 1)]) := by kernel_rfl
theorem z_agg25 : aggSize Try.prog 25 = some 6 := by kernel_rfl
theorem z_info3 : (Try.prog.info? 3).isSome = true := by kernel_rfl
theorem z_cell3 : Program.cellsOf Try.prog 3 = 1 := by kernel_rfl
theorem z_eqg25 : Program.eqGuardType Try.prog (Program.depth Try.prog) 25 = false := by kernel_rfl
theorem z_held61 : Program.stoodInHeld Try.prog 61 = false := by kernel_rfl
theorem z_eqg61 : Program.eqGuardType Try.prog (Program.depth Try.prog) 61 = false := by kernel_rfl
theorem z_en24 : enters Try.prog 24 = true := by kernel_rfl
theorem z_en25 : enters Try.prog 25 = true := by kernel_rfl
theorem z_en13 : enters Try.prog 13 = true := by kernel_rfl
theorem z_en12 : enters Try.prog 12 = true := by kernel_rfl
theorem z_field31_3 : fieldT Try.prog 31 3 = some 3 := by kernel_rfl
theorem z_sc24 : isScalar Try.prog 24 = true := by kernel_rfl
theorem z_str20 : (ByteArray.mk #[108, 111, 110, 103]) = bstr [108, 111, 110, 103] := by kernel_rfl
theorem z_str21 : (ByteArray.mk #[102, 111, 114, 109]) = bstr [102, 111, 114, 109] := by kernel_rfl
theorem z_str22 : (ByteArray.mk #[101, 110, 100]) = bstr [101, 110, 100] := by kernel_rfl
theorem z_str23 : (ByteArray.mk #[114, 97, 110, 103, 101]) = bstr [114, 97, 110, 103, 101] := by kernel_rfl
theorem z_str24 : (ByteArray.mk #[109, 97, 110, 121]) = bstr [109, 97, 110, 121] := by kernel_rfl
theorem z_str25 : (ByteArray.mk #[107, 105, 110, 100]) = bstr [107, 105, 110, 100] := by kernel_rfl
theorem z_str26 : (ByteArray.mk #[118, 101, 114, 115, 105, 111, 110]) = bstr [118, 101, 114, 115, 105, 111, 110] := by kernel_rfl
theorem z_str27 : (ByteArray.mk #[115, 117, 109]) = bstr [115, 117, 109] := by kernel_rfl
theorem z_str28 : (ByteArray.mk #[115, 116, 117, 102, 102]) = bstr [115, 116, 117, 102, 102] := by kernel_rfl
theorem z_str29 : (ByteArray.mk #[115, 104, 111, 114, 116]) = bstr [115, 104, 111, 114, 116] := by kernel_rfl
theorem z_str30 : (ByteArray.mk #[115, 101, 101, 110]) = bstr [115, 101, 101, 110] := by kernel_rfl
theorem z_str31 : (ByteArray.mk #[111, 108, 100]) = bstr [111, 108, 100] := by kernel_rfl
theorem z_str32 : (ByteArray.mk #[116, 119, 105, 99, 101]) = bstr [116, 119, 105, 99, 101] := by kernel_rfl
theorem z_str33 : (ByteArray.mk #[109, 101, 101, 116]) = bstr [109, 101, 101, 116] := by kernel_rfl
theorem z_str34 : (ByteArray.mk #[108, 97, 116, 101]) = bstr [108, 97, 116, 101] := by kernel_rfl
theorem z_en14 : enters Try.prog 14 = true := by kernel_rfl
theorem z_en5 : enters Try.prog 5 = true := by kernel_rfl
theorem z_struct82 : structT Try.prog 82 = some ([.slice none 0 0, .int .i64 0, .bool false], [(0, 1), (1, 1), (2, 1)]) := by kernel_rfl
theorem z_struct84 : structT Try.prog 84 = some ([.slice none 0 0, .int .i64 0, .bool false], [(0, 3)]) := by kernel_rfl
theorem z_en26 : enters Try.prog 26 = true := by kernel_rfl
theorem z_arrz104 : arrT Try.prog 104 = some ([.int .u8 0, .int .u8 0, .int .u8 0, .int .u8 0], 1) := by kernel_rfl
theorem z_zero104 : zeroT Try.prog 104 = some [.int .u8 0, .int .u8 0, .int .u8 0, .int .u8 0] := by kernel_rfl
theorem z_size104 : sizeT Try.prog 104 = some 4 := by kernel_rfl
theorem z_arr104 : arrP Try.prog 104 = some (4, 5, 1) := by kernel_rfl
theorem z_field84_0 : fieldT Try.prog 84 0 = some 0 := by kernel_rfl
theorem z_field82_2 : fieldT Try.prog 82 2 = some 2 := by kernel_rfl
theorem z_sc4 : isScalar Try.prog 4 = true := by kernel_rfl
theorem z_field82_1 : fieldT Try.prog 82 1 = some 1 := by kernel_rfl
theorem z_field82_0 : fieldT Try.prog 82 0 = some 0 := by kernel_rfl
theorem z_sc34 : isScalar Try.prog 34 = true := by kernel_rfl
theorem z_size4 : sizeT Try.prog 4 = some 1 := by kernel_rfl
theorem z_size34 : sizeT Try.prog 34 = some 1 := by kernel_rfl
theorem z_en30 : enters Try.prog 30 = true := by kernel_rfl
theorem z_en43 : enters Try.prog 43 = true := by kernel_rfl
theorem z_en27 : enters Try.prog 27 = true := by kernel_rfl
theorem z_field31_1 : fieldT Try.prog 31 1 = some 1 := by kernel_rfl
theorem z_sc23 : isScalar Try.prog 23 = true := by kernel_rfl
theorem z_en28 : enters Try.prog 28 = true := by kernel_rfl
theorem z_en44 : enters Try.prog 44 = true := by kernel_rfl
theorem z_zero34 : zeroT Try.prog 34 = some [.slice none 0 0] := by kernel_rfl
theorem z_field56_5 : fieldT Try.prog 56 5 = some 5 := by kernel_rfl
theorem z_en66 : enters Try.prog 66 = true := by kernel_rfl
theorem z_en58 : enters Try.prog 58 = true := by kernel_rfl
theorem z_sc105 : isScalar Try.prog 105 = true := by kernel_rfl
theorem z_field56_0 : fieldT Try.prog 56 0 = some 0 := by kernel_rfl
theorem z_slT110 : slT Try.prog 110 = some (91, 1, 8) := by kernel_rfl
theorem z_zero91 : zeroT Try.prog 91 = some [.int .u64 0] := by kernel_rfl
theorem z_sc91 : isScalar Try.prog 91 = true := by kernel_rfl
theorem z_zero5 : zeroT Try.prog 5 = some [.int .u8 0] := by kernel_rfl
theorem z_en46 : enters Try.prog 46 = true := by kernel_rfl
theorem z_en67 : enters Try.prog 67 = true := by kernel_rfl
theorem z_slT133 : slT Try.prog 133 = some (2, 1, 8) := by kernel_rfl
theorem z_zero2 : zeroT Try.prog 2 = some [.int .i64 0] := by kernel_rfl
theorem z_sc2 : isScalar Try.prog 2 = true := by kernel_rfl
theorem z_en81 : enters Try.prog 81 = true := by kernel_rfl
theorem z_en68 : enters Try.prog 68 = true := by kernel_rfl
theorem z_en69 : enters Try.prog 69 = true := by kernel_rfl
theorem z_en70 : enters Try.prog 70 = true := by kernel_rfl
theorem z_en31 : enters Try.prog 31 = true := by kernel_rfl
theorem z_en32 : enters Try.prog 32 = true := by kernel_rfl
theorem z_en59 : enters Try.prog 59 = true := by kernel_rfl
theorem z_en57 : enters Try.prog 57 = true := by kernel_rfl
theorem z_en45 : enters Try.prog 45 = true := by kernel_rfl
theorem z_en29 : enters Try.prog 29 = true := by kernel_rfl
theorem z_en15 : enters Try.prog 15 = true := by kernel_rfl
theorem z_en6 : enters Try.prog 6 = true := by kernel_rfl
theorem z_en7 : enters Try.prog 7 = true := by kernel_rfl
theorem z_struct31 : structT Try.prog 31 = some ([.int .i64 0, .int .u32 0, .int .i64 0, .int .i64 0, .int .i64 0, .int .i64 0, .int .i64 0, .int .i64 0, .int .i64 0, .int .i64 0, .int .i64 0, .slice none 0 0, .slice none 0 0, .string (bstr []), .string (bstr [])], [(0, 1), (1, 1), (2, 1), (3, 1), (4, 11)]) := by kernel_rfl
theorem z_en16 : enters Try.prog 16 = true := by kernel_rfl
theorem z_en17 : enters Try.prog 17 = true := by kernel_rfl
theorem z_en8 : enters Try.prog 8 = true := by kernel_rfl
theorem z_zero22 : zeroT Try.prog 22 = some [.slice none 0 0] := by kernel_rfl
theorem z_struct93 : structT Try.prog 93 = some ([.slice none 0 0, .int .i64 0, .int .i64 0], [(0, 1), (1, 1), (2, 1)]) := by kernel_rfl
theorem z_en33 : enters Try.prog 33 = true := by kernel_rfl
theorem z_field93_0 : fieldT Try.prog 93 0 = some 0 := by kernel_rfl
theorem z_field93_1 : fieldT Try.prog 93 1 = some 1 := by kernel_rfl
theorem z_en47 : enters Try.prog 47 = true := by kernel_rfl
theorem z_en34 : enters Try.prog 34 = true := by kernel_rfl
theorem z_en35 : enters Try.prog 35 = true := by kernel_rfl
theorem z_field93_2 : fieldT Try.prog 93 2 = some 2 := by kernel_rfl
theorem z_en50 : enters Try.prog 50 = true := by kernel_rfl
theorem z_en49 : enters Try.prog 49 = true := by kernel_rfl
theorem z_size24 : sizeT Try.prog 24 = some 1 := by kernel_rfl
theorem z_en48 : enters Try.prog 48 = true := by kernel_rfl
theorem z_en36 : enters Try.prog 36 = true := by kernel_rfl
theorem z_en37 : enters Try.prog 37 = true := by kernel_rfl
theorem z_zero23 : zeroT Try.prog 23 = some [.int .u32 0] := by kernel_rfl
theorem z_size23 : sizeT Try.prog 23 = some 1 := by kernel_rfl
theorem z_en82 : enters Try.prog 82 = true := by kernel_rfl
theorem z_en72 : enters Try.prog 72 = true := by kernel_rfl
theorem z_en71 : enters Try.prog 71 = true := by kernel_rfl
theorem z_en60 : enters Try.prog 60 = true := by kernel_rfl
theorem z_en51 : enters Try.prog 51 = true := by kernel_rfl
theorem z_en52 : enters Try.prog 52 = true := by kernel_rfl
theorem z_en80 : enters Try.prog 80 = true := by kernel_rfl
theorem z_en65 : enters Try.prog 65 = true := by kernel_rfl
theorem z_en54 : enters Try.prog 54 = true := by kernel_rfl
theorem z_str35 : (ByteArray.mk #[109, 111, 118, 101]) = bstr [109, 111, 118, 101] := by kernel_rfl
theorem z_str36 : (ByteArray.mk #[104, 111, 108, 100]) = bstr [104, 111, 108, 100] := by kernel_rfl
theorem z_str37 : (ByteArray.mk #[103, 114, 97, 110, 116]) = bstr [103, 114, 97, 110, 116] := by kernel_rfl
theorem z_str38 : (ByteArray.mk #[112, 111, 115, 101]) = bstr [112, 111, 115, 101] := by kernel_rfl
theorem z_str39 : (ByteArray.mk #[102, 97, 117, 108, 116]) = bstr [102, 97, 117, 108, 116] := by kernel_rfl
theorem z_en61 : enters Try.prog 61 = true := by kernel_rfl
theorem z_struct116 : structT Try.prog 116 = some ([.pointer none, .int .i64 0], [(0, 1), (1, 1)]) := by kernel_rfl
theorem z_zero114 : zeroT Try.prog 114 = some [.pointer none] := by kernel_rfl
theorem z_size114 : sizeT Try.prog 114 = some 1 := by kernel_rfl
theorem z_sc114 : isScalar Try.prog 114 = true := by kernel_rfl
theorem z_field116_0 : fieldT Try.prog 116 0 = some 0 := by kernel_rfl
theorem z_sc70 : isScalar Try.prog 70 = true := by kernel_rfl
theorem z_size91 : sizeT Try.prog 91 = some 1 := by kernel_rfl
theorem z_en83 : enters Try.prog 83 = true := by kernel_rfl
theorem z_en73 : enters Try.prog 73 = true := by kernel_rfl
theorem z_field116_1 : fieldT Try.prog 116 1 = some 1 := by kernel_rfl
theorem z_en63 : enters Try.prog 63 = true := by kernel_rfl
theorem z_en74 : enters Try.prog 74 = true := by kernel_rfl
theorem z_size2 : sizeT Try.prog 2 = some 1 := by kernel_rfl
theorem z_en85 : enters Try.prog 85 = true := by kernel_rfl
theorem z_en84 : enters Try.prog 84 = true := by kernel_rfl
theorem z_en75 : enters Try.prog 75 = true := by kernel_rfl
theorem z_en87 : enters Try.prog 87 = true := by kernel_rfl
theorem z_en86 : enters Try.prog 86 = true := by kernel_rfl
theorem z_en76 : enters Try.prog 76 = true := by kernel_rfl
theorem z_zero3 : zeroT Try.prog 3 = some [.int .i64 0] := by kernel_rfl
theorem z_en77 : enters Try.prog 77 = true := by kernel_rfl
theorem z_en78 : enters Try.prog 78 = true := by kernel_rfl
theorem z_en62 : enters Try.prog 62 = true := by kernel_rfl
theorem z_en55 : enters Try.prog 55 = true := by kernel_rfl
theorem z_en88 : enters Try.prog 88 = true := by kernel_rfl
theorem z_en89 : enters Try.prog 89 = true := by kernel_rfl
theorem z_en79 : enters Try.prog 79 = true := by kernel_rfl
theorem z_field56_6 : fieldT Try.prog 56 6 = some 6 := by kernel_rfl
theorem z_en64 : enters Try.prog 64 = true := by kernel_rfl
theorem z_en53 : enters Try.prog 53 = true := by kernel_rfl
theorem z_en38 : enters Try.prog 38 = true := by kernel_rfl
theorem z_sc22 : isScalar Try.prog 22 = true := by kernel_rfl
theorem z_size22 : sizeT Try.prog 22 = some 1 := by kernel_rfl
theorem z_en19 : enters Try.prog 19 = true := by kernel_rfl
theorem z_en18 : enters Try.prog 18 = true := by kernel_rfl
theorem z_en9 : enters Try.prog 9 = true := by kernel_rfl
theorem z_en20 : enters Try.prog 20 = true := by kernel_rfl
theorem z_en10 : enters Try.prog 10 = true := by kernel_rfl
theorem z_size25 : sizeT Try.prog 25 = some 6 := by kernel_rfl
theorem z_size70 : sizeT Try.prog 70 = some 1 := by kernel_rfl
theorem z_agg104 : aggSize Try.prog 104 = some 4 := by kernel_rfl
def z_tyf : TyF := ⟨[(2, .i64), (23, .u32), (24, .i64), (3, .i64), (5, .u8), (91, .u64)], [(116, 0, 0), (116, 1, 1), (29, 0, 0), (29, 1, 1), (29, 2, 7), (29, 3, 8), (29, 4, 9), (29, 5, 10), (31, 0, 0), (31, 1, 1), (31, 2, 2), (31, 3, 3), (31, 4, 4), (56, 0, 0), (56, 1, 1), (56, 2, 2), (56, 3, 3), (56, 4, 4), (56, 5, 5), (56, 6, 6), (61, 0, 0), (61, 1, 1), (82, 0, 0), (82, 1, 1), (82, 2, 2), (84, 0, 0), (93, 0, 0), (93, 1, 1), (93, 2, 2)], [9], [], [63, 70], []⟩
theorem z_T : TyOk Try.prog z_tyf := ⟨(fa_cons Try.underlying2 (fa_cons Try.underlying23 (fa_cons Try.underlying24 (fa_cons Try.underlying3 (fa_cons Try.underlying5 (fa_cons Try.underlying91 fa_nil)))))), (fa_cons z_field116_0 (fa_cons z_field116_1 (fa_cons z_field29_0 (fa_cons z_field29_1 (fa_cons z_field29_2 (fa_cons z_field29_3 (fa_cons z_field29_4 (fa_cons z_field29_5 (fa_cons z_field31_0 (fa_cons z_field31_1 (fa_cons z_field31_2 (fa_cons z_field31_3 (fa_cons z_field31_4 (fa_cons z_field56_0 (fa_cons z_field56_1 (fa_cons z_field56_2 (fa_cons z_field56_3 (fa_cons z_field56_4 (fa_cons z_field56_5 (fa_cons z_field56_6 (fa_cons z_field61_0 (fa_cons z_field61_1 (fa_cons z_field82_0 (fa_cons z_field82_1 (fa_cons z_field82_2 (fa_cons z_field84_0 (fa_cons z_field93_0 (fa_cons z_field93_1 (fa_cons z_field93_2 fa_nil))))))))))))))))))))))))))))), (fa_cons Try.underlying9 fa_nil), fa_nil, (fa_cons ⟨_, Try.underlying63⟩ (fa_cons ⟨_, Try.underlying70⟩ fa_nil)), fa_nil⟩
def z_tym : TyM := ⟨[114, 2, 22, 23, 24, 26, 27, 3, 34, 4, 70, 9, 91], [(104, 4), (25, 6), (29, 11), (31, 15), (56, 7), (61, 2)], [(116, [.pointer none, .int .i64 0], [(0, 1), (1, 1)]), (29, [.int .i64 0, .int .i64 0, .int .i64 0, .int .i64 0, .int .i64 0, .int .i64 0, .int .i64 0, .slice none 0 0, .slice none 0 0, .string (bstr []), .string (bstr [])], [(0, 1), (1, 6), (7, 1), (8, 1), (9, 1), (10, 1)]), (31, [.int .i64 0, .int .u32 0, .int .i64 0, .int .i64 0, .int .i64 0, .int .i64 0, .int .i64 0, .int .i64 0, .int .i64 0, .int .i64 0, .int .i64 0, .slice none 0 0, .slice none 0 0, .string (bstr []), .string (bstr [])], [(0, 1), (1, 1), (2, 1), (3, 1), (4, 11)]), (82, [.slice none 0 0, .int .i64 0, .bool false], [(0, 1), (1, 1), (2, 1)]), (84, [.slice none 0 0, .int .i64 0, .bool false], [(0, 3)])], []⟩
theorem z_M : TyMOk Try.prog z_tym := ⟨(fa_cons z_sc114 (fa_cons z_sc2 (fa_cons z_sc22 (fa_cons z_sc23 (fa_cons z_sc24 (fa_cons z_sc26 (fa_cons z_sc27 (fa_cons z_sc3 (fa_cons z_sc34 (fa_cons z_sc4 (fa_cons z_sc70 (fa_cons z_sc9 (fa_cons z_sc91 fa_nil))))))))))))), (fa_cons z_size114 (fa_cons z_size2 (fa_cons z_size22 (fa_cons z_size23 (fa_cons z_size24 (fa_cons z_size26 (fa_cons z_size27 (fa_cons z_size3 (fa_cons z_size34 (fa_cons z_size4 (fa_cons z_size70 (fa_cons z_size9 (fa_cons z_size91 fa_nil))))))))))))), (fa_cons z_agg104 (fa_cons z_agg25 (fa_cons z_agg29 (fa_cons z_agg31 (fa_cons z_agg56 (fa_cons z_agg61 fa_nil)))))), (fa_cons z_size104 (fa_cons z_size25 (fa_cons z_size29 (fa_cons z_size31 (fa_cons z_size56 (fa_cons z_size61 fa_nil)))))), (fa_cons z_struct116 (fa_cons z_struct29 (fa_cons z_struct31 (fa_cons z_struct82 (fa_cons z_struct84 fa_nil))))), fa_nil⟩
theorem Z {n : Nat} {c : Ctx Try.prog n} {σ : Sto} {gs : List Grp} (f : Nat) {ρ ρ' : Env} {k k' : List Item} (h : go z_tyf n f ρ k = some (ρ', k')) (hk : St c ρ' σ gs k') : St c ρ σ gs k := st_go z_T f h hk
theorem dA {n : Nat} {c : Ctx Try.prog n} {k : List Item} {ops : Array Oper} {dsts : List Nat} {L : List DT} {ρ : Env} {i : Nat} (h : dpv z_tyf n ops dsts L ρ i = dvl L i := by exact rfl) (hs : (dvl L i).isSome = true := by exact rfl) : Core c k ops dsts L ρ i := core_A z_T h hs
theorem dG {n : Nat} {c : Ctx Try.prog n} {k : List Item} {ops : Array Oper} {dsts : List Nat} {L : List DT} {ρ : Env} {i : Nat} (ks : List Nat) (h : DGok z_tyf n ops dsts L ρ ks i := by exact ⟨rfl, rfl, rfl⟩) : Core c k ops dsts L ρ i := core_G z_T h
theorem ZZ {n : Nat} {c : Ctx Try.prog n} {σ : Sto} (f : Nat) (js : List Nat) {gs gs' : List Grp} {ρ ρ' : Env} {k k' : List Item} {e : List (Nat × Nat)} (h : go2 z_tyf z_tym n f js ρ gs k = some (ρ', gs', k', e)) (he : e.map (·.1) = e.map (·.2)) (hk : St c ρ' σ gs' k') : St c ρ σ gs k := st_go2 z_T z_M f h he hk
end Go.Rel
