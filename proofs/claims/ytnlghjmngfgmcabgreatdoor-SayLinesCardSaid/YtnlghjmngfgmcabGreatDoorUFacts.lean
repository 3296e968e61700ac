import Derived.Test.YtnlghjmngfgmcabGreatDoorProg
import Derived.Test.YtnlghjmngfgmcabGreatDoorEngU
import Derived.KernelRfl
import Derived.Test.YtnlghjmngfgmcabGreatDoorEngW
import Derived.Test.YtnlghjmngfgmcabGreatDoorEngX
import Derived.Test.YtnlghjmngfgmcabGreatDoorShelf
/-! Facts of the program's types and functions. -/
namespace Go.Rel
open Go Go.Eng Go.Proofs
theorem z_slT23 : slT Tryz.prog 23 = some (5, 1, 1) := by kernel_rfl
theorem z_mix : Tryz.prog.follows .mixedOrders = true := by kernel_rfl
theorem z_sc5 : isScalar Tryz.prog 5 = true := by kernel_rfl
theorem z_zero5 : zeroT Tryz.prog 5 = some [.int .u8 0] := by kernel_rfl
theorem z_slT27 : slT Tryz.prog 27 = some (3, 1, 8) := by kernel_rfl
theorem z_zero3 : zeroT Tryz.prog 3 = some [.int .i64 0] := by kernel_rfl
theorem z_size4 : sizeT Tryz.prog 4 = some 1 := by kernel_rfl
theorem z_sc4 : isScalar Tryz.prog 4 = true := by kernel_rfl
theorem z_sc3 : isScalar Tryz.prog 3 = true := by kernel_rfl
theorem z_zero27 : zeroT Tryz.prog 27 = some [.slice none 0 0] := by kernel_rfl
theorem z_size27 : sizeT Tryz.prog 27 = some 1 := by kernel_rfl
theorem z_size3 : sizeT Tryz.prog 3 = some 1 := by kernel_rfl
theorem z_agg38 : aggSize Tryz.prog 38 = some 11 := by kernel_rfl
theorem z_zero38 : zeroT Tryz.prog 38 = some [.int .i64 0, .int .i64 0, .int .i64 0, .int .i64 0, .int .i64 0, .int .i64 0, .int .i64 0, .slice none 0 0, .slice none 0 0, .string (bstr []), .string (bstr [])] := by kernel_rfl
theorem z_field38_2 : fieldT Tryz.prog 38 2 = some 7 := by kernel_rfl
theorem z_sc36 : isScalar Tryz.prog 36 = true := by kernel_rfl
theorem z_slT36 : slT Tryz.prog 36 = some (105, 2, 16) := by kernel_rfl
theorem z_field38_3 : fieldT Tryz.prog 38 3 = some 8 := by kernel_rfl
theorem z_sc27 : isScalar Tryz.prog 27 = true := by kernel_rfl
theorem z_size36 : sizeT Tryz.prog 36 = some 1 := by kernel_rfl
theorem z_field38_4 : fieldT Tryz.prog 38 4 = some 9 := by kernel_rfl
theorem z_sc9 : isScalar Tryz.prog 9 = true := by kernel_rfl
theorem z_field38_5 : fieldT Tryz.prog 38 5 = some 10 := by kernel_rfl
theorem z_size9 : sizeT Tryz.prog 9 = some 1 := by kernel_rfl
theorem z_size38 : sizeT Tryz.prog 38 = some 11 := by kernel_rfl
theorem z_en13 : enters Tryz.prog 13 = true := by kernel_rfl
theorem z_str0 : (ByteArray.mk #[]) = bstr [] := by kernel_rfl
theorem z_field38_0 : fieldT Tryz.prog 38 0 = some 0 := by kernel_rfl
theorem z_zero96 : zeroT Tryz.prog 96 = some [.string (bstr []), .int .i64 0, .int .i64 0, .int .i64 0, .int .i64 0, .int .i64 0, .int .i64 0] := by kernel_rfl
theorem z_str1 : (ByteArray.mk #[114, 111, 98, 111, 116]) = bstr [114, 111, 98, 111, 116] := by kernel_rfl
theorem z_struct96 : structT Tryz.prog 96 = some ([.string (bstr []), .int .i64 0, .int .i64 0, .int .i64 0, .int .i64 0, .int .i64 0, .int .i64 0], [(0, 1), (1, 1), (2, 1), (3, 1), (4, 1), (5, 1), (6, 1)]) := by kernel_rfl
theorem z_size96 : sizeT Tryz.prog 96 = some 7 := by kernel_rfl
theorem z_agg96 : aggSize Tryz.prog 96 = some 7 := by kernel_rfl
theorem z_en81 : enters Tryz.prog 81 = true := by kernel_rfl
theorem z_str2 : (ByteArray.mk #[115, 112, 101, 101, 100]) = bstr [115, 112, 101, 101, 100] := by kernel_rfl
theorem z_str3 : (ByteArray.mk #[97, 99, 99, 101, 108]) = bstr [97, 99, 99, 101, 108] := by kernel_rfl
theorem z_str4 : (ByteArray.mk #[112, 97, 116, 104]) = bstr [112, 97, 116, 104] := by kernel_rfl
theorem z_str5 : (ByteArray.mk #[116, 97, 103]) = bstr [116, 97, 103] := by kernel_rfl
theorem z_slT115 : slT Tryz.prog 115 = some (96, 7, 64) := by kernel_rfl
theorem z_str6 : (ByteArray.mk #[114, 101, 97, 115, 111, 110]) = bstr [114, 101, 97, 115, 111, 110] := by kernel_rfl
theorem z_str7 : (ByteArray.mk #[122, 111, 110, 101]) = bstr [122, 111, 110, 101] := by kernel_rfl
theorem z_str8 : (ByteArray.mk #[108, 101, 97, 115, 101]) = bstr [108, 101, 97, 115, 101] := by kernel_rfl
theorem z_str9 : (ByteArray.mk #[99, 101, 108, 108, 115]) = bstr [99, 101, 108, 108, 115] := by kernel_rfl
theorem z_str10 : (ByteArray.mk #[120]) = bstr [120] := by kernel_rfl
theorem z_str11 : (ByteArray.mk #[121]) = bstr [121] := by kernel_rfl
theorem z_str12 : (ByteArray.mk #[104, 101, 97, 100, 105, 110, 103]) = bstr [104, 101, 97, 100, 105, 110, 103] := by kernel_rfl
theorem z_str13 : (ByteArray.mk #[98, 97, 116, 116, 101, 114, 121]) = bstr [98, 97, 116, 116, 101, 114, 121] := by kernel_rfl
theorem z_str14 : (ByteArray.mk #[115, 117, 114, 101]) = bstr [115, 117, 114, 101] := by kernel_rfl
theorem z_str15 : (ByteArray.mk #[99, 111, 100, 101]) = bstr [99, 111, 100, 101] := by kernel_rfl
theorem z_str16 : (ByteArray.mk #[115, 101, 118, 101, 114, 105, 116, 121]) = bstr [115, 101, 118, 101, 114, 105, 116, 121] := by kernel_rfl
theorem z_str17 : (ByteArray.mk #[112, 97, 114, 116]) = bstr [112, 97, 114, 116] := by kernel_rfl
theorem z_str18 : (ByteArray.mk #[116, 105, 109, 101, 115]) = bstr [116, 105, 109, 101, 115] := by kernel_rfl
theorem z_str19 : (ByteArray.mk #[116, 101, 120, 116]) = bstr [116, 101, 120, 116] := by kernel_rfl
theorem z_en45 : enters Tryz.prog 45 = true := by kernel_rfl
theorem z_field96_1 : fieldT Tryz.prog 96 1 = some 1 := by kernel_rfl
theorem z_field96_3 : fieldT Tryz.prog 96 3 = some 3 := by kernel_rfl
theorem z_field96_4 : fieldT Tryz.prog 96 4 = some 4 := by kernel_rfl
theorem z_en117 : enters Tryz.prog 117 = true := by kernel_rfl
theorem z_agg105 : aggSize Tryz.prog 105 = some 2 := by kernel_rfl
theorem z_zero105 : zeroT Tryz.prog 105 = some [.int .i64 0, .int .i64 0] := by kernel_rfl
theorem z_size105 : sizeT Tryz.prog 105 = some 2 := by kernel_rfl
theorem z_field105_0 : fieldT Tryz.prog 105 0 = some 0 := by kernel_rfl
theorem z_field105_1 : fieldT Tryz.prog 105 1 = some 1 := by kernel_rfl
theorem z_en82 : enters Tryz.prog 82 = true := by kernel_rfl
theorem z_en83 : enters Tryz.prog 83 = true := by kernel_rfl
theorem z_en84 : enters Tryz.prog 84 = true := by kernel_rfl
theorem z_field96_2 : fieldT Tryz.prog 96 2 = some 2 := by kernel_rfl
theorem z_field38_1 : fieldT Tryz.prog 38 1 = some 1 := by kernel_rfl
theorem z_arr35 : arrP Tryz.prog 35 = some (6, 3, 1) := by kernel_rfl
theorem z_en46 : enters Tryz.prog 46 = true := by kernel_rfl
theorem z_en47 : enters Tryz.prog 47 = true := by kernel_rfl
theorem z_struct38 : structT Tryz.prog 38 = some ([.int .i64 0, .int .i64 0, .int .i64 0, .int .i64 0, .int .i64 0, .int .i64 0, .int .i64 0, .slice none 0 0, .slice none 0 0, .string (bstr []), .string (bstr [])], [(0, 1), (1, 6), (7, 1), (8, 1), (9, 1), (10, 1)]) := by kernel_rfl
theorem z_agg35 : aggSize Tryz.prog 35 = some 6 := by kernel_rfl
theorem z_info3 : (Tryz.prog.info? 3).isSome = true := by kernel_rfl
theorem z_cell3 : Program.cellsOf Tryz.prog 3 = 1 := by kernel_rfl
theorem z_eqg35 : Program.eqGuardType Tryz.prog (Program.depth Tryz.prog) 35 = false := by kernel_rfl
theorem z_held105 : Program.stoodInHeld Tryz.prog 105 = false := by kernel_rfl
theorem z_eqg105 : Program.eqGuardType Tryz.prog (Program.depth Tryz.prog) 105 = false := by kernel_rfl
theorem z_en48 : enters Tryz.prog 48 = true := by kernel_rfl
theorem z_en49 : enters Tryz.prog 49 = true := by kernel_rfl
theorem z_en20 : enters Tryz.prog 20 = true := by kernel_rfl
theorem z_en18 : enters Tryz.prog 18 = true := by kernel_rfl
theorem z_str20 : (ByteArray.mk #[109, 111, 118, 101]) = bstr [109, 111, 118, 101] := by kernel_rfl
theorem z_str21 : (ByteArray.mk #[104, 111, 108, 100]) = bstr [104, 111, 108, 100] := by kernel_rfl
theorem z_str22 : (ByteArray.mk #[103, 114, 97, 110, 116]) = bstr [103, 114, 97, 110, 116] := by kernel_rfl
theorem z_str23 : (ByteArray.mk #[112, 111, 115, 101]) = bstr [112, 111, 115, 101] := by kernel_rfl
theorem z_str24 : (ByteArray.mk #[102, 97, 117, 108, 116]) = bstr [102, 97, 117, 108, 116] := by kernel_rfl
theorem z_en33 : enters Tryz.prog 33 = true := by kernel_rfl
theorem z_zero9 : zeroT Tryz.prog 9 = some [.string (bstr [])] := by kernel_rfl
theorem z_field96_5 : fieldT Tryz.prog 96 5 = some 5 := by kernel_rfl
theorem z_en67 : enters Tryz.prog 67 = true := by kernel_rfl
theorem z_en34 : enters Tryz.prog 34 = true := by kernel_rfl
theorem z_field96_0 : fieldT Tryz.prog 96 0 = some 0 := by kernel_rfl
theorem z_str25 : (ByteArray.mk #[32]) = bstr [32] := by kernel_rfl
theorem z_en109 : enters Tryz.prog 109 = true := by kernel_rfl
theorem z_en68 : enters Tryz.prog 68 = true := by kernel_rfl
theorem z_str26 : (ByteArray.mk #[44]) = bstr [44] := by kernel_rfl
theorem z_slT106 : slT Tryz.prog 106 = some (9, 1, 16) := by kernel_rfl
theorem z_str27 : (ByteArray.mk #[59]) = bstr [59] := by kernel_rfl
theorem z_en69 : enters Tryz.prog 69 = true := by kernel_rfl
theorem z_str28 : (ByteArray.mk #[45]) = bstr [45] := by kernel_rfl
theorem z_str29 : (ByteArray.mk #[48, 49, 50, 51, 52, 53, 54, 55, 56, 57, 97, 98, 99, 100, 101, 102]) = bstr [48, 49, 50, 51, 52, 53, 54, 55, 56, 57, 97, 98, 99, 100, 101, 102] := by kernel_rfl
theorem z_en70 : enters Tryz.prog 70 = true := by kernel_rfl
theorem z_en35 : enters Tryz.prog 35 = true := by kernel_rfl
theorem z_en14 : enters Tryz.prog 14 = true := by kernel_rfl
theorem z_zero44 : zeroT Tryz.prog 44 = some [.int .i64 0, .int .i64 0, .int .i64 0, .int .i64 0, .int .i64 0, .int .i64 0, .int .i64 0, .slice none 0 0, .slice none 0 0, .string (bstr []), .string (bstr [])] := by kernel_rfl
theorem z_struct44 : structT Tryz.prog 44 = some ([.int .i64 0, .int .i64 0, .int .i64 0, .int .i64 0, .int .i64 0, .int .i64 0, .int .i64 0, .slice none 0 0, .slice none 0 0, .string (bstr []), .string (bstr [])], [(0, 1), (1, 6), (7, 1), (8, 1), (9, 1), (10, 1)]) := by kernel_rfl
theorem z_size44 : sizeT Tryz.prog 44 = some 11 := by kernel_rfl
theorem z_field44_2 : fieldT Tryz.prog 44 2 = some 7 := by kernel_rfl
theorem z_sc42 : isScalar Tryz.prog 42 = true := by kernel_rfl
theorem z_arrz102 : arrT Tryz.prog 102 = some ([.int .i64 0, .int .i64 0], 1) := by kernel_rfl
theorem z_slT42 : slT Tryz.prog 42 = some (102, 2, 16) := by kernel_rfl
theorem z_zero102 : zeroT Tryz.prog 102 = some [.int .i64 0, .int .i64 0] := by kernel_rfl
theorem z_size42 : sizeT Tryz.prog 42 = some 1 := by kernel_rfl
theorem z_agg44 : aggSize Tryz.prog 44 = some 11 := by kernel_rfl
theorem z_en16 : enters Tryz.prog 16 = true := by kernel_rfl
theorem z_field44_0 : fieldT Tryz.prog 44 0 = some 0 := by kernel_rfl
theorem z_slT99 : slT Tryz.prog 99 = some (101, 7, 64) := by kernel_rfl
theorem z_zero101 : zeroT Tryz.prog 101 = some [.string (bstr []), .int .i64 0, .int .i64 0, .int .i64 0, .int .i64 0, .int .i64 0, .int .i64 0] := by kernel_rfl
theorem z_struct101 : structT Tryz.prog 101 = some ([.string (bstr []), .int .i64 0, .int .i64 0, .int .i64 0, .int .i64 0, .int .i64 0, .int .i64 0], [(0, 1), (1, 1), (2, 1), (3, 1), (4, 1), (5, 1), (6, 1)]) := by kernel_rfl
theorem z_agg101 : aggSize Tryz.prog 101 = some 7 := by kernel_rfl
theorem z_size101 : sizeT Tryz.prog 101 = some 7 := by kernel_rfl
theorem z_field101_2 : fieldT Tryz.prog 101 2 = some 2 := by kernel_rfl
theorem z_field101_1 : fieldT Tryz.prog 101 1 = some 1 := by kernel_rfl
theorem z_en38 : enters Tryz.prog 38 = true := by kernel_rfl
theorem z_zero149 : zeroT Tryz.prog 149 = some [.bool false, .bool false, .bool false, .bool false, .bool false, .bool false, .bool false] := by kernel_rfl
theorem z_zero150 : zeroT Tryz.prog 150 = some [.bool false, .bool false, .bool false, .bool false, .bool false, .bool false] := by kernel_rfl
theorem z_arr149 : arrP Tryz.prog 149 = some (7, 4, 1) := by kernel_rfl
theorem z_arr102 : arrP Tryz.prog 102 = some (2, 3, 1) := by kernel_rfl
theorem z_en71 : enters Tryz.prog 71 = true := by kernel_rfl
theorem z_field44_3 : fieldT Tryz.prog 44 3 = some 8 := by kernel_rfl
theorem z_en72 : enters Tryz.prog 72 = true := by kernel_rfl
theorem z_field44_4 : fieldT Tryz.prog 44 4 = some 9 := by kernel_rfl
theorem z_en73 : enters Tryz.prog 73 = true := by kernel_rfl
theorem z_field44_5 : fieldT Tryz.prog 44 5 = some 10 := by kernel_rfl
theorem z_arr150 : arrP Tryz.prog 150 = some (6, 4, 1) := by kernel_rfl
theorem z_field44_1 : fieldT Tryz.prog 44 1 = some 1 := by kernel_rfl
theorem z_field101_3 : fieldT Tryz.prog 101 3 = some 3 := by kernel_rfl
theorem z_field101_4 : fieldT Tryz.prog 101 4 = some 4 := by kernel_rfl
theorem z_en36 : enters Tryz.prog 36 = true := by kernel_rfl
theorem z_en37 : enters Tryz.prog 37 = true := by kernel_rfl
theorem z_en39 : enters Tryz.prog 39 = true := by kernel_rfl
theorem z_en74 : enters Tryz.prog 74 = true := by kernel_rfl
theorem z_en40 : enters Tryz.prog 40 = true := by kernel_rfl
theorem z_field101_0 : fieldT Tryz.prog 101 0 = some 0 := by kernel_rfl
theorem z_en15 : enters Tryz.prog 15 = true := by kernel_rfl
theorem z_zero106 : zeroT Tryz.prog 106 = some [.slice none 0 0] := by kernel_rfl
theorem z_en147 : enters Tryz.prog 147 = true := by kernel_rfl
theorem z_en148 : enters Tryz.prog 148 = true := by kernel_rfl
theorem z_en146 : enters Tryz.prog 146 = true := by kernel_rfl
theorem z_en113 : enters Tryz.prog 113 = true := by kernel_rfl
theorem z_en76 : enters Tryz.prog 76 = true := by kernel_rfl
theorem z_sc155 : isScalar Tryz.prog 155 = true := by kernel_rfl
theorem z_en75 : enters Tryz.prog 75 = true := by kernel_rfl
theorem z_en41 : enters Tryz.prog 41 = true := by kernel_rfl
theorem z_sc106 : isScalar Tryz.prog 106 = true := by kernel_rfl
theorem z_size106 : sizeT Tryz.prog 106 = some 1 := by kernel_rfl
theorem z_zero110 : zeroT Tryz.prog 110 = some [.nilFunc] := by kernel_rfl
theorem z_size110 : sizeT Tryz.prog 110 = some 1 := by kernel_rfl
theorem z_sc110 : isScalar Tryz.prog 110 = true := by kernel_rfl
theorem z_en42 : enters Tryz.prog 42 = true := by kernel_rfl
theorem z_en114 : enters Tryz.prog 114 = true := by kernel_rfl
theorem z_en77 : enters Tryz.prog 77 = true := by kernel_rfl
theorem z_en43 : enters Tryz.prog 43 = true := by kernel_rfl
theorem z_zero46 : zeroT Tryz.prog 46 = some [.int .i64 0] := by kernel_rfl
theorem z_size46 : sizeT Tryz.prog 46 = some 1 := by kernel_rfl
theorem z_zero36 : zeroT Tryz.prog 36 = some [.slice none 0 0] := by kernel_rfl
theorem z_en171 : enters Tryz.prog 171 = true := by kernel_rfl
theorem z_en149 : enters Tryz.prog 149 = true := by kernel_rfl
theorem z_en115 : enters Tryz.prog 115 = true := by kernel_rfl
theorem z_en116 : enters Tryz.prog 116 = true := by kernel_rfl
theorem z_en106 : enters Tryz.prog 106 = true := by kernel_rfl
theorem z_en163 : enters Tryz.prog 163 = true := by kernel_rfl
theorem z_en135 : enters Tryz.prog 135 = true := by kernel_rfl
theorem z_en107 : enters Tryz.prog 107 = true := by kernel_rfl
theorem z_str30 : (ByteArray.mk #[48, 49, 50, 51, 52, 53, 54, 55, 56, 57]) = bstr [48, 49, 50, 51, 52, 53, 54, 55, 56, 57] := by kernel_rfl
theorem z_en137 : enters Tryz.prog 137 = true := by kernel_rfl
theorem z_en136 : enters Tryz.prog 136 = true := by kernel_rfl
theorem z_zero234 : zeroT Tryz.prog 234 = some (cellsN Value.bool false 256 (List.replicate 256 false)) := by kernel_rfl
theorem z_agg234 : aggSize Tryz.prog 234 = some 256 := by kernel_rfl
theorem z_size234 : sizeT Tryz.prog 234 = some 256 := by kernel_rfl
theorem z_arr234 : arrP Tryz.prog 234 = some (256, 4, 1) := by kernel_rfl
theorem z_en138 : enters Tryz.prog 138 = true := by kernel_rfl
theorem z_en164 : enters Tryz.prog 164 = true := by kernel_rfl
theorem z_en140 : enters Tryz.prog 140 = true := by kernel_rfl
theorem z_en139 : enters Tryz.prog 139 = true := by kernel_rfl
theorem z_en178 : enters Tryz.prog 178 = true := by kernel_rfl
theorem z_en166 : enters Tryz.prog 166 = true := by kernel_rfl
theorem z_en105 : enters Tryz.prog 105 = true := by kernel_rfl
theorem z_en186 : enters Tryz.prog 186 = true := by kernel_rfl
theorem z_en177 : enters Tryz.prog 177 = true := by kernel_rfl
theorem z_en165 : enters Tryz.prog 165 = true := by kernel_rfl
theorem z_en142 : enters Tryz.prog 142 = true := by kernel_rfl
theorem z_en141 : enters Tryz.prog 141 = true := by kernel_rfl
theorem z_en108 : enters Tryz.prog 108 = true := by kernel_rfl
theorem z_str31 : (ByteArray.mk #[48]) = bstr [48] := by kernel_rfl
theorem z_en66 : enters Tryz.prog 66 = true := by kernel_rfl
theorem z_struct105 : structT Tryz.prog 105 = some ([.int .i64 0, .int .i64 0], [(0, 1), (1, 1)]) := by kernel_rfl
theorem z_sc46 : isScalar Tryz.prog 46 = true := by kernel_rfl
theorem z_en78 : enters Tryz.prog 78 = true := by kernel_rfl
theorem z_en79 : enters Tryz.prog 79 = true := by kernel_rfl
theorem z_en80 : enters Tryz.prog 80 = true := by kernel_rfl
theorem z_en44 : enters Tryz.prog 44 = true := by kernel_rfl
theorem z_en17 : enters Tryz.prog 17 = true := by kernel_rfl
theorem z_arrz35 : arrT Tryz.prog 35 = some ([.int .i64 0, .int .i64 0, .int .i64 0, .int .i64 0, .int .i64 0, .int .i64 0], 1) := by kernel_rfl
theorem z_str32 : (ByteArray.mk #[104, 105]) = bstr [104, 105] := by kernel_rfl
theorem z_str33 : (ByteArray.mk #[104, 111, 108, 100, 32, 114, 111, 98, 111, 116, 32, 51, 48, 48, 32, 114, 101, 97, 115, 111, 110, 32, 50, 32, 122, 111, 110, 101, 32, 57]) = bstr [104, 111, 108, 100, 32, 114, 111, 98, 111, 116, 32, 51, 48, 48, 32, 114, 101, 97, 115, 111, 110, 32, 50, 32, 122, 111, 110, 101, 32, 57] := by kernel_rfl
theorem z_str34 : (ByteArray.mk #[102, 97, 117, 108, 116, 32, 114, 111, 98, 111, 116, 32, 49, 32, 99, 111, 100, 101, 32, 50, 32, 115, 101, 118, 101, 114, 105, 116, 121, 32, 51, 32, 112, 97, 114, 116, 32, 48, 32, 116, 105, 109, 101, 115, 32, 49, 32, 116, 101, 120, 116, 32, 54, 56, 54, 57]) = bstr [102, 97, 117, 108, 116, 32, 114, 111, 98, 111, 116, 32, 49, 32, 99, 111, 100, 101, 32, 50, 32, 115, 101, 118, 101, 114, 105, 116, 121, 32, 51, 32, 112, 97, 114, 116, 32, 48, 32, 116, 105, 109, 101, 115, 32, 49, 32, 116, 101, 120, 116, 32, 54, 56, 54, 57] := by kernel_rfl
theorem z_en19 : enters Tryz.prog 19 = true := by kernel_rfl
theorem z_size35 : sizeT Tryz.prog 35 = some 6 := by kernel_rfl
theorem z_size155 : sizeT Tryz.prog 155 = some 1 := by kernel_rfl
def z_tyf : TyF := ⟨[(21, .i32), (3, .i64), (5, .u8)], [(101, 0, 0), (101, 1, 1), (101, 2, 2), (105, 0, 0), (105, 1, 1), (38, 0, 0), (38, 1, 1), (38, 2, 7), (38, 3, 8), (38, 4, 9), (38, 5, 10), (44, 0, 0), (44, 1, 1), (44, 2, 7), (44, 3, 8), (44, 4, 9), (44, 5, 10), (96, 0, 0), (96, 1, 1), (96, 2, 2), (96, 3, 3), (96, 4, 4), (96, 5, 5)], [9], [4], [], []⟩
theorem z_T : TyOk Tryz.prog z_tyf := ⟨(fa_cons Tryz.underlying21 (fa_cons Tryz.underlying3 (fa_cons Tryz.underlying5 fa_nil))), (fa_cons z_field101_0 (fa_cons z_field101_1 (fa_cons z_field101_2 (fa_cons z_field105_0 (fa_cons z_field105_1 (fa_cons z_field38_0 (fa_cons z_field38_1 (fa_cons z_field38_2 (fa_cons z_field38_3 (fa_cons z_field38_4 (fa_cons z_field38_5 (fa_cons z_field44_0 (fa_cons z_field44_1 (fa_cons z_field44_2 (fa_cons z_field44_3 (fa_cons z_field44_4 (fa_cons z_field44_5 (fa_cons z_field96_0 (fa_cons z_field96_1 (fa_cons z_field96_2 (fa_cons z_field96_3 (fa_cons z_field96_4 (fa_cons z_field96_5 fa_nil))))))))))))))))))))))), (fa_cons Tryz.underlying9 fa_nil), (fa_cons Tryz.underlying4 fa_nil), fa_nil, fa_nil⟩
def z_tym : TyM := ⟨[106, 110, 155, 27, 3, 36, 4, 42, 46, 9], [(101, 7), (105, 2), (35, 6), (38, 11), (44, 11), (96, 7)], [(105, [.int .i64 0, .int .i64 0], [(0, 1), (1, 1)]), (38, [.int .i64 0, .int .i64 0, .int .i64 0, .int .i64 0, .int .i64 0, .int .i64 0, .int .i64 0, .slice none 0 0, .slice none 0 0, .string (bstr []), .string (bstr [])], [(0, 1), (1, 6), (7, 1), (8, 1), (9, 1), (10, 1)])], []⟩
theorem z_M : TyMOk Tryz.prog z_tym := ⟨(fa_cons z_sc106 (fa_cons z_sc110 (fa_cons z_sc155 (fa_cons z_sc27 (fa_cons z_sc3 (fa_cons z_sc36 (fa_cons z_sc4 (fa_cons z_sc42 (fa_cons z_sc46 (fa_cons z_sc9 fa_nil)))))))))), (fa_cons z_size106 (fa_cons z_size110 (fa_cons z_size155 (fa_cons z_size27 (fa_cons z_size3 (fa_cons z_size36 (fa_cons z_size4 (fa_cons z_size42 (fa_cons z_size46 (fa_cons z_size9 fa_nil)))))))))), (fa_cons z_agg101 (fa_cons z_agg105 (fa_cons z_agg35 (fa_cons z_agg38 (fa_cons z_agg44 (fa_cons z_agg96 fa_nil)))))), (fa_cons z_size101 (fa_cons z_size105 (fa_cons z_size35 (fa_cons z_size38 (fa_cons z_size44 (fa_cons z_size96 fa_nil)))))), (fa_cons z_struct105 (fa_cons z_struct38 fa_nil)), fa_nil⟩
theorem Z {n : Nat} {c : Ctx Tryz.prog n} {σ : Sto} {gs : List Grp} (f : Nat) {ρ ρ' : Env} {k k' : List Item} (h : go z_tyf n f ρ k = some (ρ', k')) (hk : St c ρ' σ gs k') : St c ρ σ gs k := st_go z_T f h hk
theorem dA {n : Nat} {c : Ctx Tryz.prog n} {k : List Item} {ops : Array Oper} {dsts : List Nat} {L : List DT} {ρ : Env} {i : Nat} (h : dpv z_tyf n ops dsts L ρ i = dvl L i := by exact rfl) (hs : (dvl L i).isSome = true := by exact rfl) : Core c k ops dsts L ρ i := core_A z_T h hs
theorem dG {n : Nat} {c : Ctx Tryz.prog n} {k : List Item} {ops : Array Oper} {dsts : List Nat} {L : List DT} {ρ : Env} {i : Nat} (ks : List Nat) (h : DGok z_tyf n ops dsts L ρ ks i := by exact ⟨rfl, rfl, rfl⟩) : Core c k ops dsts L ρ i := core_G z_T h
theorem ZZ {n : Nat} {c : Ctx Tryz.prog n} {σ : Sto} (f : Nat) (js : List Nat) {gs gs' : List Grp} {ρ ρ' : Env} {k k' : List Item} {e : List (Nat × Nat)} (h : go2 z_tyf z_tym n f js ρ gs k = some (ρ', gs', k', e)) (he : e.map (·.1) = e.map (·.2)) (hk : St c ρ' σ gs' k') : St c ρ σ gs k := st_go2 z_T z_M f h he hk
end Go.Rel
