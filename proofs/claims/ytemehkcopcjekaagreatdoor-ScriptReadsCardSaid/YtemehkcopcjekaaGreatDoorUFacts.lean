import Derived.Test.YtemehkcopcjekaaGreatDoorProg
import Derived.Test.YtemehkcopcjekaaGreatDoorEngU
import Derived.KernelRfl
import Derived.Test.YtemehkcopcjekaaGreatDoorEngW
import Derived.Test.YtemehkcopcjekaaGreatDoorEngX
import Derived.Test.YtemehkcopcjekaaGreatDoorEngY
import Derived.Test.YtemehkcopcjekaaGreatDoorShelf
/-! Facts of the program's types and functions. -/
namespace Go.Rel
open Go Go.Eng Go.Proofs Go.Proofs.Tryz
open Go.IntKind (i64 u8 u16 u32 u64)
theorem z_zero31 : zeroT prog 31 = some [.int .i64 0, .int .i64 0, .int .i64 0, .int .i64 0, .int .i64 0, .int .i64 0, .int .i64 0, .int .i64 0, .slice none 0 0, .slice none 0 0, .string (bstr []), .string (bstr []), .int .i64 0, .int .i64 0, .int .i64 0, .int .i64 0, .slice none 0 0, .slice none 0 0] := by kernel_rfl
theorem z_zero67 : zeroT prog 67 = some [.slice none 0 0] := by kernel_rfl
theorem z_zero3 : zeroT prog 3 = some [.int .i64 0] := by kernel_rfl
theorem z_size3 : sizeT prog 3 = some 1 := by kernel_rfl
theorem z_sc9 : isScalar prog 9 = true := by kernel_rfl
theorem z_str0 : (ByteArray.mk #[32]) = bstr [32] := by kernel_rfl
theorem z_en139 : enters prog 139 = true := by kernel_rfl
theorem z_size9 : sizeT prog 9 = some 1 := by kernel_rfl
theorem z_en140 : enters prog 140 = true := by kernel_rfl
theorem z_sc3 : isScalar prog 3 = true := by kernel_rfl
theorem z_en138 : enters prog 138 = true := by kernel_rfl
theorem z_en116 : enters prog 116 = true := by kernel_rfl
theorem z_en94 : enters prog 94 = true := by kernel_rfl
theorem z_sc107 : isScalar prog 107 = true := by kernel_rfl
theorem z_en93 : enters prog 93 = true := by kernel_rfl
theorem z_en61 : enters prog 61 = true := by kernel_rfl
theorem z_sc67 : isScalar prog 67 = true := by kernel_rfl
theorem z_slT67 : slT prog 67 = some (9, 1, 16) := by kernel_rfl
theorem z_zero9 : zeroT prog 9 = some [.string (bstr [])] := by kernel_rfl
theorem z_size67 : sizeT prog 67 = some 1 := by kernel_rfl
theorem z_str1 : (ByteArray.mk #[]) = bstr [] := by kernel_rfl
theorem z_str2 : (ByteArray.mk #[115, 101, 110, 100]) = bstr [115, 101, 110, 100] := by kernel_rfl
theorem z_str3 : (ByteArray.mk #[97, 108, 108]) = bstr [97, 108, 108] := by kernel_rfl
theorem z_str4 : (ByteArray.mk #[99, 104, 117, 110, 107]) = bstr [99, 104, 117, 110, 107] := by kernel_rfl
theorem z_str5 : (ByteArray.mk #[115, 116, 97, 116, 101]) = bstr [115, 116, 97, 116, 101] := by kernel_rfl
theorem z_str6 : (ByteArray.mk #[116, 97, 108, 108, 121]) = bstr [116, 97, 108, 108, 121] := by kernel_rfl
theorem z_en35 : enters prog 35 = true := by kernel_rfl
theorem z_field31_0 : fieldT prog 31 0 = some 0 := by kernel_rfl
theorem z_en117 : enters prog 117 = true := by kernel_rfl
theorem z_mix : prog.follows .mixedOrders = true := by kernel_rfl
theorem z_en95 : enters prog 95 = true := by kernel_rfl
theorem z_en62 : enters prog 62 = true := by kernel_rfl
theorem z_zero26 : zeroT prog 26 = some [.int .i64 0, .int .i64 0, .int .i64 0, .int .i64 0, .int .i64 0, .int .i64 0, .int .i64 0, .slice none 0 0, .slice none 0 0, .string (bstr []), .string (bstr [])] := by kernel_rfl
theorem z_zero164 : zeroT prog 164 = some [.nilFunc] := by kernel_rfl
theorem z_size164 : sizeT prog 164 = some 1 := by kernel_rfl
theorem z_sc164 : isScalar prog 164 = true := by kernel_rfl
theorem z_en96 : enters prog 96 = true := by kernel_rfl
theorem z_str7 : (ByteArray.mk #[109, 111, 118, 101]) = bstr [109, 111, 118, 101] := by kernel_rfl
theorem z_str8 : (ByteArray.mk #[104, 111, 108, 100]) = bstr [104, 111, 108, 100] := by kernel_rfl
theorem z_str9 : (ByteArray.mk #[103, 114, 97, 110, 116]) = bstr [103, 114, 97, 110, 116] := by kernel_rfl
theorem z_str10 : (ByteArray.mk #[112, 111, 115, 101]) = bstr [112, 111, 115, 101] := by kernel_rfl
theorem z_str11 : (ByteArray.mk #[102, 97, 117, 108, 116]) = bstr [102, 97, 117, 108, 116] := by kernel_rfl
theorem z_en71 : enters prog 71 = true := by kernel_rfl
theorem z_en144 : enters prog 144 = true := by kernel_rfl
theorem z_en118 : enters prog 118 = true := by kernel_rfl
theorem z_en97 : enters prog 97 = true := by kernel_rfl
theorem z_struct26 : structT prog 26 = some ([.int .i64 0, .int .i64 0, .int .i64 0, .int .i64 0, .int .i64 0, .int .i64 0, .int .i64 0, .slice none 0 0, .slice none 0 0, .string (bstr []), .string (bstr [])], [(0, 1), (1, 6), (7, 1), (8, 1), (9, 1), (10, 1)]) := by kernel_rfl
theorem z_size26 : sizeT prog 26 = some 11 := by kernel_rfl
theorem z_zero32 : zeroT prog 32 = some [.int .i64 0] := by kernel_rfl
theorem z_size32 : sizeT prog 32 = some 1 := by kernel_rfl
theorem z_field26_0 : fieldT prog 26 0 = some 0 := by kernel_rfl
theorem z_zero139 : zeroT prog 139 = some [.string (bstr []), .int .i64 0, .int .i64 0, .int .i64 0, .int .i64 0, .int .i64 0, .int .i64 0] := by kernel_rfl
theorem z_str12 : (ByteArray.mk #[114, 111, 98, 111, 116]) = bstr [114, 111, 98, 111, 116] := by kernel_rfl
theorem z_struct139 : structT prog 139 = some ([.string (bstr []), .int .i64 0, .int .i64 0, .int .i64 0, .int .i64 0, .int .i64 0, .int .i64 0], [(0, 1), (1, 1), (2, 1), (3, 1), (4, 1), (5, 1), (6, 1)]) := by kernel_rfl
theorem z_size139 : sizeT prog 139 = some 7 := by kernel_rfl
theorem z_agg139 : aggSize prog 139 = some 7 := by kernel_rfl
theorem z_en107 : enters prog 107 = true := by kernel_rfl
theorem z_str13 : (ByteArray.mk #[115, 112, 101, 101, 100]) = bstr [115, 112, 101, 101, 100] := by kernel_rfl
theorem z_str14 : (ByteArray.mk #[97, 99, 99, 101, 108]) = bstr [97, 99, 99, 101, 108] := by kernel_rfl
theorem z_str15 : (ByteArray.mk #[112, 97, 116, 104]) = bstr [112, 97, 116, 104] := by kernel_rfl
theorem z_str16 : (ByteArray.mk #[116, 97, 103]) = bstr [116, 97, 103] := by kernel_rfl
theorem z_slT150 : slT prog 150 = some (139, 7, 64) := by kernel_rfl
theorem z_str17 : (ByteArray.mk #[114, 101, 97, 115, 111, 110]) = bstr [114, 101, 97, 115, 111, 110] := by kernel_rfl
theorem z_str18 : (ByteArray.mk #[122, 111, 110, 101]) = bstr [122, 111, 110, 101] := by kernel_rfl
theorem z_str19 : (ByteArray.mk #[108, 101, 97, 115, 101]) = bstr [108, 101, 97, 115, 101] := by kernel_rfl
theorem z_str20 : (ByteArray.mk #[99, 101, 108, 108, 115]) = bstr [99, 101, 108, 108, 115] := by kernel_rfl
theorem z_str21 : (ByteArray.mk #[120]) = bstr [120] := by kernel_rfl
theorem z_str22 : (ByteArray.mk #[121]) = bstr [121] := by kernel_rfl
theorem z_str23 : (ByteArray.mk #[104, 101, 97, 100, 105, 110, 103]) = bstr [104, 101, 97, 100, 105, 110, 103] := by kernel_rfl
theorem z_str24 : (ByteArray.mk #[98, 97, 116, 116, 101, 114, 121]) = bstr [98, 97, 116, 116, 101, 114, 121] := by kernel_rfl
theorem z_str25 : (ByteArray.mk #[115, 117, 114, 101]) = bstr [115, 117, 114, 101] := by kernel_rfl
theorem z_str26 : (ByteArray.mk #[99, 111, 100, 101]) = bstr [99, 111, 100, 101] := by kernel_rfl
theorem z_str27 : (ByteArray.mk #[115, 101, 118, 101, 114, 105, 116, 121]) = bstr [115, 101, 118, 101, 114, 105, 116, 121] := by kernel_rfl
theorem z_str28 : (ByteArray.mk #[112, 97, 114, 116]) = bstr [112, 97, 114, 116] := by kernel_rfl
theorem z_str29 : (ByteArray.mk #[116, 105, 109, 101, 115]) = bstr [116, 105, 109, 101, 115] := by kernel_rfl
theorem z_str30 : (ByteArray.mk #[116, 101, 120, 116]) = bstr [116, 101, 120, 116] := by kernel_rfl
theorem z_en80 : enters prog 80 = true := by kernel_rfl
theorem z_field139_5 : fieldT prog 139 5 = some 5 := by kernel_rfl
theorem z_en103 : enters prog 103 = true := by kernel_rfl
theorem z_en72 : enters prog 72 = true := by kernel_rfl
theorem z_field139_0 : fieldT prog 139 0 = some 0 := by kernel_rfl
theorem z_field139_1 : fieldT prog 139 1 = some 1 := by kernel_rfl
theorem z_zero23 : zeroT prog 23 = some [.slice none 0 0] := by kernel_rfl
theorem z_str31 : (ByteArray.mk #[59]) = bstr [59] := by kernel_rfl
theorem z_str32 : (ByteArray.mk #[44]) = bstr [44] := by kernel_rfl
theorem z_en145 : enters prog 145 = true := by kernel_rfl
theorem z_size23 : sizeT prog 23 = some 1 := by kernel_rfl
theorem z_en112 : enters prog 112 = true := by kernel_rfl
theorem z_str33 : (ByteArray.mk #[45]) = bstr [45] := by kernel_rfl
theorem z_en157 : enters prog 157 = true := by kernel_rfl
theorem z_en129 : enters prog 129 = true := by kernel_rfl
theorem z_en113 : enters prog 113 = true := by kernel_rfl
theorem z_str34 : (ByteArray.mk #[48, 49, 50, 51, 52, 53, 54, 55, 56, 57]) = bstr [48, 49, 50, 51, 52, 53, 54, 55, 56, 57] := by kernel_rfl
theorem z_en131 : enters prog 131 = true := by kernel_rfl
theorem z_en130 : enters prog 130 = true := by kernel_rfl
theorem z_zero208 : zeroT prog 208 = some (cellsN Value.bool false 256 (List.replicate 256 false)) := by kernel_rfl
theorem z_agg208 : aggSize prog 208 = some 256 := by kernel_rfl
theorem z_size208 : sizeT prog 208 = some 256 := by kernel_rfl
theorem z_arr208 : arrP prog 208 = some (256, 4, 1) := by kernel_rfl
theorem z_size4 : sizeT prog 4 = some 1 := by kernel_rfl
theorem z_en132 : enters prog 132 = true := by kernel_rfl
theorem z_sc4 : isScalar prog 4 = true := by kernel_rfl
theorem z_en158 : enters prog 158 = true := by kernel_rfl
theorem z_en134 : enters prog 134 = true := by kernel_rfl
theorem z_en133 : enters prog 133 = true := by kernel_rfl
theorem z_en175 : enters prog 175 = true := by kernel_rfl
theorem z_en160 : enters prog 160 = true := by kernel_rfl
theorem z_en91 : enters prog 91 = true := by kernel_rfl
theorem z_en178 : enters prog 178 = true := by kernel_rfl
theorem z_en174 : enters prog 174 = true := by kernel_rfl
theorem z_en159 : enters prog 159 = true := by kernel_rfl
theorem z_en136 : enters prog 136 = true := by kernel_rfl
theorem z_en135 : enters prog 135 = true := by kernel_rfl
theorem z_en114 : enters prog 114 = true := by kernel_rfl
theorem z_str35 : (ByteArray.mk #[48]) = bstr [48] := by kernel_rfl
theorem z_en87 : enters prog 87 = true := by kernel_rfl
theorem z_sc23 : isScalar prog 23 = true := by kernel_rfl
theorem z_struct149 : structT prog 149 = some ([.int .i64 0, .int .i64 0], [(0, 1), (1, 1)]) := by kernel_rfl
theorem z_slT23 : slT prog 23 = some (149, 2, 16) := by kernel_rfl
theorem z_zero149 : zeroT prog 149 = some [.int .i64 0, .int .i64 0] := by kernel_rfl
theorem z_sc32 : isScalar prog 32 = true := by kernel_rfl
theorem z_en119 : enters prog 119 = true := by kernel_rfl
theorem z_field26_2 : fieldT prog 26 2 = some 7 := by kernel_rfl
theorem z_zero24 : zeroT prog 24 = some [.slice none 0 0] := by kernel_rfl
theorem z_size24 : sizeT prog 24 = some 1 := by kernel_rfl
theorem z_sc24 : isScalar prog 24 = true := by kernel_rfl
theorem z_slT24 : slT prog 24 = some (3, 1, 8) := by kernel_rfl
theorem z_en120 : enters prog 120 = true := by kernel_rfl
theorem z_field26_3 : fieldT prog 26 3 = some 8 := by kernel_rfl
theorem z_str36 : (ByteArray.mk #[48, 49, 50, 51, 52, 53, 54, 55, 56, 57, 97, 98, 99, 100, 101, 102]) = bstr [48, 49, 50, 51, 52, 53, 54, 55, 56, 57, 97, 98, 99, 100, 101, 102] := by kernel_rfl
theorem z_slT27 : slT prog 27 = some (5, 1, 1) := by kernel_rfl
theorem z_zero5 : zeroT prog 5 = some [.int .u8 0] := by kernel_rfl
theorem z_en121 : enters prog 121 = true := by kernel_rfl
theorem z_field26_4 : fieldT prog 26 4 = some 9 := by kernel_rfl
theorem z_field26_5 : fieldT prog 26 5 = some 10 := by kernel_rfl
theorem z_field139_2 : fieldT prog 139 2 = some 2 := by kernel_rfl
theorem z_field26_1 : fieldT prog 26 1 = some 1 := by kernel_rfl
theorem z_arr22 : arrP prog 22 = some (6, 3, 1) := by kernel_rfl
theorem z_en98 : enters prog 98 = true := by kernel_rfl
theorem z_agg26 : aggSize prog 26 = some 11 := by kernel_rfl
theorem z_field139_3 : fieldT prog 139 3 = some 3 := by kernel_rfl
theorem z_field139_4 : fieldT prog 139 4 = some 4 := by kernel_rfl
theorem z_en126 : enters prog 126 = true := by kernel_rfl
theorem z_agg149 : aggSize prog 149 = some 2 := by kernel_rfl
theorem z_size149 : sizeT prog 149 = some 2 := by kernel_rfl
theorem z_field149_0 : fieldT prog 149 0 = some 0 := by kernel_rfl
theorem z_field149_1 : fieldT prog 149 1 = some 1 := by kernel_rfl
theorem z_en108 : enters prog 108 = true := by kernel_rfl
theorem z_en109 : enters prog 109 = true := by kernel_rfl
theorem z_sc5 : isScalar prog 5 = true := by kernel_rfl
theorem z_en110 : enters prog 110 = true := by kernel_rfl
theorem z_en81 : enters prog 81 = true := by kernel_rfl
theorem z_en82 : enters prog 82 = true := by kernel_rfl
theorem z_agg22 : aggSize prog 22 = some 6 := by kernel_rfl
theorem z_info3 : (prog.info? 3).isSome = true := by kernel_rfl
theorem z_cell3 : Program.cellsOf prog 3 = 1 := by kernel_rfl
theorem z_eqg22 : Program.eqGuardType prog (Program.depth prog) 22 = false := by kernel_rfl
theorem z_held149 : Program.stoodInHeld prog 149 = false := by kernel_rfl
theorem z_eqg149 : Program.eqGuardType prog (Program.depth prog) 149 = false := by kernel_rfl
theorem z_en86 : enters prog 86 = true := by kernel_rfl
theorem z_en48 : enters prog 48 = true := by kernel_rfl
theorem z_en47 : enters prog 47 = true := by kernel_rfl
theorem z_en41 : enters prog 41 = true := by kernel_rfl
theorem z_en63 : enters prog 63 = true := by kernel_rfl
theorem z_field31_1 : fieldT prog 31 1 = some 1 := by kernel_rfl
theorem z_struct31 : structT prog 31 = some ([.int .i64 0, .int .i64 0, .int .i64 0, .int .i64 0, .int .i64 0, .int .i64 0, .int .i64 0, .int .i64 0, .slice none 0 0, .slice none 0 0, .string (bstr []), .string (bstr []), .int .i64 0, .int .i64 0, .int .i64 0, .int .i64 0, .slice none 0 0, .slice none 0 0], [(0, 1), (1, 11), (12, 5), (17, 1)]) := by kernel_rfl
theorem z_size31 : sizeT prog 31 = some 18 := by kernel_rfl
theorem z_agg31 : aggSize prog 31 = some 18 := by kernel_rfl
theorem z_field31_3 : fieldT prog 31 3 = some 17 := by kernel_rfl
theorem z_field31_2 : fieldT prog 31 2 = some 12 := by kernel_rfl
theorem z_agg29 : aggSize prog 29 = some 5 := by kernel_rfl
theorem z_field29_0 : fieldT prog 29 0 = some 0 := by kernel_rfl
theorem z_str37 : (ByteArray.mk #[119, 104, 111, 108, 101]) = bstr [119, 104, 111, 108, 101] := by kernel_rfl
theorem z_str38 : (ByteArray.mk #[99, 117, 116]) = bstr [99, 117, 116] := by kernel_rfl
theorem z_str39 : (ByteArray.mk #[116, 117, 114, 110]) = bstr [116, 117, 114, 110] := by kernel_rfl
theorem z_str40 : (ByteArray.mk #[106, 117, 110, 107]) = bstr [106, 117, 110, 107] := by kernel_rfl
theorem z_en74 : enters prog 74 = true := by kernel_rfl
theorem z_field29_4 : fieldT prog 29 4 = some 4 := by kernel_rfl
theorem z_sc27 : isScalar prog 27 = true := by kernel_rfl
theorem z_en75 : enters prog 75 = true := by kernel_rfl
theorem z_field29_1 : fieldT prog 29 1 = some 1 := by kernel_rfl
theorem z_field29_2 : fieldT prog 29 2 = some 2 := by kernel_rfl
theorem z_field29_3 : fieldT prog 29 3 = some 3 := by kernel_rfl
theorem z_arrz133 : arrT prog 133 = some ([.int .i64 0, .int .i64 0, .int .i64 0], 1) := by kernel_rfl
theorem z_arr133 : arrP prog 133 = some (3, 3, 1) := by kernel_rfl
theorem z_en76 : enters prog 76 = true := by kernel_rfl
theorem z_en34 : enters prog 34 = true := by kernel_rfl
theorem z_en33 : enters prog 33 = true := by kernel_rfl
theorem z_en43 : enters prog 43 = true := by kernel_rfl
theorem z_en83 : enters prog 83 = true := by kernel_rfl
theorem z_en42 : enters prog 42 = true := by kernel_rfl
theorem z_en15 : enters prog 15 = true := by kernel_rfl
theorem z_en64 : enters prog 64 = true := by kernel_rfl
theorem z_zero29 : zeroT prog 29 = some [.int .i64 0, .int .i64 0, .int .i64 0, .int .i64 0, .slice none 0 0] := by kernel_rfl
theorem z_en99 : enters prog 99 = true := by kernel_rfl
theorem z_size27 : sizeT prog 27 = some 1 := by kernel_rfl
theorem z_struct29 : structT prog 29 = some ([.int .i64 0, .int .i64 0, .int .i64 0, .int .i64 0, .slice none 0 0], [(0, 1), (1, 1), (2, 1), (3, 1), (4, 1)]) := by kernel_rfl
theorem z_size29 : sizeT prog 29 = some 5 := by kernel_rfl
theorem z_arrz171 : arrT prog 171 = some ([.pointer none, .pointer none, .pointer none], 1) := by kernel_rfl
theorem z_arr171 : arrP prog 171 = some (3, 170, 1) := by kernel_rfl
theorem z_sc170 : isScalar prog 170 = true := by kernel_rfl
theorem z_en65 : enters prog 65 = true := by kernel_rfl
theorem z_en25 : enters prog 25 = true := by kernel_rfl
theorem z_en7 : enters prog 7 = true := by kernel_rfl
theorem z_zero40 : zeroT prog 40 = some [.int .i64 0, .int .i64 0, .int .i64 0, .int .i64 0, .int .i64 0, .int .i64 0, .int .i64 0, .int .i64 0, .slice none 0 0, .slice none 0 0, .string (bstr []), .string (bstr []), .int .i64 0, .int .i64 0, .int .i64 0, .int .i64 0, .slice none 0 0, .slice none 0 0] := by kernel_rfl
theorem z_en20 : enters prog 20 = true := by kernel_rfl
theorem z_zero37 : zeroT prog 37 = some [.int .i64 0, .int .i64 0, .int .i64 0, .int .i64 0, .int .i64 0, .int .i64 0, .int .i64 0, .slice none 0 0, .slice none 0 0, .string (bstr []), .string (bstr [])] := by kernel_rfl
theorem z_struct37 : structT prog 37 = some ([.int .i64 0, .int .i64 0, .int .i64 0, .int .i64 0, .int .i64 0, .int .i64 0, .int .i64 0, .slice none 0 0, .slice none 0 0, .string (bstr []), .string (bstr [])], [(0, 1), (1, 6), (7, 1), (8, 1), (9, 1), (10, 1)]) := by kernel_rfl
theorem z_size37 : sizeT prog 37 = some 11 := by kernel_rfl
theorem z_en66 : enters prog 66 = true := by kernel_rfl
theorem z_field37_0 : fieldT prog 37 0 = some 0 := by kernel_rfl
theorem z_agg37 : aggSize prog 37 = some 11 := by kernel_rfl
theorem z_slT126 : slT prog 126 = some (129, 7, 64) := by kernel_rfl
theorem z_zero129 : zeroT prog 129 = some [.string (bstr []), .int .i64 0, .int .i64 0, .int .i64 0, .int .i64 0, .int .i64 0, .int .i64 0] := by kernel_rfl
theorem z_struct129 : structT prog 129 = some ([.string (bstr []), .int .i64 0, .int .i64 0, .int .i64 0, .int .i64 0, .int .i64 0, .int .i64 0], [(0, 1), (1, 1), (2, 1), (3, 1), (4, 1), (5, 1), (6, 1)]) := by kernel_rfl
theorem z_agg129 : aggSize prog 129 = some 7 := by kernel_rfl
theorem z_size129 : sizeT prog 129 = some 7 := by kernel_rfl
theorem z_field129_2 : fieldT prog 129 2 = some 2 := by kernel_rfl
theorem z_field129_1 : fieldT prog 129 1 = some 1 := by kernel_rfl
theorem z_en67 : enters prog 67 = true := by kernel_rfl
theorem z_field129_0 : fieldT prog 129 0 = some 0 := by kernel_rfl
theorem z_en27 : enters prog 27 = true := by kernel_rfl
theorem z_en100 : enters prog 100 = true := by kernel_rfl
theorem z_slT35 : slT prog 35 = some (134, 2, 16) := by kernel_rfl
theorem z_zero134 : zeroT prog 134 = some [.int .i64 0, .int .i64 0] := by kernel_rfl
theorem z_field37_2 : fieldT prog 37 2 = some 7 := by kernel_rfl
theorem z_sc35 : isScalar prog 35 = true := by kernel_rfl
theorem z_arrz134 : arrT prog 134 = some ([.int .i64 0, .int .i64 0], 1) := by kernel_rfl
theorem z_size35 : sizeT prog 35 = some 1 := by kernel_rfl
theorem z_field37_3 : fieldT prog 37 3 = some 8 := by kernel_rfl
theorem z_en111 : enters prog 111 = true := by kernel_rfl
theorem z_en101 : enters prog 101 = true := by kernel_rfl
theorem z_field37_4 : fieldT prog 37 4 = some 9 := by kernel_rfl
theorem z_field37_5 : fieldT prog 37 5 = some 10 := by kernel_rfl
theorem z_field37_1 : fieldT prog 37 1 = some 1 := by kernel_rfl
theorem z_en68 : enters prog 68 = true := by kernel_rfl
theorem z_zero143 : zeroT prog 143 = some [.bool false, .bool false, .bool false, .bool false, .bool false, .bool false, .bool false] := by kernel_rfl
theorem z_zero144 : zeroT prog 144 = some [.bool false, .bool false, .bool false, .bool false, .bool false, .bool false] := by kernel_rfl
theorem z_arr143 : arrP prog 143 = some (7, 4, 1) := by kernel_rfl
theorem z_arr134 : arrP prog 134 = some (2, 3, 1) := by kernel_rfl
theorem z_en77 : enters prog 77 = true := by kernel_rfl
theorem z_en78 : enters prog 78 = true := by kernel_rfl
theorem z_en79 : enters prog 79 = true := by kernel_rfl
theorem z_arr144 : arrP prog 144 = some (6, 4, 1) := by kernel_rfl
theorem z_field129_3 : fieldT prog 129 3 = some 3 := by kernel_rfl
theorem z_field129_4 : fieldT prog 129 4 = some 4 := by kernel_rfl
theorem z_en38 : enters prog 38 = true := by kernel_rfl
theorem z_en26 : enters prog 26 = true := by kernel_rfl
theorem z_struct40 : structT prog 40 = some ([.int .i64 0, .int .i64 0, .int .i64 0, .int .i64 0, .int .i64 0, .int .i64 0, .int .i64 0, .int .i64 0, .slice none 0 0, .slice none 0 0, .string (bstr []), .string (bstr []), .int .i64 0, .int .i64 0, .int .i64 0, .int .i64 0, .slice none 0 0, .slice none 0 0], [(0, 1), (1, 11), (12, 5), (17, 1)]) := by kernel_rfl
theorem z_size40 : sizeT prog 40 = some 18 := by kernel_rfl
theorem z_field40_3 : fieldT prog 40 3 = some 17 := by kernel_rfl
theorem z_agg40 : aggSize prog 40 = some 18 := by kernel_rfl
theorem z_field40_0 : fieldT prog 40 0 = some 0 := by kernel_rfl
theorem z_field40_1 : fieldT prog 40 1 = some 1 := by kernel_rfl
theorem z_field40_2 : fieldT prog 40 2 = some 12 := by kernel_rfl
theorem z_field38_0 : fieldT prog 38 0 = some 0 := by kernel_rfl
theorem z_en13 : enters prog 13 = true := by kernel_rfl
theorem z_zero38 : zeroT prog 38 = some [.int .i64 0, .int .i64 0, .int .i64 0, .int .i64 0, .slice none 0 0] := by kernel_rfl
theorem z_struct38 : structT prog 38 = some ([.int .i64 0, .int .i64 0, .int .i64 0, .int .i64 0, .slice none 0 0], [(0, 1), (1, 1), (2, 1), (3, 1), (4, 1)]) := by kernel_rfl
theorem z_size38 : sizeT prog 38 = some 5 := by kernel_rfl
theorem z_agg38 : aggSize prog 38 = some 5 := by kernel_rfl
theorem z_en102 : enters prog 102 = true := by kernel_rfl
theorem z_en69 : enters prog 69 = true := by kernel_rfl
theorem z_field38_4 : fieldT prog 38 4 = some 4 := by kernel_rfl
theorem z_zero133 : zeroT prog 133 = some [.int .i64 0, .int .i64 0, .int .i64 0] := by kernel_rfl
theorem z_field38_1 : fieldT prog 38 1 = some 1 := by kernel_rfl
theorem z_field38_2 : fieldT prog 38 2 = some 2 := by kernel_rfl
theorem z_field38_3 : fieldT prog 38 3 = some 3 := by kernel_rfl
theorem z_en28 : enters prog 28 = true := by kernel_rfl
theorem z_en8 : enters prog 8 = true := by kernel_rfl
theorem z_struct56 : structT prog 56 = some ([.int .i64 0, .int .i64 0, .int .u32 0], [(0, 1), (1, 1), (2, 1)]) := by kernel_rfl
theorem z_struct58 : structT prog 58 = some ([.int .u32 0, .int .i64 0], [(0, 1), (1, 1)]) := by kernel_rfl
theorem z_arrz22 : arrT prog 22 = some ([.int .i64 0, .int .i64 0, .int .i64 0, .int .i64 0, .int .i64 0, .int .i64 0], 1) := by kernel_rfl
theorem z_slT59 : slT prog 59 = some (31, 18, 224) := by kernel_rfl
theorem z_agg56 : aggSize prog 56 = some 3 := by kernel_rfl
theorem z_field56_0 : fieldT prog 56 0 = some 0 := by kernel_rfl
theorem z_field56_1 : fieldT prog 56 1 = some 1 := by kernel_rfl
theorem z_en55 : enters prog 55 = true := by kernel_rfl
theorem z_agg58 : aggSize prog 58 = some 2 := by kernel_rfl
theorem z_field58_1 : fieldT prog 58 1 = some 1 := by kernel_rfl
theorem z_en56 : enters prog 56 = true := by kernel_rfl
theorem z_str41 : (ByteArray.mk #[108, 105, 110, 107]) = bstr [108, 105, 110, 107] := by kernel_rfl
theorem z_field56_2 : fieldT prog 56 2 = some 2 := by kernel_rfl
theorem z_sc54 : isScalar prog 54 = true := by kernel_rfl
theorem z_field58_0 : fieldT prog 58 0 = some 0 := by kernel_rfl
theorem z_arrz157 : arrT prog 157 = some ([.int .i64 0, .int .i64 0, .int .i64 0, .int .i64 0, .int .i64 0], 1) := by kernel_rfl
theorem z_arr157 : arrP prog 157 = some (5, 3, 1) := by kernel_rfl
theorem z_en57 : enters prog 57 = true := by kernel_rfl
theorem z_str42 : (ByteArray.mk #[10]) = bstr [10] := by kernel_rfl
theorem z_en104 : enters prog 104 = true := by kernel_rfl
theorem z_en105 : enters prog 105 = true := by kernel_rfl
theorem z_en73 : enters prog 73 = true := by kernel_rfl
theorem z_en32 : enters prog 32 = true := by kernel_rfl
theorem z_str43 : (ByteArray.mk #[115, 101, 110, 100, 32]) = bstr [115, 101, 110, 100, 32] := by kernel_rfl
theorem z_en11 : enters prog 11 = true := by kernel_rfl
theorem z_en22 : enters prog 22 = true := by kernel_rfl
theorem z_str44 : (ByteArray.mk #[108, 105, 110, 107, 32, 50, 32, 54, 52, 32, 49, 48, 32, 49, 48, 32, 52, 10, 115, 101, 110, 100, 32, 104, 111, 108, 100, 32, 114, 111, 98, 111, 116, 32, 49, 32, 114, 101, 97, 115, 111, 110, 32, 50, 32, 122, 111, 110, 101, 32, 51, 10, 99, 104, 117, 110, 107, 32, 49, 32, 50, 10, 97, 108, 108, 10]) = bstr [108, 105, 110, 107, 32, 50, 32, 54, 52, 32, 49, 48, 32, 49, 48, 32, 52, 10, 115, 101, 110, 100, 32, 104, 111, 108, 100, 32, 114, 111, 98, 111, 116, 32, 49, 32, 114, 101, 97, 115, 111, 110, 32, 50, 32, 122, 111, 110, 101, 32, 51, 10, 99, 104, 117, 110, 107, 32, 49, 32, 50, 10, 97, 108, 108, 10] := by kernel_rfl
theorem z_en9 : enters prog 9 = true := by kernel_rfl
theorem z_en39 : enters prog 39 = true := by kernel_rfl
theorem z_en40 : enters prog 40 = true := by kernel_rfl
theorem z_en14 : enters prog 14 = true := by kernel_rfl
theorem z_en31 : enters prog 31 = true := by kernel_rfl
theorem z_en70 : enters prog 70 = true := by kernel_rfl
theorem z_en30 : enters prog 30 = true := by kernel_rfl
theorem z_agg134 : aggSize prog 134 = some 2 := by kernel_rfl
theorem z_eqg134 : Program.eqGuardType prog (Program.depth prog) 134 = false := by kernel_rfl
theorem z_en29 : enters prog 29 = true := by kernel_rfl
theorem z_en10 : enters prog 10 = true := by kernel_rfl
theorem z_zero4 : zeroT prog 4 = some [.bool false] := by kernel_rfl
theorem z_zero56 : zeroT prog 56 = some [.int .i64 0, .int .i64 0, .int .u32 0] := by kernel_rfl
theorem z_zero58 : zeroT prog 58 = some [.int .u32 0, .int .i64 0] := by kernel_rfl
theorem z_zero59 : zeroT prog 59 = some [.slice none 0 0] := by kernel_rfl
theorem z_en90 : enters prog 90 = true := by kernel_rfl
theorem z_en53 : enters prog 53 = true := by kernel_rfl
theorem z_en89 : enters prog 89 = true := by kernel_rfl
theorem z_en92 : enters prog 92 = true := by kernel_rfl
theorem z_en54 : enters prog 54 = true := by kernel_rfl
theorem z_en52 : enters prog 52 = true := by kernel_rfl
theorem z_en21 : enters prog 21 = true := by kernel_rfl
theorem z_zero157 : zeroT prog 157 = some [.int .i64 0, .int .i64 0, .int .i64 0, .int .i64 0, .int .i64 0] := by kernel_rfl
theorem z_size56 : sizeT prog 56 = some 3 := by kernel_rfl
theorem z_size58 : sizeT prog 58 = some 2 := by kernel_rfl
theorem z_en88 : enters prog 88 = true := by kernel_rfl
theorem z_en49 : enters prog 49 = true := by kernel_rfl
theorem z_sc59 : isScalar prog 59 = true := by kernel_rfl
theorem z_size59 : sizeT prog 59 = some 1 := by kernel_rfl
theorem z_en50 : enters prog 50 = true := by kernel_rfl
theorem z_en18 : enters prog 18 = true := by kernel_rfl
theorem z_zero62 : zeroT prog 62 = some [.int .i64 0, .int .i64 0, .int .u32 0] := by kernel_rfl
theorem z_zero63 : zeroT prog 63 = some [.int .u32 0, .int .i64 0] := by kernel_rfl
theorem z_struct62 : structT prog 62 = some ([.int .i64 0, .int .i64 0, .int .u32 0], [(0, 1), (1, 1), (2, 1)]) := by kernel_rfl
theorem z_struct63 : structT prog 63 = some ([.int .u32 0, .int .i64 0], [(0, 1), (1, 1)]) := by kernel_rfl
theorem z_size62 : sizeT prog 62 = some 3 := by kernel_rfl
theorem z_size63 : sizeT prog 63 = some 2 := by kernel_rfl
theorem z_agg62 : aggSize prog 62 = some 3 := by kernel_rfl
theorem z_agg63 : aggSize prog 63 = some 2 := by kernel_rfl
theorem z_field62_0 : fieldT prog 62 0 = some 0 := by kernel_rfl
theorem z_field62_1 : fieldT prog 62 1 = some 1 := by kernel_rfl
theorem z_en58 : enters prog 58 = true := by kernel_rfl
theorem z_field63_1 : fieldT prog 63 1 = some 1 := by kernel_rfl
theorem z_en59 : enters prog 59 = true := by kernel_rfl
theorem z_en51 : enters prog 51 = true := by kernel_rfl
theorem z_slT64 : slT prog 64 = some (40, 18, 224) := by kernel_rfl
theorem z_en19 : enters prog 19 = true := by kernel_rfl
theorem z_held62 : Program.stoodInHeld prog 62 = false := by kernel_rfl
theorem z_eqg62 : Program.eqGuardType prog (Program.depth prog) 62 = false := by kernel_rfl
theorem z_held63 : Program.stoodInHeld prog 63 = false := by kernel_rfl
theorem z_eqg63 : Program.eqGuardType prog (Program.depth prog) 63 = false := by kernel_rfl
theorem z_size22 : sizeT prog 22 = some 6 := by kernel_rfl
theorem z_size107 : sizeT prog 107 = some 1 := by kernel_rfl
theorem z_size54 : sizeT prog 54 = some 1 := by kernel_rfl
def z_tyf : TyF := ⟨[(21, .i32), (3, .i64), (5, .u8), (54, .u32)], [(129, 1, 1), (129, 2, 2), (139, 0, 0), (139, 1, 1), (139, 2, 2), (139, 3, 3), (139, 4, 4), (139, 5, 5), (149, 0, 0), (149, 1, 1), (26, 0, 0), (26, 1, 1), (26, 2, 7), (26, 3, 8), (26, 4, 9), (26, 5, 10), (29, 0, 0), (29, 1, 1), (29, 2, 2), (29, 3, 3), (29, 4, 4), (31, 0, 0), (31, 1, 1), (31, 2, 12), (31, 3, 17), (37, 0, 0), (37, 1, 1), (37, 2, 7), (37, 3, 8), (37, 4, 9), (37, 5, 10), (38, 0, 0), (38, 1, 1), (38, 2, 2), (38, 3, 3), (38, 4, 4), (40, 0, 0), (40, 1, 1), (40, 2, 12), (40, 3, 17), (56, 0, 0), (56, 1, 1), (56, 2, 2), (58, 0, 0), (58, 1, 1), (62, 0, 0), (62, 1, 1), (63, 1, 1)], [9], [], [], [70]⟩
theorem z_T : TyOk prog z_tyf := ⟨(fa_cons underlying21 (fa_cons underlying3 (fa_cons underlying5 (fa_cons underlying54 fa_nil)))), (fa_cons z_field129_1 (fa_cons z_field129_2 (fa_cons z_field139_0 (fa_cons z_field139_1 (fa_cons z_field139_2 (fa_cons z_field139_3 (fa_cons z_field139_4 (fa_cons z_field139_5 (fa_cons z_field149_0 (fa_cons z_field149_1 (fa_cons z_field26_0 (fa_cons z_field26_1 (fa_cons z_field26_2 (fa_cons z_field26_3 (fa_cons z_field26_4 (fa_cons z_field26_5 (fa_cons z_field29_0 (fa_cons z_field29_1 (fa_cons z_field29_2 (fa_cons z_field29_3 (fa_cons z_field29_4 (fa_cons z_field31_0 (fa_cons z_field31_1 (fa_cons z_field31_2 (fa_cons z_field31_3 (fa_cons z_field37_0 (fa_cons z_field37_1 (fa_cons z_field37_2 (fa_cons z_field37_3 (fa_cons z_field37_4 (fa_cons z_field37_5 (fa_cons z_field38_0 (fa_cons z_field38_1 (fa_cons z_field38_2 (fa_cons z_field38_3 (fa_cons z_field38_4 (fa_cons z_field40_0 (fa_cons z_field40_1 (fa_cons z_field40_2 (fa_cons z_field40_3 (fa_cons z_field56_0 (fa_cons z_field56_1 (fa_cons z_field56_2 (fa_cons z_field58_0 (fa_cons z_field58_1 (fa_cons z_field62_0 (fa_cons z_field62_1 (fa_cons z_field63_1 fa_nil)))))))))))))))))))))))))))))))))))))))))))))))), (fa_cons underlying9 fa_nil), fa_nil, fa_nil, (fa_cons ⟨_, _, _, underlying70⟩ fa_nil)⟩
def z_tym : TyM := ⟨[107, 164, 23, 24, 27, 3, 32, 35, 4, 54, 59, 67, 9], [(129, 7), (139, 7), (149, 2), (22, 6), (26, 11), (29, 5), (31, 18), (37, 11), (38, 5), (40, 18), (56, 3), (58, 2), (62, 3), (63, 2)], [(149, [.int .i64 0, .int .i64 0], [(0, 1), (1, 1)]), (26, [.int .i64 0, .int .i64 0, .int .i64 0, .int .i64 0, .int .i64 0, .int .i64 0, .int .i64 0, .slice none 0 0, .slice none 0 0, .string (bstr []), .string (bstr [])], [(0, 1), (1, 6), (7, 1), (8, 1), (9, 1), (10, 1)]), (29, [.int .i64 0, .int .i64 0, .int .i64 0, .int .i64 0, .slice none 0 0], [(0, 1), (1, 1), (2, 1), (3, 1), (4, 1)]), (31, [.int .i64 0, .int .i64 0, .int .i64 0, .int .i64 0, .int .i64 0, .int .i64 0, .int .i64 0, .int .i64 0, .slice none 0 0, .slice none 0 0, .string (bstr []), .string (bstr []), .int .i64 0, .int .i64 0, .int .i64 0, .int .i64 0, .slice none 0 0, .slice none 0 0], [(0, 1), (1, 11), (12, 5), (17, 1)]), (37, [.int .i64 0, .int .i64 0, .int .i64 0, .int .i64 0, .int .i64 0, .int .i64 0, .int .i64 0, .slice none 0 0, .slice none 0 0, .string (bstr []), .string (bstr [])], [(0, 1), (1, 6), (7, 1), (8, 1), (9, 1), (10, 1)]), (38, [.int .i64 0, .int .i64 0, .int .i64 0, .int .i64 0, .slice none 0 0], [(0, 1), (1, 1), (2, 1), (3, 1), (4, 1)]), (40, [.int .i64 0, .int .i64 0, .int .i64 0, .int .i64 0, .int .i64 0, .int .i64 0, .int .i64 0, .int .i64 0, .slice none 0 0, .slice none 0 0, .string (bstr []), .string (bstr []), .int .i64 0, .int .i64 0, .int .i64 0, .int .i64 0, .slice none 0 0, .slice none 0 0], [(0, 1), (1, 11), (12, 5), (17, 1)]), (56, [.int .i64 0, .int .i64 0, .int .u32 0], [(0, 1), (1, 1), (2, 1)]), (58, [.int .u32 0, .int .i64 0], [(0, 1), (1, 1)]), (62, [.int .i64 0, .int .i64 0, .int .u32 0], [(0, 1), (1, 1), (2, 1)]), (63, [.int .u32 0, .int .i64 0], [(0, 1), (1, 1)])], []⟩
theorem z_M : TyMOk prog z_tym := ⟨(fa_cons z_sc107 (fa_cons z_sc164 (fa_cons z_sc23 (fa_cons z_sc24 (fa_cons z_sc27 (fa_cons z_sc3 (fa_cons z_sc32 (fa_cons z_sc35 (fa_cons z_sc4 (fa_cons z_sc54 (fa_cons z_sc59 (fa_cons z_sc67 (fa_cons z_sc9 fa_nil))))))))))))), (fa_cons z_size107 (fa_cons z_size164 (fa_cons z_size23 (fa_cons z_size24 (fa_cons z_size27 (fa_cons z_size3 (fa_cons z_size32 (fa_cons z_size35 (fa_cons z_size4 (fa_cons z_size54 (fa_cons z_size59 (fa_cons z_size67 (fa_cons z_size9 fa_nil))))))))))))), (fa_cons z_agg129 (fa_cons z_agg139 (fa_cons z_agg149 (fa_cons z_agg22 (fa_cons z_agg26 (fa_cons z_agg29 (fa_cons z_agg31 (fa_cons z_agg37 (fa_cons z_agg38 (fa_cons z_agg40 (fa_cons z_agg56 (fa_cons z_agg58 (fa_cons z_agg62 (fa_cons z_agg63 fa_nil)))))))))))))), (fa_cons z_size129 (fa_cons z_size139 (fa_cons z_size149 (fa_cons z_size22 (fa_cons z_size26 (fa_cons z_size29 (fa_cons z_size31 (fa_cons z_size37 (fa_cons z_size38 (fa_cons z_size40 (fa_cons z_size56 (fa_cons z_size58 (fa_cons z_size62 (fa_cons z_size63 fa_nil)))))))))))))), (fa_cons z_struct149 (fa_cons z_struct26 (fa_cons z_struct29 (fa_cons z_struct31 (fa_cons z_struct37 (fa_cons z_struct38 (fa_cons z_struct40 (fa_cons z_struct56 (fa_cons z_struct58 (fa_cons z_struct62 (fa_cons z_struct63 fa_nil))))))))))), fa_nil⟩
theorem Z {n : Nat} {c : Ctx prog n} {σ : Sto} {gs : List Grp} (f : Nat) {ρ ρ' : Env} {k k' : List Item} (hk : St c ρ' σ gs k') (h : go z_tyf n f ρ k = some (ρ', k') := by exact rfl) : St c ρ σ gs k := st_go z_T f h hk
theorem dA {n : Nat} {c : Ctx prog n} {k : List Item} {ops : Array Oper} {dsts : List Nat} {L : List DT} {ρ : Env} {i : Nat} (h : dpv z_tyf n ops dsts L ρ i = dvl L i := by exact rfl) (hs : (dvl L i).isSome = true := by exact rfl) : Core c k ops dsts L ρ i := core_A z_T h hs
theorem dG {n : Nat} {c : Ctx prog n} {k : List Item} {ops : Array Oper} {dsts : List Nat} {L : List DT} {ρ : Env} {i : Nat} (ks : List Nat) (h : DGok z_tyf n ops dsts L ρ ks i := by exact ⟨rfl, rfl, rfl⟩) : Core c k ops dsts L ρ i := core_G z_T h
theorem ZZ {n : Nat} {c : Ctx prog n} {σ : Sto} (f : Nat) (js : List Nat) {gs gs' : List Grp} {ρ ρ' : Env} {k k' : List Item} {e : List (Nat × Nat)} (hk : St c ρ' σ gs' k') (h : go2 z_tyf z_tym n f js ρ gs k = some (ρ', gs', k', e) := by exact rfl) (he : e.map (·.1) = e.map (·.2) := by exact rfl) : St c ρ σ gs k := st_go2 z_T z_M f h he hk
end Go.Rel
