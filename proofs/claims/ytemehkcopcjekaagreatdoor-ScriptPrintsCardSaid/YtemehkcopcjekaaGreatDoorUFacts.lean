import Derived.Test.YtemehkcopcjekaaGreatDoorProg
import Derived.Test.YtemehkcopcjekaaGreatDoorEngU
import Derived.KernelRfl
import Derived.Test.YtemehkcopcjekaaGreatDoorEngW
import Derived.Test.YtemehkcopcjekaaGreatDoorEngX
import Derived.Test.YtemehkcopcjekaaGreatDoorEngY
import Derived.Test.YtemehkcopcjekaaGreatDoorShelf
/-! Facts of the program's types and functions. -/
namespace Go.Rel
open Go Go.Eng Go.Proofs
theorem z_zero31 : zeroT Tryz.prog 31 = some [.int .i64 0, .int .i64 0, .int .i64 0, .int .i64 0, .int .i64 0, .int .i64 0, .int .i64 0, .int .i64 0, .slice none 0 0, .slice none 0 0, .string (bstr []), .string (bstr []), .int .i64 0, .int .i64 0, .int .i64 0, .int .i64 0, .slice none 0 0, .slice none 0 0] := by kernel_rfl
theorem z_zero67 : zeroT Tryz.prog 67 = some [.slice none 0 0] := by kernel_rfl
theorem z_zero3 : zeroT Tryz.prog 3 = some [.int .i64 0] := by kernel_rfl
theorem z_size3 : sizeT Tryz.prog 3 = some 1 := by kernel_rfl
theorem z_sc9 : isScalar Tryz.prog 9 = true := by kernel_rfl
theorem z_str0 : (ByteArray.mk #[32]) = bstr [32] := by kernel_rfl
theorem z_en139 : enters Tryz.prog 139 = true := by kernel_rfl
theorem z_size9 : sizeT Tryz.prog 9 = some 1 := by kernel_rfl
theorem z_en140 : enters Tryz.prog 140 = true := by kernel_rfl
theorem z_sc3 : isScalar Tryz.prog 3 = true := by kernel_rfl
theorem z_en138 : enters Tryz.prog 138 = true := by kernel_rfl
theorem z_en116 : enters Tryz.prog 116 = true := by kernel_rfl
theorem z_en94 : enters Tryz.prog 94 = true := by kernel_rfl
theorem z_sc107 : isScalar Tryz.prog 107 = true := by kernel_rfl
theorem z_en93 : enters Tryz.prog 93 = true := by kernel_rfl
theorem z_en61 : enters Tryz.prog 61 = true := by kernel_rfl
theorem z_sc67 : isScalar Tryz.prog 67 = true := by kernel_rfl
theorem z_slT67 : slT Tryz.prog 67 = some (9, 1, 16) := by kernel_rfl
theorem z_zero9 : zeroT Tryz.prog 9 = some [.string (bstr [])] := by kernel_rfl
theorem z_size67 : sizeT Tryz.prog 67 = some 1 := by kernel_rfl
theorem z_str1 : (ByteArray.mk #[]) = bstr [] := by kernel_rfl
theorem z_str2 : (ByteArray.mk #[115, 101, 110, 100]) = bstr [115, 101, 110, 100] := by kernel_rfl
theorem z_str3 : (ByteArray.mk #[97, 108, 108]) = bstr [97, 108, 108] := by kernel_rfl
theorem z_str4 : (ByteArray.mk #[99, 104, 117, 110, 107]) = bstr [99, 104, 117, 110, 107] := by kernel_rfl
theorem z_str5 : (ByteArray.mk #[115, 116, 97, 116, 101]) = bstr [115, 116, 97, 116, 101] := by kernel_rfl
theorem z_str6 : (ByteArray.mk #[116, 97, 108, 108, 121]) = bstr [116, 97, 108, 108, 121] := by kernel_rfl
theorem z_en35 : enters Tryz.prog 35 = true := by kernel_rfl
theorem z_field31_0 : fieldT Tryz.prog 31 0 = some 0 := by kernel_rfl
theorem z_en117 : enters Tryz.prog 117 = true := by kernel_rfl
theorem z_mix : Tryz.prog.follows .mixedOrders = true := by kernel_rfl
theorem z_en95 : enters Tryz.prog 95 = true := by kernel_rfl
theorem z_en62 : enters Tryz.prog 62 = true := by kernel_rfl
theorem z_zero26 : zeroT Tryz.prog 26 = some [.int .i64 0, .int .i64 0, .int .i64 0, .int .i64 0, .int .i64 0, .int .i64 0, .int .i64 0, .slice none 0 0, .slice none 0 0, .string (bstr []), .string (bstr [])] := by kernel_rfl
theorem z_zero164 : zeroT Tryz.prog 164 = some [.nilFunc] := by kernel_rfl
theorem z_size164 : sizeT Tryz.prog 164 = some 1 := by kernel_rfl
theorem z_sc164 : isScalar Tryz.prog 164 = true := by kernel_rfl
theorem z_en96 : enters Tryz.prog 96 = true := by kernel_rfl
theorem z_str7 : (ByteArray.mk #[109, 111, 118, 101]) = bstr [109, 111, 118, 101] := by kernel_rfl
theorem z_str8 : (ByteArray.mk #[104, 111, 108, 100]) = bstr [104, 111, 108, 100] := by kernel_rfl
theorem z_str9 : (ByteArray.mk #[103, 114, 97, 110, 116]) = bstr [103, 114, 97, 110, 116] := by kernel_rfl
theorem z_str10 : (ByteArray.mk #[112, 111, 115, 101]) = bstr [112, 111, 115, 101] := by kernel_rfl
theorem z_str11 : (ByteArray.mk #[102, 97, 117, 108, 116]) = bstr [102, 97, 117, 108, 116] := by kernel_rfl
theorem z_en71 : enters Tryz.prog 71 = true := by kernel_rfl
theorem z_en144 : enters Tryz.prog 144 = true := by kernel_rfl
theorem z_en118 : enters Tryz.prog 118 = true := by kernel_rfl
theorem z_en97 : enters Tryz.prog 97 = true := by kernel_rfl
theorem z_struct26 : structT Tryz.prog 26 = some ([.int .i64 0, .int .i64 0, .int .i64 0, .int .i64 0, .int .i64 0, .int .i64 0, .int .i64 0, .slice none 0 0, .slice none 0 0, .string (bstr []), .string (bstr [])], [(0, 1), (1, 6), (7, 1), (8, 1), (9, 1), (10, 1)]) := by kernel_rfl
theorem z_size26 : sizeT Tryz.prog 26 = some 11 := by kernel_rfl
theorem z_zero32 : zeroT Tryz.prog 32 = some [.int .i64 0] := by kernel_rfl
theorem z_size32 : sizeT Tryz.prog 32 = some 1 := by kernel_rfl
theorem z_field26_0 : fieldT Tryz.prog 26 0 = some 0 := by kernel_rfl
theorem z_zero139 : zeroT Tryz.prog 139 = some [.string (bstr []), .int .i64 0, .int .i64 0, .int .i64 0, .int .i64 0, .int .i64 0, .int .i64 0] := by kernel_rfl
theorem z_str12 : (ByteArray.mk #[114, 111, 98, 111, 116]) = bstr [114, 111, 98, 111, 116] := by kernel_rfl
theorem z_struct139 : structT Tryz.prog 139 = some ([.string (bstr []), .int .i64 0, .int .i64 0, .int .i64 0, .int .i64 0, .int .i64 0, .int .i64 0], [(0, 1), (1, 1), (2, 1), (3, 1), (4, 1), (5, 1), (6, 1)]) := by kernel_rfl
theorem z_size139 : sizeT Tryz.prog 139 = some 7 := by kernel_rfl
theorem z_agg139 : aggSize Tryz.prog 139 = some 7 := by kernel_rfl
theorem z_en107 : enters Tryz.prog 107 = true := by kernel_rfl
theorem z_str13 : (ByteArray.mk #[115, 112, 101, 101, 100]) = bstr [115, 112, 101, 101, 100] := by kernel_rfl
theorem z_str14 : (ByteArray.mk #[97, 99, 99, 101, 108]) = bstr [97, 99, 99, 101, 108] := by kernel_rfl
theorem z_str15 : (ByteArray.mk #[112, 97, 116, 104]) = bstr [112, 97, 116, 104] := by kernel_rfl
theorem z_str16 : (ByteArray.mk #[116, 97, 103]) = bstr [116, 97, 103] := by kernel_rfl
theorem z_slT150 : slT Tryz.prog 150 = some (139, 7, 64) := by kernel_rfl
theorem z_str17 : (ByteArray.mk #[114, 101, 97, 115, 111, 110]) = bstr [114, 101, 97, 115, 111, 110] := by kernel_rfl
theorem z_str18 : (ByteArray.mk #[122, 111, 110, 101]) = bstr [122, 111, 110, 101] := by kernel_rfl
theorem z_str19 : (ByteArray.mk #[108, 101, 97, 115, 101]) = bstr [108, 101, 97, 115, 101] := by kernel_rfl
theorem z_str20 : (ByteArray.mk #[99, 101, 108, 108, 115]) = bstr [99, 101, 108, 108, 115] := by kernel_rfl
theorem z_str21 : (ByteArray.mk #[120]) = bstr [120] := by kernel_rfl
theorem z_str22 : (ByteArray.mk #[121]) = bstr [121] := by kernel_rfl
theorem z_str23 : (ByteArray.mk #[104, 101, 97, 100, 105, 110, 103]) = bstr [104, 101, 97, 100, 105, 110, 103] := by kernel_rfl
theorem z_str24 : (ByteArray.mk #[98, 97, 116, 116, 101, 114, 121]) = bstr [98, 97, 116, 116, 101, 114, 121] := by kernel_rfl
theorem z_str25 : (ByteArray.mk #[115, 117, 114, 101]) = bstr [115, 117, 114, 101] := by kernel_rfl
theorem z_str26 : (ByteArray.mk #[99, 111, 100, 101]) = bstr [99, 111, 100, 101] := by kernel_rfl
theorem z_str27 : (ByteArray.mk #[115, 101, 118, 101, 114, 105, 116, 121]) = bstr [115, 101, 118, 101, 114, 105, 116, 121] := by kernel_rfl
theorem z_str28 : (ByteArray.mk #[112, 97, 114, 116]) = bstr [112, 97, 114, 116] := by kernel_rfl
theorem z_str29 : (ByteArray.mk #[116, 105, 109, 101, 115]) = bstr [116, 105, 109, 101, 115] := by kernel_rfl
theorem z_str30 : (ByteArray.mk #[116, 101, 120, 116]) = bstr [116, 101, 120, 116] := by kernel_rfl
theorem z_en80 : enters Tryz.prog 80 = true := by kernel_rfl
theorem z_field139_5 : fieldT Tryz.prog 139 5 = some 5 := by kernel_rfl
theorem z_en103 : enters Tryz.prog 103 = true := by kernel_rfl
theorem z_en72 : enters Tryz.prog 72 = true := by kernel_rfl
theorem z_field139_0 : fieldT Tryz.prog 139 0 = some 0 := by kernel_rfl
theorem z_field139_1 : fieldT Tryz.prog 139 1 = some 1 := by kernel_rfl
theorem z_zero23 : zeroT Tryz.prog 23 = some [.slice none 0 0] := by kernel_rfl
theorem z_str31 : (ByteArray.mk #[59]) = bstr [59] := by kernel_rfl
theorem z_str32 : (ByteArray.mk #[44]) = bstr [44] := by kernel_rfl
theorem z_en145 : enters Tryz.prog 145 = true := by kernel_rfl
theorem z_size23 : sizeT Tryz.prog 23 = some 1 := by kernel_rfl
theorem z_en112 : enters Tryz.prog 112 = true := by kernel_rfl
theorem z_str33 : (ByteArray.mk #[45]) = bstr [45] := by kernel_rfl
theorem z_en157 : enters Tryz.prog 157 = true := by kernel_rfl
theorem z_en129 : enters Tryz.prog 129 = true := by kernel_rfl
theorem z_en113 : enters Tryz.prog 113 = true := by kernel_rfl
theorem z_str34 : (ByteArray.mk #[48, 49, 50, 51, 52, 53, 54, 55, 56, 57]) = bstr [48, 49, 50, 51, 52, 53, 54, 55, 56, 57] := by kernel_rfl
theorem z_en131 : enters Tryz.prog 131 = true := by kernel_rfl
theorem z_en130 : enters Tryz.prog 130 = true := by kernel_rfl
theorem z_zero208 : zeroT Tryz.prog 208 = some (cellsN Value.bool false 256 (List.replicate 256 false)) := by kernel_rfl
theorem z_agg208 : aggSize Tryz.prog 208 = some 256 := by kernel_rfl
theorem z_size208 : sizeT Tryz.prog 208 = some 256 := by kernel_rfl
theorem z_arr208 : arrP Tryz.prog 208 = some (256, 4, 1) := by kernel_rfl
theorem z_size4 : sizeT Tryz.prog 4 = some 1 := by kernel_rfl
theorem z_en132 : enters Tryz.prog 132 = true := by kernel_rfl
theorem z_sc4 : isScalar Tryz.prog 4 = true := by kernel_rfl
theorem z_en158 : enters Tryz.prog 158 = true := by kernel_rfl
theorem z_en134 : enters Tryz.prog 134 = true := by kernel_rfl
theorem z_en133 : enters Tryz.prog 133 = true := by kernel_rfl
theorem z_en175 : enters Tryz.prog 175 = true := by kernel_rfl
theorem z_en160 : enters Tryz.prog 160 = true := by kernel_rfl
theorem z_en91 : enters Tryz.prog 91 = true := by kernel_rfl
theorem z_en178 : enters Tryz.prog 178 = true := by kernel_rfl
theorem z_en174 : enters Tryz.prog 174 = true := by kernel_rfl
theorem z_en159 : enters Tryz.prog 159 = true := by kernel_rfl
theorem z_en136 : enters Tryz.prog 136 = true := by kernel_rfl
theorem z_en135 : enters Tryz.prog 135 = true := by kernel_rfl
theorem z_en114 : enters Tryz.prog 114 = true := by kernel_rfl
theorem z_str35 : (ByteArray.mk #[48]) = bstr [48] := by kernel_rfl
theorem z_en87 : enters Tryz.prog 87 = true := by kernel_rfl
theorem z_sc23 : isScalar Tryz.prog 23 = true := by kernel_rfl
theorem z_struct149 : structT Tryz.prog 149 = some ([.int .i64 0, .int .i64 0], [(0, 1), (1, 1)]) := by kernel_rfl
theorem z_slT23 : slT Tryz.prog 23 = some (149, 2, 16) := by kernel_rfl
theorem z_zero149 : zeroT Tryz.prog 149 = some [.int .i64 0, .int .i64 0] := by kernel_rfl
theorem z_sc32 : isScalar Tryz.prog 32 = true := by kernel_rfl
theorem z_en119 : enters Tryz.prog 119 = true := by kernel_rfl
theorem z_field26_2 : fieldT Tryz.prog 26 2 = some 7 := by kernel_rfl
theorem z_zero24 : zeroT Tryz.prog 24 = some [.slice none 0 0] := by kernel_rfl
theorem z_size24 : sizeT Tryz.prog 24 = some 1 := by kernel_rfl
theorem z_sc24 : isScalar Tryz.prog 24 = true := by kernel_rfl
theorem z_slT24 : slT Tryz.prog 24 = some (3, 1, 8) := by kernel_rfl
theorem z_en120 : enters Tryz.prog 120 = true := by kernel_rfl
theorem z_field26_3 : fieldT Tryz.prog 26 3 = some 8 := by kernel_rfl
theorem z_str36 : (ByteArray.mk #[48, 49, 50, 51, 52, 53, 54, 55, 56, 57, 97, 98, 99, 100, 101, 102]) = bstr [48, 49, 50, 51, 52, 53, 54, 55, 56, 57, 97, 98, 99, 100, 101, 102] := by kernel_rfl
theorem z_slT27 : slT Tryz.prog 27 = some (5, 1, 1) := by kernel_rfl
theorem z_zero5 : zeroT Tryz.prog 5 = some [.int .u8 0] := by kernel_rfl
theorem z_en121 : enters Tryz.prog 121 = true := by kernel_rfl
theorem z_field26_4 : fieldT Tryz.prog 26 4 = some 9 := by kernel_rfl
theorem z_field26_5 : fieldT Tryz.prog 26 5 = some 10 := by kernel_rfl
theorem z_field139_2 : fieldT Tryz.prog 139 2 = some 2 := by kernel_rfl
theorem z_field26_1 : fieldT Tryz.prog 26 1 = some 1 := by kernel_rfl
theorem z_arr22 : arrP Tryz.prog 22 = some (6, 3, 1) := by kernel_rfl
theorem z_en98 : enters Tryz.prog 98 = true := by kernel_rfl
theorem z_agg26 : aggSize Tryz.prog 26 = some 11 := by kernel_rfl
theorem z_field139_3 : fieldT Tryz.prog 139 3 = some 3 := by kernel_rfl
theorem z_field139_4 : fieldT Tryz.prog 139 4 = some 4 := by kernel_rfl
theorem z_en126 : enters Tryz.prog 126 = true := by kernel_rfl
theorem z_agg149 : aggSize Tryz.prog 149 = some 2 := by kernel_rfl
theorem z_size149 : sizeT Tryz.prog 149 = some 2 := by kernel_rfl
theorem z_field149_0 : fieldT Tryz.prog 149 0 = some 0 := by kernel_rfl
theorem z_field149_1 : fieldT Tryz.prog 149 1 = some 1 := by kernel_rfl
theorem z_en108 : enters Tryz.prog 108 = true := by kernel_rfl
theorem z_en109 : enters Tryz.prog 109 = true := by kernel_rfl
theorem z_sc5 : isScalar Tryz.prog 5 = true := by kernel_rfl
theorem z_en110 : enters Tryz.prog 110 = true := by kernel_rfl
theorem z_en81 : enters Tryz.prog 81 = true := by kernel_rfl
theorem z_en82 : enters Tryz.prog 82 = true := by kernel_rfl
theorem z_agg22 : aggSize Tryz.prog 22 = some 6 := by kernel_rfl
theorem z_info3 : (Tryz.prog.info? 3).isSome = true := by kernel_rfl
theorem z_cell3 : Program.cellsOf Tryz.prog 3 = 1 := by kernel_rfl
theorem z_eqg22 : Program.eqGuardType Tryz.prog (Program.depth Tryz.prog) 22 = false := by kernel_rfl
theorem z_held149 : Program.stoodInHeld Tryz.prog 149 = false := by kernel_rfl
theorem z_eqg149 : Program.eqGuardType Tryz.prog (Program.depth Tryz.prog) 149 = false := by kernel_rfl
theorem z_en86 : enters Tryz.prog 86 = true := by kernel_rfl
theorem z_en48 : enters Tryz.prog 48 = true := by kernel_rfl
theorem z_en47 : enters Tryz.prog 47 = true := by kernel_rfl
theorem z_en41 : enters Tryz.prog 41 = true := by kernel_rfl
theorem z_en63 : enters Tryz.prog 63 = true := by kernel_rfl
theorem z_field31_1 : fieldT Tryz.prog 31 1 = some 1 := by kernel_rfl
theorem z_struct31 : structT Tryz.prog 31 = some ([.int .i64 0, .int .i64 0, .int .i64 0, .int .i64 0, .int .i64 0, .int .i64 0, .int .i64 0, .int .i64 0, .slice none 0 0, .slice none 0 0, .string (bstr []), .string (bstr []), .int .i64 0, .int .i64 0, .int .i64 0, .int .i64 0, .slice none 0 0, .slice none 0 0], [(0, 1), (1, 11), (12, 5), (17, 1)]) := by kernel_rfl
theorem z_size31 : sizeT Tryz.prog 31 = some 18 := by kernel_rfl
theorem z_agg31 : aggSize Tryz.prog 31 = some 18 := by kernel_rfl
theorem z_field31_3 : fieldT Tryz.prog 31 3 = some 17 := by kernel_rfl
theorem z_field31_2 : fieldT Tryz.prog 31 2 = some 12 := by kernel_rfl
theorem z_agg29 : aggSize Tryz.prog 29 = some 5 := by kernel_rfl
theorem z_field29_0 : fieldT Tryz.prog 29 0 = some 0 := by kernel_rfl
theorem z_str37 : (ByteArray.mk #[119, 104, 111, 108, 101]) = bstr [119, 104, 111, 108, 101] := by kernel_rfl
theorem z_str38 : (ByteArray.mk #[99, 117, 116]) = bstr [99, 117, 116] := by kernel_rfl
theorem z_str39 : (ByteArray.mk #[116, 117, 114, 110]) = bstr [116, 117, 114, 110] := by kernel_rfl
theorem z_str40 : (ByteArray.mk #[106, 117, 110, 107]) = bstr [106, 117, 110, 107] := by kernel_rfl
theorem z_en74 : enters Tryz.prog 74 = true := by kernel_rfl
theorem z_field29_4 : fieldT Tryz.prog 29 4 = some 4 := by kernel_rfl
theorem z_sc27 : isScalar Tryz.prog 27 = true := by kernel_rfl
theorem z_en75 : enters Tryz.prog 75 = true := by kernel_rfl
theorem z_field29_1 : fieldT Tryz.prog 29 1 = some 1 := by kernel_rfl
theorem z_field29_2 : fieldT Tryz.prog 29 2 = some 2 := by kernel_rfl
theorem z_field29_3 : fieldT Tryz.prog 29 3 = some 3 := by kernel_rfl
theorem z_arrz133 : arrT Tryz.prog 133 = some ([.int .i64 0, .int .i64 0, .int .i64 0], 1) := by kernel_rfl
theorem z_arr133 : arrP Tryz.prog 133 = some (3, 3, 1) := by kernel_rfl
theorem z_en76 : enters Tryz.prog 76 = true := by kernel_rfl
theorem z_en34 : enters Tryz.prog 34 = true := by kernel_rfl
theorem z_en33 : enters Tryz.prog 33 = true := by kernel_rfl
theorem z_en43 : enters Tryz.prog 43 = true := by kernel_rfl
theorem z_en83 : enters Tryz.prog 83 = true := by kernel_rfl
theorem z_en42 : enters Tryz.prog 42 = true := by kernel_rfl
theorem z_en15 : enters Tryz.prog 15 = true := by kernel_rfl
theorem z_en64 : enters Tryz.prog 64 = true := by kernel_rfl
theorem z_zero29 : zeroT Tryz.prog 29 = some [.int .i64 0, .int .i64 0, .int .i64 0, .int .i64 0, .slice none 0 0] := by kernel_rfl
theorem z_en99 : enters Tryz.prog 99 = true := by kernel_rfl
theorem z_size27 : sizeT Tryz.prog 27 = some 1 := by kernel_rfl
theorem z_struct29 : structT Tryz.prog 29 = some ([.int .i64 0, .int .i64 0, .int .i64 0, .int .i64 0, .slice none 0 0], [(0, 1), (1, 1), (2, 1), (3, 1), (4, 1)]) := by kernel_rfl
theorem z_size29 : sizeT Tryz.prog 29 = some 5 := by kernel_rfl
theorem z_arrz171 : arrT Tryz.prog 171 = some ([.pointer none, .pointer none, .pointer none], 1) := by kernel_rfl
theorem z_arr171 : arrP Tryz.prog 171 = some (3, 170, 1) := by kernel_rfl
theorem z_sc170 : isScalar Tryz.prog 170 = true := by kernel_rfl
theorem z_en65 : enters Tryz.prog 65 = true := by kernel_rfl
theorem z_en25 : enters Tryz.prog 25 = true := by kernel_rfl
theorem z_en7 : enters Tryz.prog 7 = true := by kernel_rfl
theorem z_zero40 : zeroT Tryz.prog 40 = some [.int .i64 0, .int .i64 0, .int .i64 0, .int .i64 0, .int .i64 0, .int .i64 0, .int .i64 0, .int .i64 0, .slice none 0 0, .slice none 0 0, .string (bstr []), .string (bstr []), .int .i64 0, .int .i64 0, .int .i64 0, .int .i64 0, .slice none 0 0, .slice none 0 0] := by kernel_rfl
theorem z_zero37 : zeroT Tryz.prog 37 = some [.int .i64 0, .int .i64 0, .int .i64 0, .int .i64 0, .int .i64 0, .int .i64 0, .int .i64 0, .slice none 0 0, .slice none 0 0, .string (bstr []), .string (bstr [])] := by kernel_rfl
theorem z_struct37 : structT Tryz.prog 37 = some ([.int .i64 0, .int .i64 0, .int .i64 0, .int .i64 0, .int .i64 0, .int .i64 0, .int .i64 0, .slice none 0 0, .slice none 0 0, .string (bstr []), .string (bstr [])], [(0, 1), (1, 6), (7, 1), (8, 1), (9, 1), (10, 1)]) := by kernel_rfl
theorem z_size37 : sizeT Tryz.prog 37 = some 11 := by kernel_rfl
theorem z_en66 : enters Tryz.prog 66 = true := by kernel_rfl
theorem z_field37_0 : fieldT Tryz.prog 37 0 = some 0 := by kernel_rfl
theorem z_agg37 : aggSize Tryz.prog 37 = some 11 := by kernel_rfl
theorem z_slT126 : slT Tryz.prog 126 = some (129, 7, 64) := by kernel_rfl
theorem z_zero129 : zeroT Tryz.prog 129 = some [.string (bstr []), .int .i64 0, .int .i64 0, .int .i64 0, .int .i64 0, .int .i64 0, .int .i64 0] := by kernel_rfl
theorem z_struct129 : structT Tryz.prog 129 = some ([.string (bstr []), .int .i64 0, .int .i64 0, .int .i64 0, .int .i64 0, .int .i64 0, .int .i64 0], [(0, 1), (1, 1), (2, 1), (3, 1), (4, 1), (5, 1), (6, 1)]) := by kernel_rfl
theorem z_agg129 : aggSize Tryz.prog 129 = some 7 := by kernel_rfl
theorem z_size129 : sizeT Tryz.prog 129 = some 7 := by kernel_rfl
theorem z_field129_2 : fieldT Tryz.prog 129 2 = some 2 := by kernel_rfl
theorem z_field129_1 : fieldT Tryz.prog 129 1 = some 1 := by kernel_rfl
theorem z_en67 : enters Tryz.prog 67 = true := by kernel_rfl
theorem z_field129_0 : fieldT Tryz.prog 129 0 = some 0 := by kernel_rfl
theorem z_slT35 : slT Tryz.prog 35 = some (134, 2, 16) := by kernel_rfl
theorem z_zero134 : zeroT Tryz.prog 134 = some [.int .i64 0, .int .i64 0] := by kernel_rfl
theorem z_field37_2 : fieldT Tryz.prog 37 2 = some 7 := by kernel_rfl
theorem z_sc35 : isScalar Tryz.prog 35 = true := by kernel_rfl
theorem z_arrz134 : arrT Tryz.prog 134 = some ([.int .i64 0, .int .i64 0], 1) := by kernel_rfl
theorem z_size35 : sizeT Tryz.prog 35 = some 1 := by kernel_rfl
theorem z_field37_3 : fieldT Tryz.prog 37 3 = some 8 := by kernel_rfl
theorem z_en111 : enters Tryz.prog 111 = true := by kernel_rfl
theorem z_field37_4 : fieldT Tryz.prog 37 4 = some 9 := by kernel_rfl
theorem z_field37_5 : fieldT Tryz.prog 37 5 = some 10 := by kernel_rfl
theorem z_field37_1 : fieldT Tryz.prog 37 1 = some 1 := by kernel_rfl
theorem z_zero143 : zeroT Tryz.prog 143 = some [.bool false, .bool false, .bool false, .bool false, .bool false, .bool false, .bool false] := by kernel_rfl
theorem z_zero144 : zeroT Tryz.prog 144 = some [.bool false, .bool false, .bool false, .bool false, .bool false, .bool false] := by kernel_rfl
theorem z_arr143 : arrP Tryz.prog 143 = some (7, 4, 1) := by kernel_rfl
theorem z_arr134 : arrP Tryz.prog 134 = some (2, 3, 1) := by kernel_rfl
theorem z_en77 : enters Tryz.prog 77 = true := by kernel_rfl
theorem z_en78 : enters Tryz.prog 78 = true := by kernel_rfl
theorem z_en79 : enters Tryz.prog 79 = true := by kernel_rfl
theorem z_arr144 : arrP Tryz.prog 144 = some (6, 4, 1) := by kernel_rfl
theorem z_field129_3 : fieldT Tryz.prog 129 3 = some 3 := by kernel_rfl
theorem z_field129_4 : fieldT Tryz.prog 129 4 = some 4 := by kernel_rfl
theorem z_en38 : enters Tryz.prog 38 = true := by kernel_rfl
theorem z_struct40 : structT Tryz.prog 40 = some ([.int .i64 0, .int .i64 0, .int .i64 0, .int .i64 0, .int .i64 0, .int .i64 0, .int .i64 0, .int .i64 0, .slice none 0 0, .slice none 0 0, .string (bstr []), .string (bstr []), .int .i64 0, .int .i64 0, .int .i64 0, .int .i64 0, .slice none 0 0, .slice none 0 0], [(0, 1), (1, 11), (12, 5), (17, 1)]) := by kernel_rfl
theorem z_size40 : sizeT Tryz.prog 40 = some 18 := by kernel_rfl
theorem z_field40_3 : fieldT Tryz.prog 40 3 = some 17 := by kernel_rfl
theorem z_agg40 : aggSize Tryz.prog 40 = some 18 := by kernel_rfl
theorem z_field40_0 : fieldT Tryz.prog 40 0 = some 0 := by kernel_rfl
theorem z_field40_1 : fieldT Tryz.prog 40 1 = some 1 := by kernel_rfl
theorem z_field40_2 : fieldT Tryz.prog 40 2 = some 12 := by kernel_rfl
theorem z_field38_0 : fieldT Tryz.prog 38 0 = some 0 := by kernel_rfl
theorem z_en13 : enters Tryz.prog 13 = true := by kernel_rfl
theorem z_zero38 : zeroT Tryz.prog 38 = some [.int .i64 0, .int .i64 0, .int .i64 0, .int .i64 0, .slice none 0 0] := by kernel_rfl
theorem z_struct38 : structT Tryz.prog 38 = some ([.int .i64 0, .int .i64 0, .int .i64 0, .int .i64 0, .slice none 0 0], [(0, 1), (1, 1), (2, 1), (3, 1), (4, 1)]) := by kernel_rfl
theorem z_size38 : sizeT Tryz.prog 38 = some 5 := by kernel_rfl
theorem z_agg38 : aggSize Tryz.prog 38 = some 5 := by kernel_rfl
theorem z_en102 : enters Tryz.prog 102 = true := by kernel_rfl
theorem z_field38_4 : fieldT Tryz.prog 38 4 = some 4 := by kernel_rfl
theorem z_field38_1 : fieldT Tryz.prog 38 1 = some 1 := by kernel_rfl
theorem z_field38_2 : fieldT Tryz.prog 38 2 = some 2 := by kernel_rfl
theorem z_field38_3 : fieldT Tryz.prog 38 3 = some 3 := by kernel_rfl
theorem z_struct56 : structT Tryz.prog 56 = some ([.int .i64 0, .int .i64 0, .int .u32 0], [(0, 1), (1, 1), (2, 1)]) := by kernel_rfl
theorem z_struct58 : structT Tryz.prog 58 = some ([.int .u32 0, .int .i64 0], [(0, 1), (1, 1)]) := by kernel_rfl
theorem z_arrz22 : arrT Tryz.prog 22 = some ([.int .i64 0, .int .i64 0, .int .i64 0, .int .i64 0, .int .i64 0, .int .i64 0], 1) := by kernel_rfl
theorem z_slT59 : slT Tryz.prog 59 = some (31, 18, 224) := by kernel_rfl
theorem z_agg56 : aggSize Tryz.prog 56 = some 3 := by kernel_rfl
theorem z_field56_0 : fieldT Tryz.prog 56 0 = some 0 := by kernel_rfl
theorem z_field56_1 : fieldT Tryz.prog 56 1 = some 1 := by kernel_rfl
theorem z_en55 : enters Tryz.prog 55 = true := by kernel_rfl
theorem z_agg58 : aggSize Tryz.prog 58 = some 2 := by kernel_rfl
theorem z_field58_1 : fieldT Tryz.prog 58 1 = some 1 := by kernel_rfl
theorem z_en56 : enters Tryz.prog 56 = true := by kernel_rfl
theorem z_str41 : (ByteArray.mk #[108, 105, 110, 107]) = bstr [108, 105, 110, 107] := by kernel_rfl
theorem z_field56_2 : fieldT Tryz.prog 56 2 = some 2 := by kernel_rfl
theorem z_sc54 : isScalar Tryz.prog 54 = true := by kernel_rfl
theorem z_field58_0 : fieldT Tryz.prog 58 0 = some 0 := by kernel_rfl
theorem z_arrz157 : arrT Tryz.prog 157 = some ([.int .i64 0, .int .i64 0, .int .i64 0, .int .i64 0, .int .i64 0], 1) := by kernel_rfl
theorem z_arr157 : arrP Tryz.prog 157 = some (5, 3, 1) := by kernel_rfl
theorem z_en57 : enters Tryz.prog 57 = true := by kernel_rfl
theorem z_str42 : (ByteArray.mk #[10]) = bstr [10] := by kernel_rfl
theorem z_en104 : enters Tryz.prog 104 = true := by kernel_rfl
theorem z_en105 : enters Tryz.prog 105 = true := by kernel_rfl
theorem z_en73 : enters Tryz.prog 73 = true := by kernel_rfl
theorem z_en32 : enters Tryz.prog 32 = true := by kernel_rfl
theorem z_str43 : (ByteArray.mk #[115, 101, 110, 100, 32]) = bstr [115, 101, 110, 100, 32] := by kernel_rfl
theorem z_en11 : enters Tryz.prog 11 = true := by kernel_rfl
theorem z_en22 : enters Tryz.prog 22 = true := by kernel_rfl
theorem z_str44 : (ByteArray.mk #[108, 105, 110, 107, 32, 50, 32, 54, 52, 32, 49, 48, 32, 49, 48, 32, 52, 10, 115, 101, 110, 100, 32, 104, 111, 108, 100, 32, 114, 111, 98, 111, 116, 32, 49, 32, 114, 101, 97, 115, 111, 110, 32, 50, 32, 122, 111, 110, 101, 32, 51, 10, 99, 104, 117, 110, 107, 32, 49, 32, 50, 10, 97, 108, 108, 10]) = bstr [108, 105, 110, 107, 32, 50, 32, 54, 52, 32, 49, 48, 32, 49, 48, 32, 52, 10, 115, 101, 110, 100, 32, 104, 111, 108, 100, 32, 114, 111, 98, 111, 116, 32, 49, 32, 114, 101, 97, 115, 111, 110, 32, 50, 32, 122, 111, 110, 101, 32, 51, 10, 99, 104, 117, 110, 107, 32, 49, 32, 50, 10, 97, 108, 108, 10] := by kernel_rfl
theorem z_en9 : enters Tryz.prog 9 = true := by kernel_rfl
theorem z_en39 : enters Tryz.prog 39 = true := by kernel_rfl
theorem z_en40 : enters Tryz.prog 40 = true := by kernel_rfl
theorem z_en14 : enters Tryz.prog 14 = true := by kernel_rfl
theorem z_en36 : enters Tryz.prog 36 = true := by kernel_rfl
theorem z_en37 : enters Tryz.prog 37 = true := by kernel_rfl
theorem z_en12 : enters Tryz.prog 12 = true := by kernel_rfl
theorem z_en46 : enters Tryz.prog 46 = true := by kernel_rfl
theorem z_en84 : enters Tryz.prog 84 = true := by kernel_rfl
theorem z_en44 : enters Tryz.prog 44 = true := by kernel_rfl
theorem z_str45 : (ByteArray.mk #[119, 104, 111, 108, 101, 32]) = bstr [119, 104, 111, 108, 101, 32] := by kernel_rfl
theorem z_str46 : (ByteArray.mk #[99, 117, 116, 32]) = bstr [99, 117, 116, 32] := by kernel_rfl
theorem z_str47 : (ByteArray.mk #[116, 117, 114, 110, 32]) = bstr [116, 117, 114, 110, 32] := by kernel_rfl
theorem z_en85 : enters Tryz.prog 85 = true := by kernel_rfl
theorem z_str48 : (ByteArray.mk #[106, 117, 110, 107, 32]) = bstr [106, 117, 110, 107, 32] := by kernel_rfl
theorem z_en45 : enters Tryz.prog 45 = true := by kernel_rfl
theorem z_en16 : enters Tryz.prog 16 = true := by kernel_rfl
theorem z_en17 : enters Tryz.prog 17 = true := by kernel_rfl
theorem z_zero56 : zeroT Tryz.prog 56 = some [.int .i64 0, .int .i64 0, .int .u32 0] := by kernel_rfl
theorem z_zero58 : zeroT Tryz.prog 58 = some [.int .u32 0, .int .i64 0] := by kernel_rfl
theorem z_zero59 : zeroT Tryz.prog 59 = some [.slice none 0 0] := by kernel_rfl
theorem z_en90 : enters Tryz.prog 90 = true := by kernel_rfl
theorem z_en53 : enters Tryz.prog 53 = true := by kernel_rfl
theorem z_en89 : enters Tryz.prog 89 = true := by kernel_rfl
theorem z_en92 : enters Tryz.prog 92 = true := by kernel_rfl
theorem z_en54 : enters Tryz.prog 54 = true := by kernel_rfl
theorem z_en52 : enters Tryz.prog 52 = true := by kernel_rfl
theorem z_en21 : enters Tryz.prog 21 = true := by kernel_rfl
theorem z_zero157 : zeroT Tryz.prog 157 = some [.int .i64 0, .int .i64 0, .int .i64 0, .int .i64 0, .int .i64 0] := by kernel_rfl
theorem z_size56 : sizeT Tryz.prog 56 = some 3 := by kernel_rfl
theorem z_size58 : sizeT Tryz.prog 58 = some 2 := by kernel_rfl
theorem z_en88 : enters Tryz.prog 88 = true := by kernel_rfl
theorem z_en49 : enters Tryz.prog 49 = true := by kernel_rfl
theorem z_sc59 : isScalar Tryz.prog 59 = true := by kernel_rfl
theorem z_size59 : sizeT Tryz.prog 59 = some 1 := by kernel_rfl
theorem z_en50 : enters Tryz.prog 50 = true := by kernel_rfl
theorem z_en18 : enters Tryz.prog 18 = true := by kernel_rfl
theorem z_size62 : sizeT Tryz.prog 62 = some 3 := by kernel_rfl
theorem z_size63 : sizeT Tryz.prog 63 = some 2 := by kernel_rfl
theorem z_agg62 : aggSize Tryz.prog 62 = some 3 := by kernel_rfl
theorem z_agg63 : aggSize Tryz.prog 63 = some 2 := by kernel_rfl
theorem z_field62_0 : fieldT Tryz.prog 62 0 = some 0 := by kernel_rfl
theorem z_field62_1 : fieldT Tryz.prog 62 1 = some 1 := by kernel_rfl
theorem z_en58 : enters Tryz.prog 58 = true := by kernel_rfl
theorem z_field63_1 : fieldT Tryz.prog 63 1 = some 1 := by kernel_rfl
theorem z_en59 : enters Tryz.prog 59 = true := by kernel_rfl
theorem z_slT64 : slT Tryz.prog 64 = some (40, 18, 224) := by kernel_rfl
theorem z_en23 : enters Tryz.prog 23 = true := by kernel_rfl
theorem z_field62_2 : fieldT Tryz.prog 62 2 = some 2 := by kernel_rfl
theorem z_str49 : (ByteArray.mk #[108, 105, 110, 107, 32]) = bstr [108, 105, 110, 107, 32] := by kernel_rfl
theorem z_field63_0 : fieldT Tryz.prog 63 0 = some 0 := by kernel_rfl
theorem z_en60 : enters Tryz.prog 60 = true := by kernel_rfl
theorem z_en24 : enters Tryz.prog 24 = true := by kernel_rfl
theorem z_held56 : Program.stoodInHeld Tryz.prog 56 = false := by kernel_rfl
theorem z_eqg56 : Program.eqGuardType Tryz.prog (Program.depth Tryz.prog) 56 = false := by kernel_rfl
theorem z_held58 : Program.stoodInHeld Tryz.prog 58 = false := by kernel_rfl
theorem z_eqg58 : Program.eqGuardType Tryz.prog (Program.depth Tryz.prog) 58 = false := by kernel_rfl
theorem z_size22 : sizeT Tryz.prog 22 = some 6 := by kernel_rfl
theorem z_size54 : sizeT Tryz.prog 54 = some 1 := by kernel_rfl
theorem z_size107 : sizeT Tryz.prog 107 = some 1 := by kernel_rfl
def z_tyf : TyF := ⟨[(21, .i32), (3, .i64), (5, .u8), (54, .u32)], [(129, 0, 0), (129, 1, 1), (129, 2, 2), (139, 0, 0), (139, 1, 1), (139, 2, 2), (139, 3, 3), (139, 4, 4), (139, 5, 5), (149, 0, 0), (149, 1, 1), (26, 0, 0), (26, 1, 1), (26, 2, 7), (26, 3, 8), (26, 4, 9), (26, 5, 10), (29, 0, 0), (29, 1, 1), (29, 2, 2), (29, 3, 3), (29, 4, 4), (31, 0, 0), (31, 1, 1), (31, 2, 12), (31, 3, 17), (37, 0, 0), (37, 1, 1), (37, 2, 7), (37, 3, 8), (37, 4, 9), (37, 5, 10), (38, 0, 0), (38, 1, 1), (38, 2, 2), (38, 3, 3), (38, 4, 4), (40, 0, 0), (40, 1, 1), (40, 2, 12), (40, 3, 17), (56, 0, 0), (56, 1, 1), (56, 2, 2), (58, 0, 0), (58, 1, 1), (62, 0, 0), (62, 1, 1), (62, 2, 2), (63, 0, 0), (63, 1, 1)], [9], [], [], []⟩
theorem z_T : TyOk Tryz.prog z_tyf := ⟨(fa_cons Tryz.underlying21 (fa_cons Tryz.underlying3 (fa_cons Tryz.underlying5 (fa_cons Tryz.underlying54 fa_nil)))), (fa_cons z_field129_0 (fa_cons z_field129_1 (fa_cons z_field129_2 (fa_cons z_field139_0 (fa_cons z_field139_1 (fa_cons z_field139_2 (fa_cons z_field139_3 (fa_cons z_field139_4 (fa_cons z_field139_5 (fa_cons z_field149_0 (fa_cons z_field149_1 (fa_cons z_field26_0 (fa_cons z_field26_1 (fa_cons z_field26_2 (fa_cons z_field26_3 (fa_cons z_field26_4 (fa_cons z_field26_5 (fa_cons z_field29_0 (fa_cons z_field29_1 (fa_cons z_field29_2 (fa_cons z_field29_3 (fa_cons z_field29_4 (fa_cons z_field31_0 (fa_cons z_field31_1 (fa_cons z_field31_2 (fa_cons z_field31_3 (fa_cons z_field37_0 (fa_cons z_field37_1 (fa_cons z_field37_2 (fa_cons z_field37_3 (fa_cons z_field37_4 (fa_cons z_field37_5 (fa_cons z_field38_0 (fa_cons z_field38_1 (fa_cons z_field38_2 (fa_cons z_field38_3 (fa_cons z_field38_4 (fa_cons z_field40_0 (fa_cons z_field40_1 (fa_cons z_field40_2 (fa_cons z_field40_3 (fa_cons z_field56_0 (fa_cons z_field56_1 (fa_cons z_field56_2 (fa_cons z_field58_0 (fa_cons z_field58_1 (fa_cons z_field62_0 (fa_cons z_field62_1 (fa_cons z_field62_2 (fa_cons z_field63_0 (fa_cons z_field63_1 fa_nil))))))))))))))))))))))))))))))))))))))))))))))))))), (fa_cons Tryz.underlying9 fa_nil), fa_nil, fa_nil, fa_nil⟩
def z_tym : TyM := ⟨[107, 164, 23, 24, 27, 3, 32, 35, 4, 54, 59, 67, 9], [(129, 7), (139, 7), (149, 2), (22, 6), (26, 11), (29, 5), (31, 18), (37, 11), (38, 5), (40, 18), (56, 3), (58, 2), (62, 3), (63, 2)], [(149, [.int .i64 0, .int .i64 0], [(0, 1), (1, 1)]), (26, [.int .i64 0, .int .i64 0, .int .i64 0, .int .i64 0, .int .i64 0, .int .i64 0, .int .i64 0, .slice none 0 0, .slice none 0 0, .string (bstr []), .string (bstr [])], [(0, 1), (1, 6), (7, 1), (8, 1), (9, 1), (10, 1)]), (29, [.int .i64 0, .int .i64 0, .int .i64 0, .int .i64 0, .slice none 0 0], [(0, 1), (1, 1), (2, 1), (3, 1), (4, 1)]), (31, [.int .i64 0, .int .i64 0, .int .i64 0, .int .i64 0, .int .i64 0, .int .i64 0, .int .i64 0, .int .i64 0, .slice none 0 0, .slice none 0 0, .string (bstr []), .string (bstr []), .int .i64 0, .int .i64 0, .int .i64 0, .int .i64 0, .slice none 0 0, .slice none 0 0], [(0, 1), (1, 11), (12, 5), (17, 1)]), (56, [.int .i64 0, .int .i64 0, .int .u32 0], [(0, 1), (1, 1), (2, 1)]), (58, [.int .u32 0, .int .i64 0], [(0, 1), (1, 1)])], []⟩
theorem z_M : TyMOk Tryz.prog z_tym := ⟨(fa_cons z_sc107 (fa_cons z_sc164 (fa_cons z_sc23 (fa_cons z_sc24 (fa_cons z_sc27 (fa_cons z_sc3 (fa_cons z_sc32 (fa_cons z_sc35 (fa_cons z_sc4 (fa_cons z_sc54 (fa_cons z_sc59 (fa_cons z_sc67 (fa_cons z_sc9 fa_nil))))))))))))), (fa_cons z_size107 (fa_cons z_size164 (fa_cons z_size23 (fa_cons z_size24 (fa_cons z_size27 (fa_cons z_size3 (fa_cons z_size32 (fa_cons z_size35 (fa_cons z_size4 (fa_cons z_size54 (fa_cons z_size59 (fa_cons z_size67 (fa_cons z_size9 fa_nil))))))))))))), (fa_cons z_agg129 (fa_cons z_agg139 (fa_cons z_agg149 (fa_cons z_agg22 (fa_cons z_agg26 (fa_cons z_agg29 (fa_cons z_agg31 (fa_cons z_agg37 (fa_cons z_agg38 (fa_cons z_agg40 (fa_cons z_agg56 (fa_cons z_agg58 (fa_cons z_agg62 (fa_cons z_agg63 fa_nil)))))))))))))), (fa_cons z_size129 (fa_cons z_size139 (fa_cons z_size149 (fa_cons z_size22 (fa_cons z_size26 (fa_cons z_size29 (fa_cons z_size31 (fa_cons z_size37 (fa_cons z_size38 (fa_cons z_size40 (fa_cons z_size56 (fa_cons z_size58 (fa_cons z_size62 (fa_cons z_size63 fa_nil)))))))))))))), (fa_cons z_struct149 (fa_cons z_struct26 (fa_cons z_struct29 (fa_cons z_struct31 (fa_cons z_struct56 (fa_cons z_struct58 fa_nil)))))), fa_nil⟩
theorem Z {n : Nat} {c : Ctx Tryz.prog n} {σ : Sto} {gs : List Grp} (f : Nat) {ρ ρ' : Env} {k k' : List Item} (h : go z_tyf n f ρ k = some (ρ', k')) (hk : St c ρ' σ gs k') : St c ρ σ gs k := st_go z_T f h hk
theorem dA {n : Nat} {c : Ctx Tryz.prog n} {k : List Item} {ops : Array Oper} {dsts : List Nat} {L : List DT} {ρ : Env} {i : Nat} (h : dpv z_tyf n ops dsts L ρ i = dvl L i := by exact rfl) (hs : (dvl L i).isSome = true := by exact rfl) : Core c k ops dsts L ρ i := core_A z_T h hs
theorem dG {n : Nat} {c : Ctx Tryz.prog n} {k : List Item} {ops : Array Oper} {dsts : List Nat} {L : List DT} {ρ : Env} {i : Nat} (ks : List Nat) (h : DGok z_tyf n ops dsts L ρ ks i := by exact ⟨rfl, rfl, rfl⟩) : Core c k ops dsts L ρ i := core_G z_T h
theorem ZZ {n : Nat} {c : Ctx Tryz.prog n} {σ : Sto} (f : Nat) (js : List Nat) {gs gs' : List Grp} {ρ ρ' : Env} {k k' : List Item} {e : List (Nat × Nat)} (h : go2 z_tyf z_tym n f js ρ gs k = some (ρ', gs', k', e)) (he : e.map (·.1) = e.map (·.2)) (hk : St c ρ' σ gs' k') : St c ρ σ gs k := st_go2 z_T z_M f h he hk
end Go.Rel
