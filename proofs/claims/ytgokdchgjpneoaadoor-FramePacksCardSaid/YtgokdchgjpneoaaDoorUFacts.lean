import Derived.Test.YtgokdchgjpneoaaDoorProg
import Derived.Test.YtgokdchgjpneoaaDoorEngN
import Derived.KernelRfl
import Derived.Test.YtgokdchgjpneoaaDoorFmt
import Derived.Test.YtgokdchgjpneoaaDoorShelf
/-! Facts of the program's types and functions. -/
namespace Go.Rel
open Go Go.Eng Go.Proofs
theorem z_mix : Tryd.prog.follows .mixedOrders = true := by kernel_rfl
theorem z_sc3 : isScalar Tryd.prog 3 = true := by kernel_rfl
theorem z_slT67 : slT Tryd.prog 67 = some (5, 1, 1) := by kernel_rfl
theorem z_sc5 : isScalar Tryd.prog 5 = true := by kernel_rfl
theorem z_str19 : (ByteArray.mk #[]) = bstr [] := by kernel_rfl
theorem z_size3 : sizeT Tryd.prog 3 = some 1 := by kernel_rfl
theorem z_str25 : (ByteArray.mk #[32]) = bstr [32] := by kernel_rfl
theorem z_en93 : enters Tryd.prog 93 = true := by kernel_rfl
theorem z_str28 : (ByteArray.mk #[45]) = bstr [45] := by kernel_rfl
theorem z_zero5 : zeroT Tryd.prog 5 = some [.int .u8 0] := by kernel_rfl
theorem z_zero3 : zeroT Tryd.prog 3 = some [.int .i64 0] := by kernel_rfl
theorem z_sc33 : isScalar Tryd.prog 33 = true := by kernel_rfl
theorem z_sc28 : isScalar Tryd.prog 28 = true := by kernel_rfl
theorem z_en78 : enters Tryd.prog 78 = true := by kernel_rfl
theorem z_size4 : sizeT Tryd.prog 4 = some 1 := by kernel_rfl
theorem z_sc4 : isScalar Tryd.prog 4 = true := by kernel_rfl
theorem z_zero4 : zeroT Tryd.prog 4 = some [.bool false] := by kernel_rfl
theorem z_slT137 : slT Tryd.prog 137 = some (67, 1, 24) := by kernel_rfl
theorem z_zero67 : zeroT Tryd.prog 67 = some [.slice none 0 0] := by kernel_rfl
theorem z_sc67 : isScalar Tryd.prog 67 = true := by kernel_rfl
theorem z_zero91 : zeroT Tryd.prog 91 = some [.int .i64 0, .int .i64 0, .int .u32 0, .int .i64 0, .int .i64 0, .slice none 0 0] := by kernel_rfl
theorem z_struct91 : structT Tryd.prog 91 = some ([.int .i64 0, .int .i64 0, .int .u32 0, .int .i64 0, .int .i64 0, .slice none 0 0], [(0, 5), (5, 1)]) := by kernel_rfl
theorem z_size91 : sizeT Tryd.prog 91 = some 6 := by kernel_rfl
theorem z_agg91 : aggSize Tryd.prog 91 = some 6 := by kernel_rfl
theorem z_en166 : enters Tryd.prog 166 = true := by kernel_rfl
theorem z_en138 : enters Tryd.prog 138 = true := by kernel_rfl
theorem z_en39 : enters Tryd.prog 39 = true := by kernel_rfl
theorem z_zero248 : zeroT Tryd.prog 248 = some (cellsN Value.bool false 32 (List.replicate 32 false)) := by kernel_rfl
theorem z_arr248 : arrP Tryd.prog 248 = some (32, 4, 1) := by kernel_rfl
theorem z_agg248 : aggSize Tryd.prog 248 = some 32 := by kernel_rfl
theorem z_size248 : sizeT Tryd.prog 248 = some 32 := by kernel_rfl
theorem z_en167 : enters Tryd.prog 167 = true := by kernel_rfl
theorem z_en169 : enters Tryd.prog 169 = true := by kernel_rfl
theorem z_en168 : enters Tryd.prog 168 = true := by kernel_rfl
theorem z_en170 : enters Tryd.prog 170 = true := by kernel_rfl
theorem z_en140 : enters Tryd.prog 140 = true := by kernel_rfl
theorem z_en139 : enters Tryd.prog 139 = true := by kernel_rfl
theorem z_agg89 : aggSize Tryd.prog 89 = some 5 := by kernel_rfl
theorem z_field89_0 : fieldT Tryd.prog 89 0 = some 0 := by kernel_rfl
theorem z_field89_1 : fieldT Tryd.prog 89 1 = some 1 := by kernel_rfl
theorem z_field89_4 : fieldT Tryd.prog 89 4 = some 4 := by kernel_rfl
theorem z_field89_3 : fieldT Tryd.prog 89 3 = some 3 := by kernel_rfl
theorem z_en89 : enters Tryd.prog 89 = true := by kernel_rfl
theorem z_field91_0 : fieldT Tryd.prog 91 0 = some 0 := by kernel_rfl
theorem z_str55 : (ByteArray.mk #[118, 32]) = bstr [118, 32] := by kernel_rfl
theorem z_str56 : (ByteArray.mk #[32, 107, 32]) = bstr [32, 107, 32] := by kernel_rfl
theorem z_field89_2 : fieldT Tryd.prog 89 2 = some 2 := by kernel_rfl
theorem z_str57 : (ByteArray.mk #[47]) = bstr [47] := by kernel_rfl
theorem z_en94 : enters Tryd.prog 94 = true := by kernel_rfl
theorem z_field91_1 : fieldT Tryd.prog 91 1 = some 5 := by kernel_rfl
theorem z_en47 : enters Tryd.prog 47 = true := by kernel_rfl
theorem z_struct203 : structT Tryd.prog 203 = some ((cellsN (Value.int .u32) 0 1024 (List.replicate 1024 0)), [(0, 1024)]) := by kernel_rfl
theorem z_en129 : enters Tryd.prog 129 = true := by kernel_rfl
theorem z_field203_0 : fieldT Tryd.prog 203 0 = some 0 := by kernel_rfl
theorem z_arr201 : arrP Tryd.prog 201 = some (4, 200, 256) := by kernel_rfl
theorem z_arr200 : arrP Tryd.prog 200 = some (256, 33, 1) := by kernel_rfl
theorem z_size33 : sizeT Tryd.prog 33 = some 1 := by kernel_rfl
theorem z_en88 : enters Tryd.prog 88 = true := by kernel_rfl
theorem z_struct152 : structT Tryd.prog 152 = some ([.pointer none], [(0, 1)]) := by kernel_rfl
theorem z_en40 : enters Tryd.prog 40 = true := by kernel_rfl
theorem z_en121 : enters Tryd.prog 121 = true := by kernel_rfl
theorem z_en85 : enters Tryd.prog 85 = true := by kernel_rfl
theorem z_sc81 : isScalar Tryd.prog 81 = true := by kernel_rfl
theorem z_zero87 : zeroT Tryd.prog 87 = some [.int .i64 0, .int .i64 0, .int .u32 0, .int .i64 0, .int .i64 0, .slice none 0 0] := by kernel_rfl
theorem z_struct87 : structT Tryd.prog 87 = some ([.int .i64 0, .int .i64 0, .int .u32 0, .int .i64 0, .int .i64 0, .slice none 0 0], [(0, 5), (5, 1)]) := by kernel_rfl
theorem z_size87 : sizeT Tryd.prog 87 = some 6 := by kernel_rfl
theorem z_agg87 : aggSize Tryd.prog 87 = some 6 := by kernel_rfl
theorem z_en122 : enters Tryd.prog 122 = true := by kernel_rfl
theorem z_field152_0 : fieldT Tryd.prog 152 0 = some 0 := by kernel_rfl
theorem z_sc149 : isScalar Tryd.prog 149 = true := by kernel_rfl
theorem z_en175 : enters Tryd.prog 175 = true := by kernel_rfl
theorem z_en176 : enters Tryd.prog 176 = true := by kernel_rfl
theorem z_en177 : enters Tryd.prog 177 = true := by kernel_rfl
theorem z_en154 : enters Tryd.prog 154 = true := by kernel_rfl
theorem z_zero230 : zeroT Tryd.prog 230 = some [.int .u8 0, .int .u8 0, .int .u8 0, .int .u8 0] := by kernel_rfl
theorem z_arrz230 : arrT Tryd.prog 230 = some ([.int .u8 0, .int .u8 0, .int .u8 0, .int .u8 0], 1) := by kernel_rfl
theorem z_size230 : sizeT Tryd.prog 230 = some 4 := by kernel_rfl
theorem z_agg230 : aggSize Tryd.prog 230 = some 4 := by kernel_rfl
theorem z_en153 : enters Tryd.prog 153 = true := by kernel_rfl
theorem z_arr230 : arrP Tryd.prog 230 = some (4, 5, 1) := by kernel_rfl
theorem z_info5 : (Tryd.prog.info? 5).isSome = true := by kernel_rfl
theorem z_cell5 : Program.cellsOf Tryd.prog 5 = 1 := by kernel_rfl
theorem z_eqg230 : Program.eqGuardType Tryd.prog (Program.depth Tryd.prog) 230 = false := by kernel_rfl
theorem z_en123 : enters Tryd.prog 123 = true := by kernel_rfl
theorem z_zero85 : zeroT Tryd.prog 85 = some [.int .i64 0, .int .i64 0, .int .u32 0, .int .i64 0, .int .i64 0] := by kernel_rfl
theorem z_struct85 : structT Tryd.prog 85 = some ([.int .i64 0, .int .i64 0, .int .u32 0, .int .i64 0, .int .i64 0], [(0, 1), (1, 1), (2, 1), (3, 1), (4, 1)]) := by kernel_rfl
theorem z_size85 : sizeT Tryd.prog 85 = some 5 := by kernel_rfl
theorem z_agg85 : aggSize Tryd.prog 85 = some 5 := by kernel_rfl
theorem z_struct258 : structT Tryd.prog 258 = some ([.slice none 0 0, .int .i64 0, .int .i64 0], [(0, 1), (1, 1), (2, 1)]) := by kernel_rfl
theorem z_en155 : enters Tryd.prog 155 = true := by kernel_rfl
theorem z_zero33 : zeroT Tryd.prog 33 = some [.int .u32 0] := by kernel_rfl
theorem z_field258_2 : fieldT Tryd.prog 258 2 = some 2 := by kernel_rfl
theorem z_field258_0 : fieldT Tryd.prog 258 0 = some 0 := by kernel_rfl
theorem z_field258_1 : fieldT Tryd.prog 258 1 = some 1 := by kernel_rfl
theorem z_en203 : enters Tryd.prog 203 = true := by kernel_rfl
theorem z_en214 : enters Tryd.prog 214 = true := by kernel_rfl
theorem z_en202 : enters Tryd.prog 202 = true := by kernel_rfl
theorem z_en201 : enters Tryd.prog 201 = true := by kernel_rfl
theorem z_size28 : sizeT Tryd.prog 28 = some 1 := by kernel_rfl
theorem z_en200 : enters Tryd.prog 200 = true := by kernel_rfl
theorem z_en178 : enters Tryd.prog 178 = true := by kernel_rfl
theorem z_en156 : enters Tryd.prog 156 = true := by kernel_rfl
theorem z_en157 : enters Tryd.prog 157 = true := by kernel_rfl
theorem z_en179 : enters Tryd.prog 179 = true := by kernel_rfl
theorem z_en180 : enters Tryd.prog 180 = true := by kernel_rfl
theorem z_en158 : enters Tryd.prog 158 = true := by kernel_rfl
theorem z_zero28 : zeroT Tryd.prog 28 = some [.int .i64 0] := by kernel_rfl
theorem z_field85_0 : fieldT Tryd.prog 85 0 = some 0 := by kernel_rfl
theorem z_field85_1 : fieldT Tryd.prog 85 1 = some 1 := by kernel_rfl
theorem z_field85_4 : fieldT Tryd.prog 85 4 = some 4 := by kernel_rfl
theorem z_field85_3 : fieldT Tryd.prog 85 3 = some 3 := by kernel_rfl
theorem z_en161 : enters Tryd.prog 161 = true := by kernel_rfl
theorem z_en130 : enters Tryd.prog 130 = true := by kernel_rfl
theorem z_en90 : enters Tryd.prog 90 = true := by kernel_rfl
theorem z_en124 : enters Tryd.prog 124 = true := by kernel_rfl
theorem z_en86 : enters Tryd.prog 86 = true := by kernel_rfl
theorem z_field87_0 : fieldT Tryd.prog 87 0 = some 0 := by kernel_rfl
theorem z_field85_2 : fieldT Tryd.prog 85 2 = some 2 := by kernel_rfl
theorem z_en162 : enters Tryd.prog 162 = true := by kernel_rfl
theorem z_en131 : enters Tryd.prog 131 = true := by kernel_rfl
theorem z_en92 : enters Tryd.prog 92 = true := by kernel_rfl
theorem z_field87_1 : fieldT Tryd.prog 87 1 = some 5 := by kernel_rfl
theorem z_en46 : enters Tryd.prog 46 = true := by kernel_rfl
theorem z_zero80 : zeroT Tryd.prog 80 = some [.slice none 0 0] := by kernel_rfl
theorem z_slT80 : slT Tryd.prog 80 = some (87, 6, 64) := by kernel_rfl
theorem z_size67 : sizeT Tryd.prog 67 = some 1 := by kernel_rfl
theorem z_en41 : enters Tryd.prog 41 = true := by kernel_rfl
theorem z_sc80 : isScalar Tryd.prog 80 = true := by kernel_rfl
theorem z_size80 : sizeT Tryd.prog 80 = some 1 := by kernel_rfl
theorem z_en42 : enters Tryd.prog 42 = true := by kernel_rfl
theorem z_slT83 : slT Tryd.prog 83 = some (91, 6, 64) := by kernel_rfl
theorem z_en43 : enters Tryd.prog 43 = true := by kernel_rfl
theorem z_en44 : enters Tryd.prog 44 = true := by kernel_rfl
theorem z_held85 : Program.stoodInHeld Tryd.prog 85 = false := by kernel_rfl
theorem z_eqg85 : Program.eqGuardType Tryd.prog (Program.depth Tryd.prog) 85 = false := by kernel_rfl
theorem z_en91 : enters Tryd.prog 91 = true := by kernel_rfl
theorem z_en45 : enters Tryd.prog 45 = true := by kernel_rfl
theorem z_held89 : Program.stoodInHeld Tryd.prog 89 = false := by kernel_rfl
theorem z_eqg89 : Program.eqGuardType Tryd.prog (Program.depth Tryd.prog) 89 = false := by kernel_rfl
theorem z_en48 : enters Tryd.prog 48 = true := by kernel_rfl
theorem z_arrz241 : arrT Tryd.prog 241 = some ([.int .u8 0, .int .u8 0, .int .u8 0, .int .u8 0, .int .u8 0, .int .u8 0, .int .u8 0, .int .u8 0], 1) := by kernel_rfl
theorem z_zero241 : zeroT Tryd.prog 241 = some [.int .u8 0, .int .u8 0, .int .u8 0, .int .u8 0, .int .u8 0, .int .u8 0, .int .u8 0, .int .u8 0] := by kernel_rfl
theorem z_size241 : sizeT Tryd.prog 241 = some 8 := by kernel_rfl
theorem z_arr241 : arrP Tryd.prog 241 = some (8, 5, 1) := by kernel_rfl
theorem z_en133 : enters Tryd.prog 133 = true := by kernel_rfl
theorem z_en135 : enters Tryd.prog 135 = true := by kernel_rfl
theorem z_en187 : enters Tryd.prog 187 = true := by kernel_rfl
theorem z_en186 : enters Tryd.prog 186 = true := by kernel_rfl
theorem z_en164 : enters Tryd.prog 164 = true := by kernel_rfl
theorem z_en134 : enters Tryd.prog 134 = true := by kernel_rfl
theorem z_en95 : enters Tryd.prog 95 = true := by kernel_rfl
theorem z_en96 : enters Tryd.prog 96 = true := by kernel_rfl
theorem z_en49 : enters Tryd.prog 49 = true := by kernel_rfl
theorem z_en136 : enters Tryd.prog 136 = true := by kernel_rfl
theorem z_en97 : enters Tryd.prog 97 = true := by kernel_rfl
theorem z_en98 : enters Tryd.prog 98 = true := by kernel_rfl
theorem z_en50 : enters Tryd.prog 50 = true := by kernel_rfl
theorem z_sc159 : isScalar Tryd.prog 159 = true := by kernel_rfl
theorem z_en99 : enters Tryd.prog 99 = true := by kernel_rfl
theorem z_en51 : enters Tryd.prog 51 = true := by kernel_rfl
theorem z_en165 : enters Tryd.prog 165 = true := by kernel_rfl
theorem z_en137 : enters Tryd.prog 137 = true := by kernel_rfl
theorem z_en100 : enters Tryd.prog 100 = true := by kernel_rfl
theorem z_en52 : enters Tryd.prog 52 = true := by kernel_rfl
end Go.Rel
