import Derived.Test.YtgokdchgjpneoaaDoorProg
import Derived.Test.YtgokdchgjpneoaaDoorEngS
import Derived.KernelRfl
import Derived.Test.YtgokdchgjpneoaaDoorShelf
/-! Facts of the program's types and functions. -/
namespace Go.Rel
open Go Go.Eng Go.Proofs
theorem z_agg26 : aggSize Tryd.prog 26 = some 11 := by kernel_rfl
theorem z_zero26 : zeroT Tryd.prog 26 = some [.int .i64 0, .int .i64 0, .int .i64 0, .int .i64 0, .int .i64 0, .int .i64 0, .int .i64 0, .slice none 0 0, .slice none 0 0, .string (bstr []), .string (bstr [])] := by kernel_rfl
theorem z_field26_2 : fieldT Tryd.prog 26 2 = some 7 := by kernel_rfl
theorem z_sc23 : isScalar Tryd.prog 23 = true := by kernel_rfl
theorem z_slT23 : slT Tryd.prog 23 = some (46, 2, 16) := by kernel_rfl
theorem z_field26_3 : fieldT Tryd.prog 26 3 = some 8 := by kernel_rfl
theorem z_sc24 : isScalar Tryd.prog 24 = true := by kernel_rfl
theorem z_slT24 : slT Tryd.prog 24 = some (3, 1, 8) := by kernel_rfl
theorem z_size23 : sizeT Tryd.prog 23 = some 1 := by kernel_rfl
theorem z_mix : Tryd.prog.follows .mixedOrders = true := by kernel_rfl
theorem z_size24 : sizeT Tryd.prog 24 = some 1 := by kernel_rfl
theorem z_field26_4 : fieldT Tryd.prog 26 4 = some 9 := by kernel_rfl
theorem z_sc9 : isScalar Tryd.prog 9 = true := by kernel_rfl
theorem z_field26_5 : fieldT Tryd.prog 26 5 = some 10 := by kernel_rfl
theorem z_size9 : sizeT Tryd.prog 9 = some 1 := by kernel_rfl
theorem z_size26 : sizeT Tryd.prog 26 = some 11 := by kernel_rfl
theorem z_en11 : enters Tryd.prog 11 = true := by kernel_rfl
theorem z_field26_0 : fieldT Tryd.prog 26 0 = some 0 := by kernel_rfl
theorem z_sc3 : isScalar Tryd.prog 3 = true := by kernel_rfl
theorem z_zero121 : zeroT Tryd.prog 121 = some [.string (bstr []), .int .i64 0, .int .i64 0, .int .i64 0, .int .i64 0, .int .i64 0, .int .i64 0] := by kernel_rfl
theorem z_str0 : (ByteArray.mk #[114, 111, 98, 111, 116]) = bstr [114, 111, 98, 111, 116] := by kernel_rfl
theorem z_struct121 : structT Tryd.prog 121 = some ([.string (bstr []), .int .i64 0, .int .i64 0, .int .i64 0, .int .i64 0, .int .i64 0, .int .i64 0], [(0, 1), (1, 1), (2, 1), (3, 1), (4, 1), (5, 1), (6, 1)]) := by kernel_rfl
theorem z_size121 : sizeT Tryd.prog 121 = some 7 := by kernel_rfl
theorem z_agg121 : aggSize Tryd.prog 121 = some 7 := by kernel_rfl
theorem z_en106 : enters Tryd.prog 106 = true := by kernel_rfl
theorem z_str1 : (ByteArray.mk #[115, 112, 101, 101, 100]) = bstr [115, 112, 101, 101, 100] := by kernel_rfl
theorem z_str2 : (ByteArray.mk #[97, 99, 99, 101, 108]) = bstr [97, 99, 99, 101, 108] := by kernel_rfl
theorem z_str3 : (ByteArray.mk #[112, 97, 116, 104]) = bstr [112, 97, 116, 104] := by kernel_rfl
theorem z_str4 : (ByteArray.mk #[116, 97, 103]) = bstr [116, 97, 103] := by kernel_rfl
theorem z_slT118 : slT Tryd.prog 118 = some (121, 7, 64) := by kernel_rfl
theorem z_str5 : (ByteArray.mk #[114, 101, 97, 115, 111, 110]) = bstr [114, 101, 97, 115, 111, 110] := by kernel_rfl
theorem z_str6 : (ByteArray.mk #[122, 111, 110, 101]) = bstr [122, 111, 110, 101] := by kernel_rfl
theorem z_str7 : (ByteArray.mk #[108, 101, 97, 115, 101]) = bstr [108, 101, 97, 115, 101] := by kernel_rfl
theorem z_str8 : (ByteArray.mk #[99, 101, 108, 108, 115]) = bstr [99, 101, 108, 108, 115] := by kernel_rfl
theorem z_str9 : (ByteArray.mk #[120]) = bstr [120] := by kernel_rfl
theorem z_str10 : (ByteArray.mk #[121]) = bstr [121] := by kernel_rfl
theorem z_str11 : (ByteArray.mk #[104, 101, 97, 100, 105, 110, 103]) = bstr [104, 101, 97, 100, 105, 110, 103] := by kernel_rfl
theorem z_str12 : (ByteArray.mk #[98, 97, 116, 116, 101, 114, 121]) = bstr [98, 97, 116, 116, 101, 114, 121] := by kernel_rfl
theorem z_str13 : (ByteArray.mk #[115, 117, 114, 101]) = bstr [115, 117, 114, 101] := by kernel_rfl
theorem z_str14 : (ByteArray.mk #[99, 111, 100, 101]) = bstr [99, 111, 100, 101] := by kernel_rfl
theorem z_str15 : (ByteArray.mk #[115, 101, 118, 101, 114, 105, 116, 121]) = bstr [115, 101, 118, 101, 114, 105, 116, 121] := by kernel_rfl
theorem z_str16 : (ByteArray.mk #[112, 97, 114, 116]) = bstr [112, 97, 114, 116] := by kernel_rfl
theorem z_str17 : (ByteArray.mk #[116, 105, 109, 101, 115]) = bstr [116, 105, 109, 101, 115] := by kernel_rfl
theorem z_str18 : (ByteArray.mk #[116, 101, 120, 116]) = bstr [116, 101, 120, 116] := by kernel_rfl
theorem z_en66 : enters Tryd.prog 66 = true := by kernel_rfl
theorem z_field121_1 : fieldT Tryd.prog 121 1 = some 1 := by kernel_rfl
theorem z_field121_3 : fieldT Tryd.prog 121 3 = some 3 := by kernel_rfl
theorem z_field121_4 : fieldT Tryd.prog 121 4 = some 4 := by kernel_rfl
theorem z_en146 : enters Tryd.prog 146 = true := by kernel_rfl
theorem z_agg46 : aggSize Tryd.prog 46 = some 2 := by kernel_rfl
theorem z_zero46 : zeroT Tryd.prog 46 = some [.int .i64 0, .int .i64 0] := by kernel_rfl
theorem z_size46 : sizeT Tryd.prog 46 = some 2 := by kernel_rfl
theorem z_field46_0 : fieldT Tryd.prog 46 0 = some 0 := by kernel_rfl
theorem z_field46_1 : fieldT Tryd.prog 46 1 = some 1 := by kernel_rfl
theorem z_en107 : enters Tryd.prog 107 = true := by kernel_rfl
theorem z_en108 : enters Tryd.prog 108 = true := by kernel_rfl
theorem z_slT67 : slT Tryd.prog 67 = some (5, 1, 1) := by kernel_rfl
theorem z_sc5 : isScalar Tryd.prog 5 = true := by kernel_rfl
theorem z_en109 : enters Tryd.prog 109 = true := by kernel_rfl
theorem z_field121_2 : fieldT Tryd.prog 121 2 = some 2 := by kernel_rfl
theorem z_field26_1 : fieldT Tryd.prog 26 1 = some 1 := by kernel_rfl
theorem z_arr22 : arrP Tryd.prog 22 = some (6, 3, 1) := by kernel_rfl
theorem z_en67 : enters Tryd.prog 67 = true := by kernel_rfl
theorem z_str19 : (ByteArray.mk #[]) = bstr [] := by kernel_rfl
theorem z_size3 : sizeT Tryd.prog 3 = some 1 := by kernel_rfl
theorem z_en68 : enters Tryd.prog 68 = true := by kernel_rfl
theorem z_struct26 : structT Tryd.prog 26 = some ([.int .i64 0, .int .i64 0, .int .i64 0, .int .i64 0, .int .i64 0, .int .i64 0, .int .i64 0, .slice none 0 0, .slice none 0 0, .string (bstr []), .string (bstr [])], [(0, 1), (1, 6), (7, 1), (8, 1), (9, 1), (10, 1)]) := by kernel_rfl
theorem z_agg22 : aggSize Tryd.prog 22 = some 6 := by kernel_rfl
theorem z_info3 : (Tryd.prog.info? 3).isSome = true := by kernel_rfl
theorem z_cell3 : Program.cellsOf Tryd.prog 3 = 1 := by kernel_rfl
theorem z_eqg22 : Program.eqGuardType Tryd.prog (Program.depth Tryd.prog) 22 = false := by kernel_rfl
theorem z_held46 : Program.stoodInHeld Tryd.prog 46 = false := by kernel_rfl
theorem z_eqg46 : Program.eqGuardType Tryd.prog (Program.depth Tryd.prog) 46 = false := by kernel_rfl
theorem z_en72 : enters Tryd.prog 72 = true := by kernel_rfl
theorem z_en73 : enters Tryd.prog 73 = true := by kernel_rfl
theorem z_en15 : enters Tryd.prog 15 = true := by kernel_rfl
theorem z_en12 : enters Tryd.prog 12 = true := by kernel_rfl
theorem z_arrz22 : arrT Tryd.prog 22 = some ([.int .i64 0, .int .i64 0, .int .i64 0, .int .i64 0, .int .i64 0, .int .i64 0], 1) := by kernel_rfl
theorem z_str20 : (ByteArray.mk #[109, 111, 118, 101]) = bstr [109, 111, 118, 101] := by kernel_rfl
theorem z_str21 : (ByteArray.mk #[104, 111, 108, 100]) = bstr [104, 111, 108, 100] := by kernel_rfl
theorem z_str22 : (ByteArray.mk #[103, 114, 97, 110, 116]) = bstr [103, 114, 97, 110, 116] := by kernel_rfl
theorem z_str23 : (ByteArray.mk #[112, 111, 115, 101]) = bstr [112, 111, 115, 101] := by kernel_rfl
theorem z_str24 : (ByteArray.mk #[102, 97, 117, 108, 116]) = bstr [102, 97, 117, 108, 116] := by kernel_rfl
theorem z_en69 : enters Tryd.prog 69 = true := by kernel_rfl
theorem z_zero9 : zeroT Tryd.prog 9 = some [.string (bstr [])] := by kernel_rfl
theorem z_field121_5 : fieldT Tryd.prog 121 5 = some 5 := by kernel_rfl
theorem z_en110 : enters Tryd.prog 110 = true := by kernel_rfl
theorem z_en70 : enters Tryd.prog 70 = true := by kernel_rfl
theorem z_field121_0 : fieldT Tryd.prog 121 0 = some 0 := by kernel_rfl
theorem z_str25 : (ByteArray.mk #[32]) = bstr [32] := by kernel_rfl
theorem z_en93 : enters Tryd.prog 93 = true := by kernel_rfl
theorem z_en77 : enters Tryd.prog 77 = true := by kernel_rfl
theorem z_str26 : (ByteArray.mk #[44]) = bstr [44] := by kernel_rfl
theorem z_slT68 : slT Tryd.prog 68 = some (9, 1, 16) := by kernel_rfl
theorem z_str27 : (ByteArray.mk #[59]) = bstr [59] := by kernel_rfl
theorem z_en111 : enters Tryd.prog 111 = true := by kernel_rfl
theorem z_str28 : (ByteArray.mk #[45]) = bstr [45] := by kernel_rfl
theorem z_str29 : (ByteArray.mk #[48, 49, 50, 51, 52, 53, 54, 55, 56, 57, 97, 98, 99, 100, 101, 102]) = bstr [48, 49, 50, 51, 52, 53, 54, 55, 56, 57, 97, 98, 99, 100, 101, 102] := by kernel_rfl
theorem z_zero5 : zeroT Tryd.prog 5 = some [.int .u8 0] := by kernel_rfl
theorem z_en112 : enters Tryd.prog 112 = true := by kernel_rfl
theorem z_en71 : enters Tryd.prog 71 = true := by kernel_rfl
theorem z_en14 : enters Tryd.prog 14 = true := by kernel_rfl
theorem z_str30 : (ByteArray.mk #[104, 105]) = bstr [104, 105] := by kernel_rfl
theorem z_str31 : (ByteArray.mk #[104, 111, 108, 100, 32, 114, 111, 98, 111, 116, 32, 51, 48, 48, 32, 114, 101, 97, 115, 111, 110, 32, 50, 32, 122, 111, 110, 101, 32, 57]) = bstr [104, 111, 108, 100, 32, 114, 111, 98, 111, 116, 32, 51, 48, 48, 32, 114, 101, 97, 115, 111, 110, 32, 50, 32, 122, 111, 110, 101, 32, 57] := by kernel_rfl
theorem z_str32 : (ByteArray.mk #[102, 97, 117, 108, 116, 32, 114, 111, 98, 111, 116, 32, 49, 32, 99, 111, 100, 101, 32, 50, 32, 115, 101, 118, 101, 114, 105, 116, 121, 32, 51, 32, 112, 97, 114, 116, 32, 48, 32, 116, 105, 109, 101, 115, 32, 49, 32, 116, 101, 120, 116, 32, 54, 56, 54, 57]) = bstr [102, 97, 117, 108, 116, 32, 114, 111, 98, 111, 116, 32, 49, 32, 99, 111, 100, 101, 32, 50, 32, 115, 101, 118, 101, 114, 105, 116, 121, 32, 51, 32, 112, 97, 114, 116, 32, 48, 32, 116, 105, 109, 101, 115, 32, 49, 32, 116, 101, 120, 116, 32, 54, 56, 54, 57] := by kernel_rfl
theorem z_en13 : enters Tryd.prog 13 = true := by kernel_rfl
theorem z_en74 : enters Tryd.prog 74 = true := by kernel_rfl
theorem z_zero3 : zeroT Tryd.prog 3 = some [.int .i64 0] := by kernel_rfl
theorem z_en75 : enters Tryd.prog 75 = true := by kernel_rfl
theorem z_en16 : enters Tryd.prog 16 = true := by kernel_rfl
def z_tyf : TyF := ⟨[], [(121, 1, 1), (121, 2, 2), (121, 3, 3), (121, 4, 4), (121, 5, 5), (26, 0, 0), (26, 1, 1), (26, 2, 7), (26, 3, 8), (26, 4, 9), (26, 5, 10), (46, 0, 0), (46, 1, 1)], [9], [], [], []⟩
theorem z_T : TyOk Tryd.prog z_tyf := ⟨fa_nil, (fa_cons z_field121_1 (fa_cons z_field121_2 (fa_cons z_field121_3 (fa_cons z_field121_4 (fa_cons z_field121_5 (fa_cons z_field26_0 (fa_cons z_field26_1 (fa_cons z_field26_2 (fa_cons z_field26_3 (fa_cons z_field26_4 (fa_cons z_field26_5 (fa_cons z_field46_0 (fa_cons z_field46_1 fa_nil))))))))))))), (fa_cons Tryd.underlying9 fa_nil), fa_nil, fa_nil, fa_nil⟩
theorem Z {n : Nat} {c : Ctx Tryd.prog n} {σ : Sto} {gs : List Grp} (f : Nat) {ρ ρ' : Env} {k k' : List Item} (h : go z_tyf n f ρ k = some (ρ', k')) (hk : St c ρ' σ gs k') : St c ρ σ gs k := st_go z_T f h hk
end Go.Rel
