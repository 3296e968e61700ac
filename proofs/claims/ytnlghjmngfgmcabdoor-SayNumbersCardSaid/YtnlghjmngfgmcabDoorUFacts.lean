import Derived.Test.YtnlghjmngfgmcabDoorProg
import Derived.Test.YtnlghjmngfgmcabDoorEngU
import Derived.KernelRfl
import Derived.Test.YtnlghjmngfgmcabDoorEngW
import Derived.Test.YtnlghjmngfgmcabDoorEngX
import Derived.Test.YtnlghjmngfgmcabDoorShelf
/-! Facts of the program's types and functions. -/
namespace Go.Rel
open Go Go.Eng Go.Proofs
theorem z_zero41 : zeroT Tryd.prog 41 = some [.slice none 0 0] := by kernel_rfl
theorem z_zero3 : zeroT Tryd.prog 3 = some [.int .i64 0] := by kernel_rfl
theorem z_size3 : sizeT Tryd.prog 3 = some 1 := by kernel_rfl
theorem z_sc9 : isScalar Tryd.prog 9 = true := by kernel_rfl
theorem z_str0 : (ByteArray.mk #[32]) = bstr [32] := by kernel_rfl
theorem z_en61 : enters Tryd.prog 61 = true := by kernel_rfl
theorem z_size9 : sizeT Tryd.prog 9 = some 1 := by kernel_rfl
theorem z_en65 : enters Tryd.prog 65 = true := by kernel_rfl
theorem z_sc3 : isScalar Tryd.prog 3 = true := by kernel_rfl
theorem z_en64 : enters Tryd.prog 64 = true := by kernel_rfl
theorem z_en45 : enters Tryd.prog 45 = true := by kernel_rfl
theorem z_en29 : enters Tryd.prog 29 = true := by kernel_rfl
theorem z_sc65 : isScalar Tryd.prog 65 = true := by kernel_rfl
theorem z_en28 : enters Tryd.prog 28 = true := by kernel_rfl
theorem z_en16 : enters Tryd.prog 16 = true := by kernel_rfl
theorem z_sc41 : isScalar Tryd.prog 41 = true := by kernel_rfl
theorem z_slT41 : slT Tryd.prog 41 = some (9, 1, 16) := by kernel_rfl
theorem z_zero9 : zeroT Tryd.prog 9 = some [.string (bstr [])] := by kernel_rfl
theorem z_size41 : sizeT Tryd.prog 41 = some 1 := by kernel_rfl
theorem z_str1 : (ByteArray.mk #[]) = bstr [] := by kernel_rfl
theorem z_str6 : (ByteArray.mk #[45]) = bstr [45] := by kernel_rfl
theorem z_str7 : (ByteArray.mk #[48, 49, 50, 51, 52, 53, 54, 55, 56, 57, 97, 98, 99, 100, 101, 102]) = bstr [48, 49, 50, 51, 52, 53, 54, 55, 56, 57, 97, 98, 99, 100, 101, 102] := by kernel_rfl
theorem z_en31 : enters Tryd.prog 31 = true := by kernel_rfl
theorem z_mix : Tryd.prog.follows .mixedOrders = true := by kernel_rfl
theorem z_slT22 : slT Tryd.prog 22 = some (5, 1, 1) := by kernel_rfl
theorem z_zero5 : zeroT Tryd.prog 5 = some [.int .u8 0] := by kernel_rfl
theorem z_zero4 : zeroT Tryd.prog 4 = some [.bool false] := by kernel_rfl
theorem z_en24 : enters Tryd.prog 24 = true := by kernel_rfl
theorem z_en11 : enters Tryd.prog 11 = true := by kernel_rfl
theorem z_en25 : enters Tryd.prog 25 = true := by kernel_rfl
theorem z_en59 : enters Tryd.prog 59 = true := by kernel_rfl
theorem z_en37 : enters Tryd.prog 37 = true := by kernel_rfl
theorem z_en26 : enters Tryd.prog 26 = true := by kernel_rfl
theorem z_str8 : (ByteArray.mk #[48, 49, 50, 51, 52, 53, 54, 55, 56, 57]) = bstr [48, 49, 50, 51, 52, 53, 54, 55, 56, 57] := by kernel_rfl
theorem z_en39 : enters Tryd.prog 39 = true := by kernel_rfl
theorem z_en38 : enters Tryd.prog 38 = true := by kernel_rfl
theorem z_zero85 : zeroT Tryd.prog 85 = some (cellsN Value.bool false 256 (List.replicate 256 false)) := by kernel_rfl
theorem z_agg85 : aggSize Tryd.prog 85 = some 256 := by kernel_rfl
theorem z_size85 : sizeT Tryd.prog 85 = some 256 := by kernel_rfl
theorem z_arr85 : arrP Tryd.prog 85 = some (256, 4, 1) := by kernel_rfl
theorem z_size4 : sizeT Tryd.prog 4 = some 1 := by kernel_rfl
theorem z_en40 : enters Tryd.prog 40 = true := by kernel_rfl
theorem z_sc4 : isScalar Tryd.prog 4 = true := by kernel_rfl
theorem z_en60 : enters Tryd.prog 60 = true := by kernel_rfl
theorem z_en42 : enters Tryd.prog 42 = true := by kernel_rfl
theorem z_en41 : enters Tryd.prog 41 = true := by kernel_rfl
theorem z_en85 : enters Tryd.prog 85 = true := by kernel_rfl
theorem z_en63 : enters Tryd.prog 63 = true := by kernel_rfl
theorem z_en101 : enters Tryd.prog 101 = true := by kernel_rfl
theorem z_en84 : enters Tryd.prog 84 = true := by kernel_rfl
theorem z_en62 : enters Tryd.prog 62 = true := by kernel_rfl
theorem z_en44 : enters Tryd.prog 44 = true := by kernel_rfl
theorem z_en43 : enters Tryd.prog 43 = true := by kernel_rfl
theorem z_en27 : enters Tryd.prog 27 = true := by kernel_rfl
theorem z_str9 : (ByteArray.mk #[48]) = bstr [48] := by kernel_rfl
theorem z_en12 : enters Tryd.prog 12 = true := by kernel_rfl
theorem z_en13 : enters Tryd.prog 13 = true := by kernel_rfl
theorem z_en14 : enters Tryd.prog 14 = true := by kernel_rfl
theorem z_en15 : enters Tryd.prog 15 = true := by kernel_rfl
theorem z_arrz70 : arrT Tryd.prog 70 = some ([.int .i64 0, .int .i64 0, .int .i64 0, .int .i64 0, .int .i64 0, .int .i64 0], 1) := by kernel_rfl
theorem z_struct74 : structT Tryd.prog 74 = some ([.int .i64 0, .int .i64 0, .int .i64 0, .int .i64 0, .int .i64 0, .int .i64 0, .int .i64 0, .slice none 0 0, .slice none 0 0, .string (bstr []), .string (bstr [])], [(0, 1), (1, 6), (7, 1), (8, 1), (9, 1), (10, 1)]) := by kernel_rfl
theorem z_agg74 : aggSize Tryd.prog 74 = some 11 := by kernel_rfl
theorem z_zero74 : zeroT Tryd.prog 74 = some [.int .i64 0, .int .i64 0, .int .i64 0, .int .i64 0, .int .i64 0, .int .i64 0, .int .i64 0, .slice none 0 0, .slice none 0 0, .string (bstr []), .string (bstr [])] := by kernel_rfl
theorem z_size74 : sizeT Tryd.prog 74 = some 11 := by kernel_rfl
theorem z_field74_0 : fieldT Tryd.prog 74 0 = some 0 := by kernel_rfl
theorem z_zero96 : zeroT Tryd.prog 96 = some [.string (bstr []), .int .i64 0, .int .i64 0, .int .i64 0, .int .i64 0, .int .i64 0, .int .i64 0] := by kernel_rfl
theorem z_str10 : (ByteArray.mk #[114, 111, 98, 111, 116]) = bstr [114, 111, 98, 111, 116] := by kernel_rfl
theorem z_struct96 : structT Tryd.prog 96 = some ([.string (bstr []), .int .i64 0, .int .i64 0, .int .i64 0, .int .i64 0, .int .i64 0, .int .i64 0], [(0, 1), (1, 1), (2, 1), (3, 1), (4, 1), (5, 1), (6, 1)]) := by kernel_rfl
theorem z_size96 : sizeT Tryd.prog 96 = some 7 := by kernel_rfl
theorem z_agg96 : aggSize Tryd.prog 96 = some 7 := by kernel_rfl
theorem z_en87 : enters Tryd.prog 87 = true := by kernel_rfl
theorem z_str11 : (ByteArray.mk #[115, 112, 101, 101, 100]) = bstr [115, 112, 101, 101, 100] := by kernel_rfl
theorem z_str12 : (ByteArray.mk #[97, 99, 99, 101, 108]) = bstr [97, 99, 99, 101, 108] := by kernel_rfl
theorem z_str13 : (ByteArray.mk #[112, 97, 116, 104]) = bstr [112, 97, 116, 104] := by kernel_rfl
theorem z_str14 : (ByteArray.mk #[116, 97, 103]) = bstr [116, 97, 103] := by kernel_rfl
theorem z_slT114 : slT Tryd.prog 114 = some (96, 7, 64) := by kernel_rfl
theorem z_str15 : (ByteArray.mk #[114, 101, 97, 115, 111, 110]) = bstr [114, 101, 97, 115, 111, 110] := by kernel_rfl
theorem z_str16 : (ByteArray.mk #[122, 111, 110, 101]) = bstr [122, 111, 110, 101] := by kernel_rfl
theorem z_str17 : (ByteArray.mk #[108, 101, 97, 115, 101]) = bstr [108, 101, 97, 115, 101] := by kernel_rfl
theorem z_str18 : (ByteArray.mk #[99, 101, 108, 108, 115]) = bstr [99, 101, 108, 108, 115] := by kernel_rfl
theorem z_str19 : (ByteArray.mk #[120]) = bstr [120] := by kernel_rfl
theorem z_str20 : (ByteArray.mk #[121]) = bstr [121] := by kernel_rfl
theorem z_str21 : (ByteArray.mk #[104, 101, 97, 100, 105, 110, 103]) = bstr [104, 101, 97, 100, 105, 110, 103] := by kernel_rfl
theorem z_str22 : (ByteArray.mk #[98, 97, 116, 116, 101, 114, 121]) = bstr [98, 97, 116, 116, 101, 114, 121] := by kernel_rfl
theorem z_str23 : (ByteArray.mk #[115, 117, 114, 101]) = bstr [115, 117, 114, 101] := by kernel_rfl
theorem z_str24 : (ByteArray.mk #[99, 111, 100, 101]) = bstr [99, 111, 100, 101] := by kernel_rfl
theorem z_str25 : (ByteArray.mk #[115, 101, 118, 101, 114, 105, 116, 121]) = bstr [115, 101, 118, 101, 114, 105, 116, 121] := by kernel_rfl
theorem z_str26 : (ByteArray.mk #[112, 97, 114, 116]) = bstr [112, 97, 114, 116] := by kernel_rfl
theorem z_str27 : (ByteArray.mk #[116, 105, 109, 101, 115]) = bstr [116, 105, 109, 101, 115] := by kernel_rfl
theorem z_str28 : (ByteArray.mk #[116, 101, 120, 116]) = bstr [116, 101, 120, 116] := by kernel_rfl
theorem z_en66 : enters Tryd.prog 66 = true := by kernel_rfl
theorem z_field96_1 : fieldT Tryd.prog 96 1 = some 1 := by kernel_rfl
theorem z_field74_2 : fieldT Tryd.prog 74 2 = some 7 := by kernel_rfl
theorem z_sc71 : isScalar Tryd.prog 71 = true := by kernel_rfl
theorem z_slT71 : slT Tryd.prog 71 = some (121, 2, 16) := by kernel_rfl
theorem z_field96_3 : fieldT Tryd.prog 96 3 = some 3 := by kernel_rfl
theorem z_field96_4 : fieldT Tryd.prog 96 4 = some 4 := by kernel_rfl
theorem z_en105 : enters Tryd.prog 105 = true := by kernel_rfl
theorem z_agg121 : aggSize Tryd.prog 121 = some 2 := by kernel_rfl
theorem z_zero121 : zeroT Tryd.prog 121 = some [.int .i64 0, .int .i64 0] := by kernel_rfl
theorem z_size121 : sizeT Tryd.prog 121 = some 2 := by kernel_rfl
theorem z_field121_0 : fieldT Tryd.prog 121 0 = some 0 := by kernel_rfl
theorem z_field121_1 : fieldT Tryd.prog 121 1 = some 1 := by kernel_rfl
theorem z_en88 : enters Tryd.prog 88 = true := by kernel_rfl
theorem z_field74_3 : fieldT Tryd.prog 74 3 = some 8 := by kernel_rfl
theorem z_sc72 : isScalar Tryd.prog 72 = true := by kernel_rfl
theorem z_slT72 : slT Tryd.prog 72 = some (3, 1, 8) := by kernel_rfl
theorem z_en89 : enters Tryd.prog 89 = true := by kernel_rfl
theorem z_field74_4 : fieldT Tryd.prog 74 4 = some 9 := by kernel_rfl
theorem z_sc5 : isScalar Tryd.prog 5 = true := by kernel_rfl
theorem z_en90 : enters Tryd.prog 90 = true := by kernel_rfl
theorem z_field74_5 : fieldT Tryd.prog 74 5 = some 10 := by kernel_rfl
theorem z_field96_2 : fieldT Tryd.prog 96 2 = some 2 := by kernel_rfl
theorem z_field74_1 : fieldT Tryd.prog 74 1 = some 1 := by kernel_rfl
theorem z_arr70 : arrP Tryd.prog 70 = some (6, 3, 1) := by kernel_rfl
theorem z_en67 : enters Tryd.prog 67 = true := by kernel_rfl
theorem z_size71 : sizeT Tryd.prog 71 = some 1 := by kernel_rfl
theorem z_size72 : sizeT Tryd.prog 72 = some 1 := by kernel_rfl
theorem z_en68 : enters Tryd.prog 68 = true := by kernel_rfl
theorem z_agg70 : aggSize Tryd.prog 70 = some 6 := by kernel_rfl
theorem z_info3 : (Tryd.prog.info? 3).isSome = true := by kernel_rfl
theorem z_cell3 : Program.cellsOf Tryd.prog 3 = 1 := by kernel_rfl
theorem z_eqg70 : Program.eqGuardType Tryd.prog (Program.depth Tryd.prog) 70 = false := by kernel_rfl
theorem z_held121 : Program.stoodInHeld Tryd.prog 121 = false := by kernel_rfl
theorem z_eqg121 : Program.eqGuardType Tryd.prog (Program.depth Tryd.prog) 121 = false := by kernel_rfl
theorem z_en91 : enters Tryd.prog 91 = true := by kernel_rfl
theorem z_en92 : enters Tryd.prog 92 = true := by kernel_rfl
theorem z_en69 : enters Tryd.prog 69 = true := by kernel_rfl
theorem z_en46 : enters Tryd.prog 46 = true := by kernel_rfl
theorem z_str29 : (ByteArray.mk #[109, 111, 118, 101]) = bstr [109, 111, 118, 101] := by kernel_rfl
theorem z_str30 : (ByteArray.mk #[104, 111, 108, 100]) = bstr [104, 111, 108, 100] := by kernel_rfl
theorem z_str31 : (ByteArray.mk #[103, 114, 97, 110, 116]) = bstr [103, 114, 97, 110, 116] := by kernel_rfl
theorem z_str32 : (ByteArray.mk #[112, 111, 115, 101]) = bstr [112, 111, 115, 101] := by kernel_rfl
theorem z_str33 : (ByteArray.mk #[102, 97, 117, 108, 116]) = bstr [102, 97, 117, 108, 116] := by kernel_rfl
theorem z_en47 : enters Tryd.prog 47 = true := by kernel_rfl
theorem z_field96_5 : fieldT Tryd.prog 96 5 = some 5 := by kernel_rfl
theorem z_en70 : enters Tryd.prog 70 = true := by kernel_rfl
theorem z_en48 : enters Tryd.prog 48 = true := by kernel_rfl
theorem z_field96_0 : fieldT Tryd.prog 96 0 = some 0 := by kernel_rfl
theorem z_str34 : (ByteArray.mk #[44]) = bstr [44] := by kernel_rfl
theorem z_str35 : (ByteArray.mk #[59]) = bstr [59] := by kernel_rfl
theorem z_en71 : enters Tryd.prog 71 = true := by kernel_rfl
theorem z_en72 : enters Tryd.prog 72 = true := by kernel_rfl
theorem z_en49 : enters Tryd.prog 49 = true := by kernel_rfl
theorem z_en30 : enters Tryd.prog 30 = true := by kernel_rfl
theorem z_str36 : (ByteArray.mk #[104, 105]) = bstr [104, 105] := by kernel_rfl
theorem z_str37 : (ByteArray.mk #[104, 111, 108, 100, 32, 114, 111, 98, 111, 116, 32, 51, 48, 48, 32, 114, 101, 97, 115, 111, 110, 32, 50, 32, 122, 111, 110, 101, 32, 57]) = bstr [104, 111, 108, 100, 32, 114, 111, 98, 111, 116, 32, 51, 48, 48, 32, 114, 101, 97, 115, 111, 110, 32, 50, 32, 122, 111, 110, 101, 32, 57] := by kernel_rfl
theorem z_str38 : (ByteArray.mk #[102, 97, 117, 108, 116, 32, 114, 111, 98, 111, 116, 32, 49, 32, 99, 111, 100, 101, 32, 50, 32, 115, 101, 118, 101, 114, 105, 116, 121, 32, 51, 32, 112, 97, 114, 116, 32, 48, 32, 116, 105, 109, 101, 115, 32, 49, 32, 116, 101, 120, 116, 32, 54, 56, 54, 57]) = bstr [102, 97, 117, 108, 116, 32, 114, 111, 98, 111, 116, 32, 49, 32, 99, 111, 100, 101, 32, 50, 32, 115, 101, 118, 101, 114, 105, 116, 121, 32, 51, 32, 112, 97, 114, 116, 32, 48, 32, 116, 105, 109, 101, 115, 32, 49, 32, 116, 101, 120, 116, 32, 54, 56, 54, 57] := by kernel_rfl
theorem z_en17 : enters Tryd.prog 17 = true := by kernel_rfl
theorem z_size65 : sizeT Tryd.prog 65 = some 1 := by kernel_rfl
theorem z_size70 : sizeT Tryd.prog 70 = some 6 := by kernel_rfl
def z_tyf : TyF := ⟨[(21, .i32), (3, .i64), (5, .u8)], [(121, 0, 0), (121, 1, 1), (74, 0, 0), (74, 1, 1), (74, 2, 7), (74, 3, 8), (74, 4, 9), (74, 5, 10), (96, 0, 0), (96, 1, 1), (96, 2, 2), (96, 3, 3), (96, 4, 4), (96, 5, 5)], [9], [], [], [44]⟩
theorem z_T : TyOk Tryd.prog z_tyf := ⟨(fa_cons Tryd.underlying21 (fa_cons Tryd.underlying3 (fa_cons Tryd.underlying5 fa_nil))), (fa_cons z_field121_0 (fa_cons z_field121_1 (fa_cons z_field74_0 (fa_cons z_field74_1 (fa_cons z_field74_2 (fa_cons z_field74_3 (fa_cons z_field74_4 (fa_cons z_field74_5 (fa_cons z_field96_0 (fa_cons z_field96_1 (fa_cons z_field96_2 (fa_cons z_field96_3 (fa_cons z_field96_4 (fa_cons z_field96_5 fa_nil)))))))))))))), (fa_cons Tryd.underlying9 fa_nil), fa_nil, fa_nil, (fa_cons ⟨_, _, _, Tryd.underlying44⟩ fa_nil)⟩
def z_tym : TyM := ⟨[3, 4, 41, 65, 71, 72, 9], [(121, 2), (70, 6), (74, 11), (96, 7)], [(74, [.int .i64 0, .int .i64 0, .int .i64 0, .int .i64 0, .int .i64 0, .int .i64 0, .int .i64 0, .slice none 0 0, .slice none 0 0, .string (bstr []), .string (bstr [])], [(0, 1), (1, 6), (7, 1), (8, 1), (9, 1), (10, 1)])], []⟩
theorem z_M : TyMOk Tryd.prog z_tym := ⟨(fa_cons z_sc3 (fa_cons z_sc4 (fa_cons z_sc41 (fa_cons z_sc65 (fa_cons z_sc71 (fa_cons z_sc72 (fa_cons z_sc9 fa_nil))))))), (fa_cons z_size3 (fa_cons z_size4 (fa_cons z_size41 (fa_cons z_size65 (fa_cons z_size71 (fa_cons z_size72 (fa_cons z_size9 fa_nil))))))), (fa_cons z_agg121 (fa_cons z_agg70 (fa_cons z_agg74 (fa_cons z_agg96 fa_nil)))), (fa_cons z_size121 (fa_cons z_size70 (fa_cons z_size74 (fa_cons z_size96 fa_nil)))), (fa_cons z_struct74 fa_nil), fa_nil⟩
theorem Z {n : Nat} {c : Ctx Tryd.prog n} {σ : Sto} {gs : List Grp} (f : Nat) {ρ ρ' : Env} {k k' : List Item} (h : go z_tyf n f ρ k = some (ρ', k')) (hk : St c ρ' σ gs k') : St c ρ σ gs k := st_go z_T f h hk
theorem dA {n : Nat} {c : Ctx Tryd.prog n} {k : List Item} {ops : Array Oper} {dsts : List Nat} {L : List DT} {ρ : Env} {i : Nat} (h : dpv z_tyf n ops dsts L ρ i = dvl L i := by exact rfl) (hs : (dvl L i).isSome = true := by exact rfl) : Core c k ops dsts L ρ i := core_A z_T h hs
theorem dG {n : Nat} {c : Ctx Tryd.prog n} {k : List Item} {ops : Array Oper} {dsts : List Nat} {L : List DT} {ρ : Env} {i : Nat} (ks : List Nat) (h : DGok z_tyf n ops dsts L ρ ks i := by exact ⟨rfl, rfl, rfl⟩) : Core c k ops dsts L ρ i := core_G z_T h
theorem ZZ {n : Nat} {c : Ctx Tryd.prog n} {σ : Sto} (f : Nat) (js : List Nat) {gs gs' : List Grp} {ρ ρ' : Env} {k k' : List Item} {e : List (Nat × Nat)} (h : go2 z_tyf z_tym n f js ρ gs k = some (ρ', gs', k', e)) (he : e.map (·.1) = e.map (·.2)) (hk : St c ρ' σ gs' k') : St c ρ σ gs k := st_go2 z_T z_M f h he hk
end Go.Rel
