import Derived.Test.YtnlghjmngfgmcaaDoorProg
import Derived.Test.YtnlghjmngfgmcaaDoorEngU
import Derived.KernelRfl
import Derived.Test.YtnlghjmngfgmcaaDoorEngV
import Derived.Test.YtnlghjmngfgmcaaDoorEngW
import Derived.Test.YtnlghjmngfgmcaaDoorEngX
import Derived.Test.YtnlghjmngfgmcaaDoorFmt
import Derived.Test.YtnlghjmngfgmcaaDoorShelf
/-! Facts of the program's types and functions. -/
namespace Go.Rel
open Go Go.Eng Go.Proofs
theorem z_zero4 : zeroT Tryd.prog 4 = some [.bool false] := by kernel_rfl
theorem z_sc22 : isScalar Tryd.prog 22 = true := by kernel_rfl
theorem z_slT22 : slT Tryd.prog 22 = some (5, 1, 1) := by kernel_rfl
theorem z_size22 : sizeT Tryd.prog 22 = some 1 := by kernel_rfl
theorem z_str0 : (ByteArray.mk #[]) = bstr [] := by kernel_rfl
theorem z_zero83 : zeroT Tryd.prog 83 = some [.pointer none, .slice none 0 0] := by kernel_rfl
theorem z_zero87 : zeroT Tryd.prog 87 = some [.nilFunc] := by kernel_rfl
theorem z_size87 : sizeT Tryd.prog 87 = some 1 := by kernel_rfl
theorem z_zero5 : zeroT Tryd.prog 5 = some [.int .u8 0] := by kernel_rfl
theorem z_en54 : enters Tryd.prog 54 = true := by kernel_rfl
theorem z_en13 : enters Tryd.prog 13 = true := by kernel_rfl
theorem z_sc87 : isScalar Tryd.prog 87 = true := by kernel_rfl
theorem z_str1 : (ByteArray.mk #[48, 49, 50, 51, 52, 53, 54, 55, 56, 57, 97, 98, 99, 100, 101, 102]) = bstr [48, 49, 50, 51, 52, 53, 54, 55, 56, 57, 97, 98, 99, 100, 101, 102] := by kernel_rfl
theorem z_en71 : enters Tryd.prog 71 = true := by kernel_rfl
theorem z_field83_1 : fieldT Tryd.prog 83 1 = some 1 := by kernel_rfl
theorem z_en47 : enters Tryd.prog 47 = true := by kernel_rfl
theorem z_en46 : enters Tryd.prog 46 = true := by kernel_rfl
theorem z_sc5 : isScalar Tryd.prog 5 = true := by kernel_rfl
theorem z_en48 : enters Tryd.prog 48 = true := by kernel_rfl
theorem z_en9 : enters Tryd.prog 9 = true := by kernel_rfl
theorem z_zero22 : zeroT Tryd.prog 22 = some [.slice none 0 0] := by kernel_rfl
theorem z_zero24 : zeroT Tryd.prog 24 = some [.int .i64 0] := by kernel_rfl
theorem z_sc9 : isScalar Tryd.prog 9 = true := by kernel_rfl
theorem z_en73 : enters Tryd.prog 73 = true := by kernel_rfl
theorem z_mix : Tryd.prog.follows .mixedOrders = true := by kernel_rfl
theorem z_size9 : sizeT Tryd.prog 9 = some 1 := by kernel_rfl
theorem z_en72 : enters Tryd.prog 72 = true := by kernel_rfl
theorem z_en49 : enters Tryd.prog 49 = true := by kernel_rfl
theorem z_str2 : (ByteArray.mk #[10]) = bstr [10] := by kernel_rfl
theorem z_en88 : enters Tryd.prog 88 = true := by kernel_rfl
theorem z_en74 : enters Tryd.prog 74 = true := by kernel_rfl
theorem z_en50 : enters Tryd.prog 50 = true := by kernel_rfl
theorem z_size24 : sizeT Tryd.prog 24 = some 1 := by kernel_rfl
theorem z_zero36 : zeroT Tryd.prog 36 = some [.int .u32 0] := by kernel_rfl
theorem z_str3 : (ByteArray.mk #[32]) = bstr [32] := by kernel_rfl
theorem z_en109 : enters Tryd.prog 109 = true := by kernel_rfl
theorem z_en89 : enters Tryd.prog 89 = true := by kernel_rfl
theorem z_en75 : enters Tryd.prog 75 = true := by kernel_rfl
theorem z_en76 : enters Tryd.prog 76 = true := by kernel_rfl
theorem z_size36 : sizeT Tryd.prog 36 = some 1 := by kernel_rfl
theorem z_size4 : sizeT Tryd.prog 4 = some 1 := by kernel_rfl
theorem z_en111 : enters Tryd.prog 111 = true := by kernel_rfl
theorem z_en112 : enters Tryd.prog 112 = true := by kernel_rfl
theorem z_sc3 : isScalar Tryd.prog 3 = true := by kernel_rfl
theorem z_en110 : enters Tryd.prog 110 = true := by kernel_rfl
theorem z_en90 : enters Tryd.prog 90 = true := by kernel_rfl
theorem z_en77 : enters Tryd.prog 77 = true := by kernel_rfl
theorem z_sc36 : isScalar Tryd.prog 36 = true := by kernel_rfl
theorem z_sc4 : isScalar Tryd.prog 4 = true := by kernel_rfl
theorem z_en51 : enters Tryd.prog 51 = true := by kernel_rfl
theorem z_sc24 : isScalar Tryd.prog 24 = true := by kernel_rfl
theorem z_en10 : enters Tryd.prog 10 = true := by kernel_rfl
theorem z_str4 : (ByteArray.mk #[45]) = bstr [45] := by kernel_rfl
theorem z_en78 : enters Tryd.prog 78 = true := by kernel_rfl
theorem z_en53 : enters Tryd.prog 53 = true := by kernel_rfl
theorem z_en52 : enters Tryd.prog 52 = true := by kernel_rfl
theorem z_en12 : enters Tryd.prog 12 = true := by kernel_rfl
theorem z_size3 : sizeT Tryd.prog 3 = some 1 := by kernel_rfl
theorem z_zero98 : zeroT Tryd.prog 98 = some [.slice none 0 0] := by kernel_rfl
theorem z_struct178 : structT Tryd.prog 178 = some ((cellsN (Value.int .u32) 0 1024 (List.replicate 1024 0)), [(0, 1024)]) := by kernel_rfl
theorem z_en133 : enters Tryd.prog 133 = true := by kernel_rfl
theorem z_field178_0 : fieldT Tryd.prog 178 0 = some 0 := by kernel_rfl
theorem z_arr176 : arrP Tryd.prog 176 = some (4, 175, 256) := by kernel_rfl
theorem z_arr175 : arrP Tryd.prog 175 = some (256, 36, 1) := by kernel_rfl
theorem z_en113 : enters Tryd.prog 113 = true := by kernel_rfl
theorem z_struct159 : structT Tryd.prog 159 = some ([.pointer none], [(0, 1)]) := by kernel_rfl
theorem z_en92 : enters Tryd.prog 92 = true := by kernel_rfl
theorem z_zero135 : zeroT Tryd.prog 135 = some [.pointer none] := by kernel_rfl
theorem z_size135 : sizeT Tryd.prog 135 = some 1 := by kernel_rfl
theorem z_en114 : enters Tryd.prog 114 = true := by kernel_rfl
theorem z_en93 : enters Tryd.prog 93 = true := by kernel_rfl
theorem z_sc135 : isScalar Tryd.prog 135 = true := by kernel_rfl
theorem z_zero140 : zeroT Tryd.prog 140 = some [.int .i64 0, .int .i64 0, .int .u32 0, .int .i64 0, .int .i64 0, .slice none 0 0] := by kernel_rfl
theorem z_struct140 : structT Tryd.prog 140 = some ([.int .i64 0, .int .i64 0, .int .u32 0, .int .i64 0, .int .i64 0, .slice none 0 0], [(0, 5), (5, 1)]) := by kernel_rfl
theorem z_size140 : sizeT Tryd.prog 140 = some 6 := by kernel_rfl
theorem z_agg140 : aggSize Tryd.prog 140 = some 6 := by kernel_rfl
theorem z_en115 : enters Tryd.prog 115 = true := by kernel_rfl
theorem z_field159_0 : fieldT Tryd.prog 159 0 = some 0 := by kernel_rfl
theorem z_sc156 : isScalar Tryd.prog 156 = true := by kernel_rfl
theorem z_slT48 : slT Tryd.prog 48 = some (22, 1, 24) := by kernel_rfl
theorem z_en153 : enters Tryd.prog 153 = true := by kernel_rfl
theorem z_en154 : enters Tryd.prog 154 = true := by kernel_rfl
theorem z_en155 : enters Tryd.prog 155 = true := by kernel_rfl
theorem z_en135 : enters Tryd.prog 135 = true := by kernel_rfl
theorem z_zero180 : zeroT Tryd.prog 180 = some [.int .u8 0, .int .u8 0, .int .u8 0, .int .u8 0] := by kernel_rfl
theorem z_arrz180 : arrT Tryd.prog 180 = some ([.int .u8 0, .int .u8 0, .int .u8 0, .int .u8 0], 1) := by kernel_rfl
theorem z_size180 : sizeT Tryd.prog 180 = some 4 := by kernel_rfl
theorem z_agg180 : aggSize Tryd.prog 180 = some 4 := by kernel_rfl
theorem z_en134 : enters Tryd.prog 134 = true := by kernel_rfl
theorem z_arr180 : arrP Tryd.prog 180 = some (4, 5, 1) := by kernel_rfl
theorem z_info5 : (Tryd.prog.info? 5).isSome = true := by kernel_rfl
theorem z_cell5 : Program.cellsOf Tryd.prog 5 = 1 := by kernel_rfl
theorem z_eqg180 : Program.eqGuardType Tryd.prog (Program.depth Tryd.prog) 180 = false := by kernel_rfl
theorem z_en116 : enters Tryd.prog 116 = true := by kernel_rfl
theorem z_zero138 : zeroT Tryd.prog 138 = some [.int .i64 0, .int .i64 0, .int .u32 0, .int .i64 0, .int .i64 0] := by kernel_rfl
theorem z_struct138 : structT Tryd.prog 138 = some ([.int .i64 0, .int .i64 0, .int .u32 0, .int .i64 0, .int .i64 0], [(0, 1), (1, 1), (2, 1), (3, 1), (4, 1)]) := by kernel_rfl
theorem z_size138 : sizeT Tryd.prog 138 = some 5 := by kernel_rfl
theorem z_agg138 : aggSize Tryd.prog 138 = some 5 := by kernel_rfl
theorem z_struct208 : structT Tryd.prog 208 = some ([.slice none 0 0, .int .i64 0, .int .i64 0], [(0, 1), (1, 1), (2, 1)]) := by kernel_rfl
theorem z_en136 : enters Tryd.prog 136 = true := by kernel_rfl
theorem z_field208_2 : fieldT Tryd.prog 208 2 = some 2 := by kernel_rfl
theorem z_field208_0 : fieldT Tryd.prog 208 0 = some 0 := by kernel_rfl
theorem z_field208_1 : fieldT Tryd.prog 208 1 = some 1 := by kernel_rfl
theorem z_en170 : enters Tryd.prog 170 = true := by kernel_rfl
theorem z_en174 : enters Tryd.prog 174 = true := by kernel_rfl
theorem z_en169 : enters Tryd.prog 169 = true := by kernel_rfl
theorem z_en168 : enters Tryd.prog 168 = true := by kernel_rfl
theorem z_en167 : enters Tryd.prog 167 = true := by kernel_rfl
theorem z_en156 : enters Tryd.prog 156 = true := by kernel_rfl
theorem z_en137 : enters Tryd.prog 137 = true := by kernel_rfl
theorem z_en138 : enters Tryd.prog 138 = true := by kernel_rfl
theorem z_en157 : enters Tryd.prog 157 = true := by kernel_rfl
theorem z_en158 : enters Tryd.prog 158 = true := by kernel_rfl
theorem z_en139 : enters Tryd.prog 139 = true := by kernel_rfl
theorem z_field138_0 : fieldT Tryd.prog 138 0 = some 0 := by kernel_rfl
theorem z_field138_1 : fieldT Tryd.prog 138 1 = some 1 := by kernel_rfl
theorem z_field138_4 : fieldT Tryd.prog 138 4 = some 4 := by kernel_rfl
theorem z_field138_3 : fieldT Tryd.prog 138 3 = some 3 := by kernel_rfl
theorem z_en171 : enters Tryd.prog 171 = true := by kernel_rfl
theorem z_en159 : enters Tryd.prog 159 = true := by kernel_rfl
theorem z_en140 : enters Tryd.prog 140 = true := by kernel_rfl
theorem z_en117 : enters Tryd.prog 117 = true := by kernel_rfl
theorem z_en94 : enters Tryd.prog 94 = true := by kernel_rfl
theorem z_str5 : (ByteArray.mk #[108, 111, 110, 103]) = bstr [108, 111, 110, 103] := by kernel_rfl
theorem z_str6 : (ByteArray.mk #[102, 111, 114, 109]) = bstr [102, 111, 114, 109] := by kernel_rfl
theorem z_str7 : (ByteArray.mk #[101, 110, 100]) = bstr [101, 110, 100] := by kernel_rfl
theorem z_str8 : (ByteArray.mk #[114, 97, 110, 103, 101]) = bstr [114, 97, 110, 103, 101] := by kernel_rfl
theorem z_str9 : (ByteArray.mk #[109, 97, 110, 121]) = bstr [109, 97, 110, 121] := by kernel_rfl
theorem z_str10 : (ByteArray.mk #[107, 105, 110, 100]) = bstr [107, 105, 110, 100] := by kernel_rfl
theorem z_str11 : (ByteArray.mk #[118, 101, 114, 115, 105, 111, 110]) = bstr [118, 101, 114, 115, 105, 111, 110] := by kernel_rfl
theorem z_str12 : (ByteArray.mk #[115, 117, 109]) = bstr [115, 117, 109] := by kernel_rfl
theorem z_str13 : (ByteArray.mk #[115, 116, 117, 102, 102]) = bstr [115, 116, 117, 102, 102] := by kernel_rfl
theorem z_str14 : (ByteArray.mk #[115, 104, 111, 114, 116]) = bstr [115, 104, 111, 114, 116] := by kernel_rfl
theorem z_str15 : (ByteArray.mk #[115, 101, 101, 110]) = bstr [115, 101, 101, 110] := by kernel_rfl
theorem z_str16 : (ByteArray.mk #[111, 108, 100]) = bstr [111, 108, 100] := by kernel_rfl
theorem z_str17 : (ByteArray.mk #[116, 119, 105, 99, 101]) = bstr [116, 119, 105, 99, 101] := by kernel_rfl
theorem z_str18 : (ByteArray.mk #[109, 101, 101, 116]) = bstr [109, 101, 101, 116] := by kernel_rfl
theorem z_str19 : (ByteArray.mk #[108, 97, 116, 101]) = bstr [108, 97, 116, 101] := by kernel_rfl
theorem z_str20 : (ByteArray.mk #[116, 101, 120, 116]) = bstr [116, 101, 120, 116] := by kernel_rfl
theorem z_en95 : enters Tryd.prog 95 = true := by kernel_rfl
theorem z_field140_0 : fieldT Tryd.prog 140 0 = some 0 := by kernel_rfl
theorem z_en84 : enters Tryd.prog 84 = true := by kernel_rfl
theorem z_str21 : (ByteArray.mk #[118, 32]) = bstr [118, 32] := by kernel_rfl
theorem z_str22 : (ByteArray.mk #[32, 107, 32]) = bstr [32, 107, 32] := by kernel_rfl
theorem z_field138_2 : fieldT Tryd.prog 138 2 = some 2 := by kernel_rfl
theorem z_en160 : enters Tryd.prog 160 = true := by kernel_rfl
theorem z_en141 : enters Tryd.prog 141 = true := by kernel_rfl
theorem z_str23 : (ByteArray.mk #[47]) = bstr [47] := by kernel_rfl
theorem z_en118 : enters Tryd.prog 118 = true := by kernel_rfl
theorem z_field140_1 : fieldT Tryd.prog 140 1 = some 5 := by kernel_rfl
theorem z_en96 : enters Tryd.prog 96 = true := by kernel_rfl
theorem z_sc126 : isScalar Tryd.prog 126 = true := by kernel_rfl
theorem z_en62 : enters Tryd.prog 62 = true := by kernel_rfl
theorem z_en91 : enters Tryd.prog 91 = true := by kernel_rfl
theorem z_en79 : enters Tryd.prog 79 = true := by kernel_rfl
theorem z_sc98 : isScalar Tryd.prog 98 = true := by kernel_rfl
theorem z_slT98 : slT Tryd.prog 98 = some (9, 1, 16) := by kernel_rfl
theorem z_zero9 : zeroT Tryd.prog 9 = some [.string (bstr [])] := by kernel_rfl
theorem z_size98 : sizeT Tryd.prog 98 = some 1 := by kernel_rfl
theorem z_en55 : enters Tryd.prog 55 = true := by kernel_rfl
theorem z_str24 : (ByteArray.mk #[48, 48, 48, 48, 48, 48, 48, 48, 32, 48, 48, 32, 102, 102, 10]) = bstr [48, 48, 48, 48, 48, 48, 48, 48, 32, 48, 48, 32, 102, 102, 10] := by kernel_rfl
theorem z_str25 : (ByteArray.mk #[48, 32, 115, 116, 117, 102, 102]) = bstr [48, 32, 115, 116, 117, 102, 102] := by kernel_rfl
theorem z_en14 : enters Tryd.prog 14 = true := by kernel_rfl
theorem z_en56 : enters Tryd.prog 56 = true := by kernel_rfl
theorem z_en57 : enters Tryd.prog 57 = true := by kernel_rfl
theorem z_en15 : enters Tryd.prog 15 = true := by kernel_rfl
def z_tyf : TyF := ⟨[(166, .u64), (3, .i64), (36, .u32), (5, .u8)], [(138, 0, 0), (138, 1, 1), (138, 2, 2), (138, 3, 3), (138, 4, 4), (140, 0, 0), (140, 1, 5), (159, 0, 0), (178, 0, 0), (208, 0, 0), (208, 1, 1), (208, 2, 2), (83, 1, 1)], [9], [], [135, 156, 183], []⟩
theorem z_T : TyOk Tryd.prog z_tyf := ⟨(fa_cons Tryd.underlying166 (fa_cons Tryd.underlying3 (fa_cons Tryd.underlying36 (fa_cons Tryd.underlying5 fa_nil)))), (fa_cons z_field138_0 (fa_cons z_field138_1 (fa_cons z_field138_2 (fa_cons z_field138_3 (fa_cons z_field138_4 (fa_cons z_field140_0 (fa_cons z_field140_1 (fa_cons z_field159_0 (fa_cons z_field178_0 (fa_cons z_field208_0 (fa_cons z_field208_1 (fa_cons z_field208_2 (fa_cons z_field83_1 fa_nil))))))))))))), (fa_cons Tryd.underlying9 fa_nil), fa_nil, (fa_cons ⟨_, Tryd.underlying135⟩ (fa_cons ⟨_, Tryd.underlying156⟩ (fa_cons ⟨_, Tryd.underlying183⟩ fa_nil))), fa_nil⟩
def z_tym : TyM := ⟨[135, 22, 24, 3, 36, 4, 87, 9, 98], [(138, 5), (140, 6), (180, 4)], [(138, [.int .i64 0, .int .i64 0, .int .u32 0, .int .i64 0, .int .i64 0], [(0, 1), (1, 1), (2, 1), (3, 1), (4, 1)]), (140, [.int .i64 0, .int .i64 0, .int .u32 0, .int .i64 0, .int .i64 0, .slice none 0 0], [(0, 5), (5, 1)]), (159, [.pointer none], [(0, 1)])], []⟩
theorem z_M : TyMOk Tryd.prog z_tym := ⟨(fa_cons z_sc135 (fa_cons z_sc22 (fa_cons z_sc24 (fa_cons z_sc3 (fa_cons z_sc36 (fa_cons z_sc4 (fa_cons z_sc87 (fa_cons z_sc9 (fa_cons z_sc98 fa_nil))))))))), (fa_cons z_size135 (fa_cons z_size22 (fa_cons z_size24 (fa_cons z_size3 (fa_cons z_size36 (fa_cons z_size4 (fa_cons z_size87 (fa_cons z_size9 (fa_cons z_size98 fa_nil))))))))), (fa_cons z_agg138 (fa_cons z_agg140 (fa_cons z_agg180 fa_nil))), (fa_cons z_size138 (fa_cons z_size140 (fa_cons z_size180 fa_nil))), (fa_cons z_struct138 (fa_cons z_struct140 (fa_cons z_struct159 fa_nil))), fa_nil⟩
theorem Z {n : Nat} {c : Ctx Tryd.prog n} {σ : Sto} {gs : List Grp} (f : Nat) {ρ ρ' : Env} {k k' : List Item} (h : go z_tyf n f ρ k = some (ρ', k')) (hk : St c ρ' σ gs k') : St c ρ σ gs k := st_go z_T f h hk
theorem dA {n : Nat} {c : Ctx Tryd.prog n} {k : List Item} {ops : Array Oper} {dsts : List Nat} {L : List DT} {ρ : Env} {i : Nat} (h : dpv z_tyf n ops dsts L ρ i = dvl L i := by exact rfl) (hs : (dvl L i).isSome = true := by exact rfl) : Core c k ops dsts L ρ i := core_A z_T h hs
theorem dG {n : Nat} {c : Ctx Tryd.prog n} {k : List Item} {ops : Array Oper} {dsts : List Nat} {L : List DT} {ρ : Env} {i : Nat} (ks : List Nat) (h : DGok z_tyf n ops dsts L ρ ks i := by exact ⟨rfl, rfl, rfl⟩) : Core c k ops dsts L ρ i := core_G z_T h
theorem ZZ {n : Nat} {c : Ctx Tryd.prog n} {σ : Sto} (f : Nat) (js : List Nat) {gs gs' : List Grp} {ρ ρ' : Env} {k k' : List Item} {e : List (Nat × Nat)} (h : go2 z_tyf z_tym n f js ρ gs k = some (ρ', gs', k', e)) (he : e.map (·.1) = e.map (·.2)) (hk : St c ρ' σ gs' k') : St c ρ σ gs k := st_go2 z_T z_M f h he hk
end Go.Rel
