import Derived.Test.YtkncmegjeghcmaaDoorProg
import Derived.Test.YtkncmegjeghcmaaDoorEngU
import Derived.KernelRfl
import Derived.Test.YtkncmegjeghcmaaDoorEngV
import Derived.Test.YtkncmegjeghcmaaDoorEngW
import Derived.Test.YtkncmegjeghcmaaDoorEngX
import Derived.Test.YtkncmegjeghcmaaDoorFmt
import Derived.Test.YtkncmegjeghcmaaDoorShelf
/-! Facts of the program's types and functions. -/
namespace Go.Rel
open Go Go.Eng Go.Proofs
theorem z_zero4 : zeroT Tryd.prog 4 = some [.bool false] := by kernel_rfl
theorem z_sc22 : isScalar Tryd.prog 22 = true := by kernel_rfl
theorem z_slT22 : slT Tryd.prog 22 = some (5, 1, 1) := by kernel_rfl
theorem z_size22 : sizeT Tryd.prog 22 = some 1 := by kernel_rfl
theorem z_str0 : (ByteArray.mk #[]) = bstr [] := by kernel_rfl
theorem z_zero94 : zeroT Tryd.prog 94 = some [.pointer none, .slice none 0 0] := by kernel_rfl
theorem z_zero98 : zeroT Tryd.prog 98 = some [.nilFunc] := by kernel_rfl
theorem z_size98 : sizeT Tryd.prog 98 = some 1 := by kernel_rfl
theorem z_zero5 : zeroT Tryd.prog 5 = some [.int .u8 0] := by kernel_rfl
theorem z_en63 : enters Tryd.prog 63 = true := by kernel_rfl
theorem z_en15 : enters Tryd.prog 15 = true := by kernel_rfl
theorem z_sc98 : isScalar Tryd.prog 98 = true := by kernel_rfl
theorem z_str1 : (ByteArray.mk #[48, 49, 50, 51, 52, 53, 54, 55, 56, 57, 97, 98, 99, 100, 101, 102]) = bstr [48, 49, 50, 51, 52, 53, 54, 55, 56, 57, 97, 98, 99, 100, 101, 102] := by kernel_rfl
theorem z_en81 : enters Tryd.prog 81 = true := by kernel_rfl
theorem z_field94_1 : fieldT Tryd.prog 94 1 = some 1 := by kernel_rfl
theorem z_en56 : enters Tryd.prog 56 = true := by kernel_rfl
theorem z_en55 : enters Tryd.prog 55 = true := by kernel_rfl
theorem z_sc5 : isScalar Tryd.prog 5 = true := by kernel_rfl
theorem z_en57 : enters Tryd.prog 57 = true := by kernel_rfl
theorem z_en11 : enters Tryd.prog 11 = true := by kernel_rfl
theorem z_zero22 : zeroT Tryd.prog 22 = some [.slice none 0 0] := by kernel_rfl
theorem z_zero24 : zeroT Tryd.prog 24 = some [.int .i64 0] := by kernel_rfl
theorem z_sc9 : isScalar Tryd.prog 9 = true := by kernel_rfl
theorem z_en83 : enters Tryd.prog 83 = true := by kernel_rfl
theorem z_mix : Tryd.prog.follows .mixedOrders = true := by kernel_rfl
theorem z_size9 : sizeT Tryd.prog 9 = some 1 := by kernel_rfl
theorem z_en82 : enters Tryd.prog 82 = true := by kernel_rfl
theorem z_en58 : enters Tryd.prog 58 = true := by kernel_rfl
theorem z_str2 : (ByteArray.mk #[10]) = bstr [10] := by kernel_rfl
theorem z_en108 : enters Tryd.prog 108 = true := by kernel_rfl
theorem z_en84 : enters Tryd.prog 84 = true := by kernel_rfl
theorem z_en59 : enters Tryd.prog 59 = true := by kernel_rfl
theorem z_size24 : sizeT Tryd.prog 24 = some 1 := by kernel_rfl
theorem z_zero36 : zeroT Tryd.prog 36 = some [.int .u32 0] := by kernel_rfl
theorem z_str3 : (ByteArray.mk #[32]) = bstr [32] := by kernel_rfl
theorem z_en137 : enters Tryd.prog 137 = true := by kernel_rfl
theorem z_en109 : enters Tryd.prog 109 = true := by kernel_rfl
theorem z_en85 : enters Tryd.prog 85 = true := by kernel_rfl
theorem z_en86 : enters Tryd.prog 86 = true := by kernel_rfl
theorem z_size36 : sizeT Tryd.prog 36 = some 1 := by kernel_rfl
theorem z_size4 : sizeT Tryd.prog 4 = some 1 := by kernel_rfl
theorem z_en124 : enters Tryd.prog 124 = true := by kernel_rfl
theorem z_en128 : enters Tryd.prog 128 = true := by kernel_rfl
theorem z_sc3 : isScalar Tryd.prog 3 = true := by kernel_rfl
theorem z_en127 : enters Tryd.prog 127 = true := by kernel_rfl
theorem z_en101 : enters Tryd.prog 101 = true := by kernel_rfl
theorem z_en79 : enters Tryd.prog 79 = true := by kernel_rfl
theorem z_sc36 : isScalar Tryd.prog 36 = true := by kernel_rfl
theorem z_sc4 : isScalar Tryd.prog 4 = true := by kernel_rfl
theorem z_en60 : enters Tryd.prog 60 = true := by kernel_rfl
theorem z_sc24 : isScalar Tryd.prog 24 = true := by kernel_rfl
theorem z_en12 : enters Tryd.prog 12 = true := by kernel_rfl
theorem z_str4 : (ByteArray.mk #[45]) = bstr [45] := by kernel_rfl
theorem z_en87 : enters Tryd.prog 87 = true := by kernel_rfl
theorem z_en62 : enters Tryd.prog 62 = true := by kernel_rfl
theorem z_en61 : enters Tryd.prog 61 = true := by kernel_rfl
theorem z_en13 : enters Tryd.prog 13 = true := by kernel_rfl
theorem z_en14 : enters Tryd.prog 14 = true := by kernel_rfl
theorem z_zero3 : zeroT Tryd.prog 3 = some [.int .i64 0] := by kernel_rfl
theorem z_size3 : sizeT Tryd.prog 3 = some 1 := by kernel_rfl
theorem z_zero86 : zeroT Tryd.prog 86 = some [.slice none 0 0] := by kernel_rfl
theorem z_struct220 : structT Tryd.prog 220 = some ((cellsN (Value.int .u32) 0 1024 (List.replicate 1024 0)), [(0, 1024)]) := by kernel_rfl
theorem z_en166 : enters Tryd.prog 166 = true := by kernel_rfl
theorem z_field220_0 : fieldT Tryd.prog 220 0 = some 0 := by kernel_rfl
theorem z_arr218 : arrP Tryd.prog 218 = some (4, 217, 256) := by kernel_rfl
theorem z_arr217 : arrP Tryd.prog 217 = some (256, 36, 1) := by kernel_rfl
theorem z_en138 : enters Tryd.prog 138 = true := by kernel_rfl
theorem z_struct193 : structT Tryd.prog 193 = some ([.pointer none], [(0, 1)]) := by kernel_rfl
theorem z_en111 : enters Tryd.prog 111 = true := by kernel_rfl
theorem z_zero157 : zeroT Tryd.prog 157 = some [.pointer none] := by kernel_rfl
theorem z_size157 : sizeT Tryd.prog 157 = some 1 := by kernel_rfl
theorem z_en139 : enters Tryd.prog 139 = true := by kernel_rfl
theorem z_en112 : enters Tryd.prog 112 = true := by kernel_rfl
theorem z_sc157 : isScalar Tryd.prog 157 = true := by kernel_rfl
theorem z_zero162 : zeroT Tryd.prog 162 = some [.int .i64 0, .int .i64 0, .int .u32 0, .int .i64 0, .int .i64 0, .slice none 0 0] := by kernel_rfl
theorem z_struct162 : structT Tryd.prog 162 = some ([.int .i64 0, .int .i64 0, .int .u32 0, .int .i64 0, .int .i64 0, .slice none 0 0], [(0, 5), (5, 1)]) := by kernel_rfl
theorem z_size162 : sizeT Tryd.prog 162 = some 6 := by kernel_rfl
theorem z_agg162 : aggSize Tryd.prog 162 = some 6 := by kernel_rfl
theorem z_en140 : enters Tryd.prog 140 = true := by kernel_rfl
theorem z_field193_0 : fieldT Tryd.prog 193 0 = some 0 := by kernel_rfl
theorem z_sc190 : isScalar Tryd.prog 190 = true := by kernel_rfl
theorem z_slT48 : slT Tryd.prog 48 = some (22, 1, 24) := by kernel_rfl
theorem z_en184 : enters Tryd.prog 184 = true := by kernel_rfl
theorem z_en185 : enters Tryd.prog 185 = true := by kernel_rfl
theorem z_en186 : enters Tryd.prog 186 = true := by kernel_rfl
theorem z_en168 : enters Tryd.prog 168 = true := by kernel_rfl
theorem z_zero222 : zeroT Tryd.prog 222 = some [.int .u8 0, .int .u8 0, .int .u8 0, .int .u8 0] := by kernel_rfl
theorem z_arrz222 : arrT Tryd.prog 222 = some ([.int .u8 0, .int .u8 0, .int .u8 0, .int .u8 0], 1) := by kernel_rfl
theorem z_size222 : sizeT Tryd.prog 222 = some 4 := by kernel_rfl
theorem z_agg222 : aggSize Tryd.prog 222 = some 4 := by kernel_rfl
theorem z_en167 : enters Tryd.prog 167 = true := by kernel_rfl
theorem z_arr222 : arrP Tryd.prog 222 = some (4, 5, 1) := by kernel_rfl
theorem z_info5 : (Tryd.prog.info? 5).isSome = true := by kernel_rfl
theorem z_cell5 : Program.cellsOf Tryd.prog 5 = 1 := by kernel_rfl
theorem z_eqg222 : Program.eqGuardType Tryd.prog (Program.depth Tryd.prog) 222 = false := by kernel_rfl
theorem z_en141 : enters Tryd.prog 141 = true := by kernel_rfl
theorem z_zero160 : zeroT Tryd.prog 160 = some [.int .i64 0, .int .i64 0, .int .u32 0, .int .i64 0, .int .i64 0] := by kernel_rfl
theorem z_struct160 : structT Tryd.prog 160 = some ([.int .i64 0, .int .i64 0, .int .u32 0, .int .i64 0, .int .i64 0], [(0, 1), (1, 1), (2, 1), (3, 1), (4, 1)]) := by kernel_rfl
theorem z_size160 : sizeT Tryd.prog 160 = some 5 := by kernel_rfl
theorem z_agg160 : aggSize Tryd.prog 160 = some 5 := by kernel_rfl
theorem z_struct250 : structT Tryd.prog 250 = some ([.slice none 0 0, .int .i64 0, .int .i64 0], [(0, 1), (1, 1), (2, 1)]) := by kernel_rfl
theorem z_en169 : enters Tryd.prog 169 = true := by kernel_rfl
theorem z_field250_2 : fieldT Tryd.prog 250 2 = some 2 := by kernel_rfl
theorem z_field250_0 : fieldT Tryd.prog 250 0 = some 0 := by kernel_rfl
theorem z_field250_1 : fieldT Tryd.prog 250 1 = some 1 := by kernel_rfl
theorem z_en198 : enters Tryd.prog 198 = true := by kernel_rfl
theorem z_en200 : enters Tryd.prog 200 = true := by kernel_rfl
theorem z_en197 : enters Tryd.prog 197 = true := by kernel_rfl
theorem z_en196 : enters Tryd.prog 196 = true := by kernel_rfl
theorem z_en195 : enters Tryd.prog 195 = true := by kernel_rfl
theorem z_en187 : enters Tryd.prog 187 = true := by kernel_rfl
theorem z_en170 : enters Tryd.prog 170 = true := by kernel_rfl
theorem z_en171 : enters Tryd.prog 171 = true := by kernel_rfl
theorem z_en188 : enters Tryd.prog 188 = true := by kernel_rfl
theorem z_en189 : enters Tryd.prog 189 = true := by kernel_rfl
theorem z_en172 : enters Tryd.prog 172 = true := by kernel_rfl
theorem z_field160_0 : fieldT Tryd.prog 160 0 = some 0 := by kernel_rfl
theorem z_field160_1 : fieldT Tryd.prog 160 1 = some 1 := by kernel_rfl
theorem z_field160_4 : fieldT Tryd.prog 160 4 = some 4 := by kernel_rfl
theorem z_field160_3 : fieldT Tryd.prog 160 3 = some 3 := by kernel_rfl
theorem z_en199 : enters Tryd.prog 199 = true := by kernel_rfl
theorem z_en190 : enters Tryd.prog 190 = true := by kernel_rfl
theorem z_en173 : enters Tryd.prog 173 = true := by kernel_rfl
theorem z_en142 : enters Tryd.prog 142 = true := by kernel_rfl
theorem z_en113 : enters Tryd.prog 113 = true := by kernel_rfl
theorem z_str5 : (ByteArray.mk #[108, 111, 110, 103]) = bstr [108, 111, 110, 103] := by kernel_rfl
theorem z_str6 : (ByteArray.mk #[102, 111, 114, 109]) = bstr [102, 111, 114, 109] := by kernel_rfl
theorem z_str7 : (ByteArray.mk #[101, 110, 100]) = bstr [101, 110, 100] := by kernel_rfl
theorem z_str8 : (ByteArray.mk #[114, 97, 110, 103, 101]) = bstr [114, 97, 110, 103, 101] := by kernel_rfl
theorem z_str9 : (ByteArray.mk #[109, 97, 110, 121]) = bstr [109, 97, 110, 121] := by kernel_rfl
theorem z_str10 : (ByteArray.mk #[107, 105, 110, 100]) = bstr [107, 105, 110, 100] := by kernel_rfl
theorem z_str11 : (ByteArray.mk #[118, 101, 114, 115, 105, 111, 110]) = bstr [118, 101, 114, 115, 105, 111, 110] := by kernel_rfl
theorem z_str12 : (ByteArray.mk #[115, 117, 109]) = bstr [115, 117, 109] := by kernel_rfl
theorem z_str13 : (ByteArray.mk #[115, 116, 117, 102, 102]) = bstr [115, 116, 117, 102, 102] := by kernel_rfl
theorem z_str14 : (ByteArray.mk #[115, 104, 111, 114, 116]) = bstr [115, 104, 111, 114, 116] := by kernel_rfl
theorem z_str15 : (ByteArray.mk #[115, 101, 101, 110]) = bstr [115, 101, 101, 110] := by kernel_rfl
theorem z_str16 : (ByteArray.mk #[111, 108, 100]) = bstr [111, 108, 100] := by kernel_rfl
theorem z_str17 : (ByteArray.mk #[116, 119, 105, 99, 101]) = bstr [116, 119, 105, 99, 101] := by kernel_rfl
theorem z_str18 : (ByteArray.mk #[109, 101, 101, 116]) = bstr [109, 101, 101, 116] := by kernel_rfl
theorem z_str19 : (ByteArray.mk #[108, 97, 116, 101]) = bstr [108, 97, 116, 101] := by kernel_rfl
theorem z_str20 : (ByteArray.mk #[116, 101, 120, 116]) = bstr [116, 101, 120, 116] := by kernel_rfl
theorem z_en114 : enters Tryd.prog 114 = true := by kernel_rfl
theorem z_field162_0 : fieldT Tryd.prog 162 0 = some 0 := by kernel_rfl
theorem z_en74 : enters Tryd.prog 74 = true := by kernel_rfl
theorem z_str21 : (ByteArray.mk #[118, 32]) = bstr [118, 32] := by kernel_rfl
theorem z_str22 : (ByteArray.mk #[32, 107, 32]) = bstr [32, 107, 32] := by kernel_rfl
theorem z_field160_2 : fieldT Tryd.prog 160 2 = some 2 := by kernel_rfl
theorem z_en191 : enters Tryd.prog 191 = true := by kernel_rfl
theorem z_en174 : enters Tryd.prog 174 = true := by kernel_rfl
theorem z_str23 : (ByteArray.mk #[47]) = bstr [47] := by kernel_rfl
theorem z_en143 : enters Tryd.prog 143 = true := by kernel_rfl
theorem z_field162_1 : fieldT Tryd.prog 162 1 = some 5 := by kernel_rfl
theorem z_en115 : enters Tryd.prog 115 = true := by kernel_rfl
theorem z_sc122 : isScalar Tryd.prog 122 = true := by kernel_rfl
theorem z_en48 : enters Tryd.prog 48 = true := by kernel_rfl
theorem z_en110 : enters Tryd.prog 110 = true := by kernel_rfl
theorem z_en88 : enters Tryd.prog 88 = true := by kernel_rfl
theorem z_sc86 : isScalar Tryd.prog 86 = true := by kernel_rfl
theorem z_slT86 : slT Tryd.prog 86 = some (9, 1, 16) := by kernel_rfl
theorem z_zero9 : zeroT Tryd.prog 9 = some [.string (bstr [])] := by kernel_rfl
theorem z_size86 : sizeT Tryd.prog 86 = some 1 := by kernel_rfl
theorem z_en64 : enters Tryd.prog 64 = true := by kernel_rfl
theorem z_str24 : (ByteArray.mk #[48, 48, 48, 48, 48, 48, 48, 48, 32, 48, 48, 32, 102, 102, 10]) = bstr [48, 48, 48, 48, 48, 48, 48, 48, 32, 48, 48, 32, 102, 102, 10] := by kernel_rfl
theorem z_str25 : (ByteArray.mk #[48, 32, 115, 116, 117, 102, 102]) = bstr [48, 32, 115, 116, 117, 102, 102] := by kernel_rfl
theorem z_en16 : enters Tryd.prog 16 = true := by kernel_rfl
def z_tyf : TyF := ⟨[(169, .u64), (3, .i64), (36, .u32), (5, .u8)], [(160, 0, 0), (160, 1, 1), (160, 2, 2), (160, 3, 3), (160, 4, 4), (162, 0, 0), (162, 1, 5), (193, 0, 0), (220, 0, 0), (250, 0, 0), (250, 1, 1), (250, 2, 2), (94, 1, 1)], [9], [], [157, 190, 225], [29]⟩
theorem z_T : TyOk Tryd.prog z_tyf := ⟨(fa_cons Tryd.underlying169 (fa_cons Tryd.underlying3 (fa_cons Tryd.underlying36 (fa_cons Tryd.underlying5 fa_nil)))), (fa_cons z_field160_0 (fa_cons z_field160_1 (fa_cons z_field160_2 (fa_cons z_field160_3 (fa_cons z_field160_4 (fa_cons z_field162_0 (fa_cons z_field162_1 (fa_cons z_field193_0 (fa_cons z_field220_0 (fa_cons z_field250_0 (fa_cons z_field250_1 (fa_cons z_field250_2 (fa_cons z_field94_1 fa_nil))))))))))))), (fa_cons Tryd.underlying9 fa_nil), fa_nil, (fa_cons ⟨_, Tryd.underlying157⟩ (fa_cons ⟨_, Tryd.underlying190⟩ (fa_cons ⟨_, Tryd.underlying225⟩ fa_nil))), (fa_cons ⟨_, _, _, Tryd.underlying29⟩ fa_nil)⟩
def z_tym : TyM := ⟨[157, 22, 24, 3, 36, 4, 86, 9, 98], [(160, 5), (162, 6), (222, 4)], [(160, [.int .i64 0, .int .i64 0, .int .u32 0, .int .i64 0, .int .i64 0], [(0, 1), (1, 1), (2, 1), (3, 1), (4, 1)]), (162, [.int .i64 0, .int .i64 0, .int .u32 0, .int .i64 0, .int .i64 0, .slice none 0 0], [(0, 5), (5, 1)]), (193, [.pointer none], [(0, 1)])], []⟩
theorem z_M : TyMOk Tryd.prog z_tym := ⟨(fa_cons z_sc157 (fa_cons z_sc22 (fa_cons z_sc24 (fa_cons z_sc3 (fa_cons z_sc36 (fa_cons z_sc4 (fa_cons z_sc86 (fa_cons z_sc9 (fa_cons z_sc98 fa_nil))))))))), (fa_cons z_size157 (fa_cons z_size22 (fa_cons z_size24 (fa_cons z_size3 (fa_cons z_size36 (fa_cons z_size4 (fa_cons z_size86 (fa_cons z_size9 (fa_cons z_size98 fa_nil))))))))), (fa_cons z_agg160 (fa_cons z_agg162 (fa_cons z_agg222 fa_nil))), (fa_cons z_size160 (fa_cons z_size162 (fa_cons z_size222 fa_nil))), (fa_cons z_struct160 (fa_cons z_struct162 (fa_cons z_struct193 fa_nil))), fa_nil⟩
theorem Z {n : Nat} {c : Ctx Tryd.prog n} {σ : Sto} {gs : List Grp} (f : Nat) {ρ ρ' : Env} {k k' : List Item} (h : go z_tyf n f ρ k = some (ρ', k')) (hk : St c ρ' σ gs k') : St c ρ σ gs k := st_go z_T f h hk
theorem dA {n : Nat} {c : Ctx Tryd.prog n} {k : List Item} {ops : Array Oper} {dsts : List Nat} {L : List DT} {ρ : Env} {i : Nat} (h : dpv z_tyf n ops dsts L ρ i = dvl L i := by exact rfl) (hs : (dvl L i).isSome = true := by exact rfl) : Core c k ops dsts L ρ i := core_A z_T h hs
theorem dG {n : Nat} {c : Ctx Tryd.prog n} {k : List Item} {ops : Array Oper} {dsts : List Nat} {L : List DT} {ρ : Env} {i : Nat} (ks : List Nat) (h : DGok z_tyf n ops dsts L ρ ks i := by exact ⟨rfl, rfl, rfl⟩) : Core c k ops dsts L ρ i := core_G z_T h
theorem ZZ {n : Nat} {c : Ctx Tryd.prog n} {σ : Sto} (f : Nat) (js : List Nat) {gs gs' : List Grp} {ρ ρ' : Env} {k k' : List Item} {e : List (Nat × Nat)} (h : go2 z_tyf z_tym n f js ρ gs k = some (ρ', gs', k', e)) (he : e.map (·.1) = e.map (·.2)) (hk : St c ρ' σ gs' k') : St c ρ σ gs k := st_go2 z_T z_M f h he hk
end Go.Rel
