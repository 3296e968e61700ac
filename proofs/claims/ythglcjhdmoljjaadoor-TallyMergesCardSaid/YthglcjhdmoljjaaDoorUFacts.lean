import Derived.Test.YthglcjhdmoljjaaDoorProg
import Derived.Test.YthglcjhdmoljjaaDoorEngU
import Derived.KernelRfl
import Derived.Test.YthglcjhdmoljjaaDoorEngZ
import Derived.Test.YthglcjhdmoljjaaDoorEngZA
import Derived.Test.YthglcjhdmoljjaaDoorMaps
import Derived.Test.YthglcjhdmoljjaaDoorShelf
/-! Facts of the program's types and functions. -/
namespace Go.Rel
open Go Go.Eng Go.Proofs
theorem z_agg27 : aggSize Tryd.prog 27 = some 11 := by kernel_rfl
theorem z_zero27 : zeroT Tryd.prog 27 = some [.int .i64 0, .int .i64 0, .int .i64 0, .int .i64 0, .int .i64 0, .int .i64 0, .int .i64 0, .slice none 0 0, .slice none 0 0, .string (bstr []), .string (bstr [])] := by kernel_rfl
theorem z_field27_2 : fieldT Tryd.prog 27 2 = some 7 := by kernel_rfl
theorem z_sc24 : isScalar Tryd.prog 24 = true := by kernel_rfl
theorem z_slT24 : slT Tryd.prog 24 = some (42, 2, 16) := by kernel_rfl
theorem z_field27_3 : fieldT Tryd.prog 27 3 = some 8 := by kernel_rfl
theorem z_sc25 : isScalar Tryd.prog 25 = true := by kernel_rfl
theorem z_slT25 : slT Tryd.prog 25 = some (3, 1, 8) := by kernel_rfl
theorem z_size24 : sizeT Tryd.prog 24 = some 1 := by kernel_rfl
theorem z_mix : Tryd.prog.follows .mixedOrders = true := by kernel_rfl
theorem z_size25 : sizeT Tryd.prog 25 = some 1 := by kernel_rfl
theorem z_field27_4 : fieldT Tryd.prog 27 4 = some 9 := by kernel_rfl
theorem z_sc9 : isScalar Tryd.prog 9 = true := by kernel_rfl
theorem z_field27_5 : fieldT Tryd.prog 27 5 = some 10 := by kernel_rfl
theorem z_size9 : sizeT Tryd.prog 9 = some 1 := by kernel_rfl
theorem z_size27 : sizeT Tryd.prog 27 = some 11 := by kernel_rfl
theorem z_en7 : enters Tryd.prog 7 = true := by kernel_rfl
theorem z_zero31 : zeroT Tryd.prog 31 = some [.int .i64 0, .int .u32 0, .int .i64 0, .int .i64 0, .int .i64 0, .int .i64 0, .int .i64 0, .int .i64 0, .int .i64 0, .int .i64 0, .int .i64 0, .slice none 0 0, .slice none 0 0, .string (bstr []), .string (bstr [])] := by kernel_rfl
theorem z_zero42 : zeroT Tryd.prog 42 = some [.int .i64 0, .int .i64 0] := by kernel_rfl
theorem z_en36 : enters Tryd.prog 36 = true := by kernel_rfl
theorem z_zero3 : zeroT Tryd.prog 3 = some [.int .i64 0] := by kernel_rfl
theorem z_en37 : enters Tryd.prog 37 = true := by kernel_rfl
theorem z_en10 : enters Tryd.prog 10 = true := by kernel_rfl
theorem z_struct31 : structT Tryd.prog 31 = some ([.int .i64 0, .int .u32 0, .int .i64 0, .int .i64 0, .int .i64 0, .int .i64 0, .int .i64 0, .int .i64 0, .int .i64 0, .int .i64 0, .int .i64 0, .slice none 0 0, .slice none 0 0, .string (bstr []), .string (bstr [])], [(0, 1), (1, 1), (2, 1), (3, 1), (4, 11)]) := by kernel_rfl
theorem z_size31 : sizeT Tryd.prog 31 = some 15 := by kernel_rfl
theorem z_agg31 : aggSize Tryd.prog 31 = some 15 := by kernel_rfl
theorem z_en8 : enters Tryd.prog 8 = true := by kernel_rfl
theorem z_field27_0 : fieldT Tryd.prog 27 0 = some 0 := by kernel_rfl
theorem z_sc3 : isScalar Tryd.prog 3 = true := by kernel_rfl
theorem z_agg23 : aggSize Tryd.prog 23 = some 6 := by kernel_rfl
theorem z_field31_0 : fieldT Tryd.prog 31 0 = some 0 := by kernel_rfl
theorem z_field31_3 : fieldT Tryd.prog 31 3 = some 3 := by kernel_rfl
theorem z_sc28 : isScalar Tryd.prog 28 = true := by kernel_rfl
theorem z_field31_4 : fieldT Tryd.prog 31 4 = some 4 := by kernel_rfl
theorem z_info3 : (Tryd.prog.info? 3).isSome = true := by kernel_rfl
theorem z_cell3 : Program.cellsOf Tryd.prog 3 = 1 := by kernel_rfl
theorem z_eqg23 : Program.eqGuardType Tryd.prog (Program.depth Tryd.prog) 23 = false := by kernel_rfl
theorem z_size3 : sizeT Tryd.prog 3 = some 1 := by kernel_rfl
theorem z_struct27 : structT Tryd.prog 27 = some ([.int .i64 0, .int .i64 0, .int .i64 0, .int .i64 0, .int .i64 0, .int .i64 0, .int .i64 0, .slice none 0 0, .slice none 0 0, .string (bstr []), .string (bstr [])], [(0, 1), (1, 6), (7, 1), (8, 1), (9, 1), (10, 1)]) := by kernel_rfl
theorem z_str0 : (ByteArray.mk #[]) = bstr [] := by kernel_rfl
theorem z_en66 : enters Tryd.prog 66 = true := by kernel_rfl
theorem z_en45 : enters Tryd.prog 45 = true := by kernel_rfl
theorem z_str3 : (ByteArray.mk #[32]) = bstr [32] := by kernel_rfl
theorem z_str22 : (ByteArray.mk #[116, 101, 120, 116]) = bstr [116, 101, 120, 116] := by kernel_rfl
theorem z_arr23 : arrP Tryd.prog 23 = some (6, 3, 1) := by kernel_rfl
theorem z_str23 : (ByteArray.mk #[109, 111, 118, 101]) = bstr [109, 111, 118, 101] := by kernel_rfl
theorem z_str24 : (ByteArray.mk #[104, 111, 108, 100]) = bstr [104, 111, 108, 100] := by kernel_rfl
theorem z_str25 : (ByteArray.mk #[103, 114, 97, 110, 116]) = bstr [103, 114, 97, 110, 116] := by kernel_rfl
theorem z_str26 : (ByteArray.mk #[112, 111, 115, 101]) = bstr [112, 111, 115, 101] := by kernel_rfl
theorem z_str27 : (ByteArray.mk #[102, 97, 117, 108, 116]) = bstr [102, 97, 117, 108, 116] := by kernel_rfl
theorem z_en40 : enters Tryd.prog 40 = true := by kernel_rfl
theorem z_zero9 : zeroT Tryd.prog 9 = some [.string (bstr [])] := by kernel_rfl
theorem z_slT59 : slT Tryd.prog 59 = some (9, 1, 16) := by kernel_rfl
theorem z_str32 : (ByteArray.mk #[114, 101, 106, 101, 99, 116, 32]) = bstr [114, 101, 106, 101, 99, 116, 32] := by kernel_rfl
theorem z_str33 : (ByteArray.mk #[108, 111, 110, 103]) = bstr [108, 111, 110, 103] := by kernel_rfl
theorem z_str34 : (ByteArray.mk #[102, 111, 114, 109]) = bstr [102, 111, 114, 109] := by kernel_rfl
theorem z_str35 : (ByteArray.mk #[101, 110, 100]) = bstr [101, 110, 100] := by kernel_rfl
theorem z_str36 : (ByteArray.mk #[114, 97, 110, 103, 101]) = bstr [114, 97, 110, 103, 101] := by kernel_rfl
theorem z_str37 : (ByteArray.mk #[109, 97, 110, 121]) = bstr [109, 97, 110, 121] := by kernel_rfl
theorem z_str38 : (ByteArray.mk #[107, 105, 110, 100]) = bstr [107, 105, 110, 100] := by kernel_rfl
theorem z_str39 : (ByteArray.mk #[118, 101, 114, 115, 105, 111, 110]) = bstr [118, 101, 114, 115, 105, 111, 110] := by kernel_rfl
theorem z_str40 : (ByteArray.mk #[115, 117, 109]) = bstr [115, 117, 109] := by kernel_rfl
theorem z_str41 : (ByteArray.mk #[115, 116, 117, 102, 102]) = bstr [115, 116, 117, 102, 102] := by kernel_rfl
theorem z_str42 : (ByteArray.mk #[115, 104, 111, 114, 116]) = bstr [115, 104, 111, 114, 116] := by kernel_rfl
theorem z_str43 : (ByteArray.mk #[115, 101, 101, 110]) = bstr [115, 101, 101, 110] := by kernel_rfl
theorem z_str44 : (ByteArray.mk #[111, 108, 100]) = bstr [111, 108, 100] := by kernel_rfl
theorem z_str45 : (ByteArray.mk #[116, 119, 105, 99, 101]) = bstr [116, 119, 105, 99, 101] := by kernel_rfl
theorem z_str46 : (ByteArray.mk #[109, 101, 101, 116]) = bstr [109, 101, 101, 116] := by kernel_rfl
theorem z_str47 : (ByteArray.mk #[108, 97, 116, 101]) = bstr [108, 97, 116, 101] := by kernel_rfl
theorem z_en47 : enters Tryd.prog 47 = true := by kernel_rfl
theorem z_en14 : enters Tryd.prog 14 = true := by kernel_rfl
theorem z_slT47 : slT Tryd.prog 47 = some (31, 15, 168) := by kernel_rfl
theorem z_en41 : enters Tryd.prog 41 = true := by kernel_rfl
theorem z_en17 : enters Tryd.prog 17 = true := by kernel_rfl
theorem z_en16 : enters Tryd.prog 16 = true := by kernel_rfl
theorem z_struct78 : structT Tryd.prog 78 = some ([.int .i64 0, .int .i64 0, .int .i64 0, .int .i64 0, .int .i64 0, .int .i64 0, .int .i64 0, .int .i64 0, .map none], [(0, 1), (1, 1), (2, 6), (8, 1)]) := by kernel_rfl
theorem z_en19 : enters Tryd.prog 19 = true := by kernel_rfl
theorem z_sc48 : isScalar Tryd.prog 48 = true := by kernel_rfl
theorem z_en18 : enters Tryd.prog 18 = true := by kernel_rfl
theorem z_en42 : enters Tryd.prog 42 = true := by kernel_rfl
theorem z_en20 : enters Tryd.prog 20 = true := by kernel_rfl
theorem z_field78_0 : fieldT Tryd.prog 78 0 = some 0 := by kernel_rfl
theorem z_field78_2 : fieldT Tryd.prog 78 2 = some 2 := by kernel_rfl
theorem z_field78_3 : fieldT Tryd.prog 78 3 = some 8 := by kernel_rfl
theorem z_sc76 : isScalar Tryd.prog 76 = true := by kernel_rfl
theorem z_map76 : mapT Tryd.prog 76 = some (28, 3) := by kernel_rfl
theorem z_zeroV3 : zeroV Tryd.prog 3 = some (.int .i64 0) := by kernel_rfl
theorem z_field78_1 : fieldT Tryd.prog 78 1 = some 1 := by kernel_rfl
theorem z_str52 : (ByteArray.mk #[100, 101, 108, 105, 118, 101, 114, 101, 100, 32]) = bstr [100, 101, 108, 105, 118, 101, 114, 101, 100, 32] := by kernel_rfl
theorem z_zero59 : zeroT Tryd.prog 59 = some [.slice none 0 0] := by kernel_rfl
theorem z_size59 : sizeT Tryd.prog 59 = some 1 := by kernel_rfl
theorem z_en67 : enters Tryd.prog 67 = true := by kernel_rfl
theorem z_en46 : enters Tryd.prog 46 = true := by kernel_rfl
theorem z_sc59 : isScalar Tryd.prog 59 = true := by kernel_rfl
theorem z_en44 : enters Tryd.prog 44 = true := by kernel_rfl
theorem z_en43 : enters Tryd.prog 43 = true := by kernel_rfl
theorem z_slT82 : slT Tryd.prog 82 = some (28, 1, 8) := by kernel_rfl
theorem z_str53 : (ByteArray.mk #[101, 118, 105, 99, 116, 101, 100, 32]) = bstr [101, 118, 105, 99, 116, 101, 100, 32] := by kernel_rfl
theorem z_en27 : enters Tryd.prog 27 = true := by kernel_rfl
theorem z_str54 : (ByteArray.mk #[100, 101, 108, 105, 118, 101, 114, 101, 100, 32, 49]) = bstr [100, 101, 108, 105, 118, 101, 114, 101, 100, 32, 49] := by kernel_rfl
theorem z_str55 : (ByteArray.mk #[104, 111, 108, 100, 32, 49]) = bstr [104, 111, 108, 100, 32, 49] := by kernel_rfl
theorem z_str56 : (ByteArray.mk #[114, 101, 106, 101, 99, 116, 32, 115, 117, 109, 32, 50]) = bstr [114, 101, 106, 101, 99, 116, 32, 115, 117, 109, 32, 50] := by kernel_rfl
theorem z_str57 : (ByteArray.mk #[101, 118, 105, 99, 116, 101, 100, 32, 48]) = bstr [101, 118, 105, 99, 116, 101, 100, 32, 48] := by kernel_rfl
theorem z_en34 : enters Tryd.prog 34 = true := by kernel_rfl
theorem z_en21 : enters Tryd.prog 21 = true := by kernel_rfl
theorem z_en22 : enters Tryd.prog 22 = true := by kernel_rfl
theorem z_en23 : enters Tryd.prog 23 = true := by kernel_rfl
theorem z_en24 : enters Tryd.prog 24 = true := by kernel_rfl
theorem z_en28 : enters Tryd.prog 28 = true := by kernel_rfl
theorem z_agg78 : aggSize Tryd.prog 78 = some 9 := by kernel_rfl
theorem z_zero78 : zeroT Tryd.prog 78 = some [.int .i64 0, .int .i64 0, .int .i64 0, .int .i64 0, .int .i64 0, .int .i64 0, .int .i64 0, .int .i64 0, .map none] := by kernel_rfl
theorem z_size78 : sizeT Tryd.prog 78 = some 9 := by kernel_rfl
theorem z_en48 : enters Tryd.prog 48 = true := by kernel_rfl
theorem z_size76 : sizeT Tryd.prog 76 = some 1 := by kernel_rfl
theorem z_en49 : enters Tryd.prog 49 = true := by kernel_rfl
theorem z_en29 : enters Tryd.prog 29 = true := by kernel_rfl
theorem z_size23 : sizeT Tryd.prog 23 = some 6 := by kernel_rfl
theorem z_size48 : sizeT Tryd.prog 48 = some 1 := by kernel_rfl
def z_tyf : TyF := ⟨[], [(27, 0, 0), (27, 2, 7), (27, 3, 8), (27, 4, 9), (27, 5, 10), (31, 0, 0), (31, 3, 3), (31, 4, 4), (78, 0, 0), (78, 1, 1), (78, 2, 2), (78, 3, 8)], [9], [], [48], []⟩
theorem z_T : TyOk Tryd.prog z_tyf := ⟨fa_nil, (fa_cons z_field27_0 (fa_cons z_field27_2 (fa_cons z_field27_3 (fa_cons z_field27_4 (fa_cons z_field27_5 (fa_cons z_field31_0 (fa_cons z_field31_3 (fa_cons z_field31_4 (fa_cons z_field78_0 (fa_cons z_field78_1 (fa_cons z_field78_2 (fa_cons z_field78_3 fa_nil)))))))))))), (fa_cons Tryd.underlying9 fa_nil), fa_nil, (fa_cons ⟨_, Tryd.underlying48⟩ fa_nil), fa_nil⟩
def z_tym : TyM := ⟨[3, 48, 76, 9], [(23, 6), (27, 11), (31, 15), (78, 9)], [(27, [.int .i64 0, .int .i64 0, .int .i64 0, .int .i64 0, .int .i64 0, .int .i64 0, .int .i64 0, .slice none 0 0, .slice none 0 0, .string (bstr []), .string (bstr [])], [(0, 1), (1, 6), (7, 1), (8, 1), (9, 1), (10, 1)]), (31, [.int .i64 0, .int .u32 0, .int .i64 0, .int .i64 0, .int .i64 0, .int .i64 0, .int .i64 0, .int .i64 0, .int .i64 0, .int .i64 0, .int .i64 0, .slice none 0 0, .slice none 0 0, .string (bstr []), .string (bstr [])], [(0, 1), (1, 1), (2, 1), (3, 1), (4, 11)])], []⟩
theorem z_M : TyMOk Tryd.prog z_tym := ⟨(fa_cons z_sc3 (fa_cons z_sc48 (fa_cons z_sc76 (fa_cons z_sc9 fa_nil)))), (fa_cons z_size3 (fa_cons z_size48 (fa_cons z_size76 (fa_cons z_size9 fa_nil)))), (fa_cons z_agg23 (fa_cons z_agg27 (fa_cons z_agg31 (fa_cons z_agg78 fa_nil)))), (fa_cons z_size23 (fa_cons z_size27 (fa_cons z_size31 (fa_cons z_size78 fa_nil)))), (fa_cons z_struct27 (fa_cons z_struct31 fa_nil)), fa_nil⟩
theorem Z {n : Nat} {c : Ctx Tryd.prog n} {σ : Sto} {gs : List Grp} (f : Nat) {ρ ρ' : Env} {k k' : List Item} (h : go z_tyf n f ρ k = some (ρ', k')) (hk : St c ρ' σ gs k') : St c ρ σ gs k := st_go z_T f h hk
theorem dA {n : Nat} {c : Ctx Tryd.prog n} {k : List Item} {ops : Array Oper} {dsts : List Nat} {L : List DT} {ρ : Env} {i : Nat} (h : dpv z_tyf n ops dsts L ρ i = dvl L i := by exact rfl) (hs : (dvl L i).isSome = true := by exact rfl) : Core c k ops dsts L ρ i := core_A z_T h hs
theorem dG {n : Nat} {c : Ctx Tryd.prog n} {k : List Item} {ops : Array Oper} {dsts : List Nat} {L : List DT} {ρ : Env} {i : Nat} (ks : List Nat) (h : DGok z_tyf n ops dsts L ρ ks i := by exact ⟨rfl, rfl, rfl⟩) : Core c k ops dsts L ρ i := core_G z_T h
theorem ZZ {n : Nat} {c : Ctx Tryd.prog n} {σ : Sto} (f : Nat) (js : List Nat) {gs gs' : List Grp} {ρ ρ' : Env} {k k' : List Item} {e : List (Nat × Nat)} (h : go2 z_tyf z_tym n f js ρ gs k = some (ρ', gs', k', e)) (he : e.map (·.1) = e.map (·.2)) (hk : St c ρ' σ gs' k') : St c ρ σ gs k := st_go2 z_T z_M f h he hk
end Go.Rel
