import Derived.Test.YtnlghjmngfgmcabDoorProg
import Derived.Test.YtnlghjmngfgmcabDoorEngU
import Derived.KernelRfl
import Derived.Test.YtnlghjmngfgmcabDoorEngW
import Derived.Test.YtnlghjmngfgmcabDoorEngX
import Derived.Test.YtnlghjmngfgmcabDoorEngY
import Derived.Test.YtnlghjmngfgmcabDoorShelf
/-! Facts of the program's types and functions. -/
namespace Go.Rel
open Go Go.Eng Go.Proofs
theorem z_zero24 : zeroT Tryd.prog 24 = some [.int .i64 0, .int .i64 0, .int .i64 0, .int .i64 0, .slice none 0 0] := by kernel_rfl
theorem z_zero41 : zeroT Tryd.prog 41 = some [.slice none 0 0] := by kernel_rfl
theorem z_zero3 : zeroT Tryd.prog 3 = some [.int .i64 0] := by kernel_rfl
theorem z_size3 : sizeT Tryd.prog 3 = some 1 := by kernel_rfl
theorem z_sc9 : isScalar Tryd.prog 9 = true := by kernel_rfl
theorem z_str0 : (ByteArray.mk #[32]) = bstr [32] := by kernel_rfl
theorem z_en61 : enters Tryd.prog 61 = true := by kernel_rfl
theorem z_size9 : sizeT Tryd.prog 9 = some 1 := by kernel_rfl
theorem z_en65 : enters Tryd.prog 65 = true := by kernel_rfl
theorem z_sc3 : isScalar Tryd.prog 3 = true := by kernel_rfl
theorem z_en64 : enters Tryd.prog 64 = true := by kernel_rfl
theorem z_en45 : enters Tryd.prog 45 = true := by kernel_rfl
theorem z_en29 : enters Tryd.prog 29 = true := by kernel_rfl
theorem z_sc65 : isScalar Tryd.prog 65 = true := by kernel_rfl
theorem z_en28 : enters Tryd.prog 28 = true := by kernel_rfl
theorem z_en16 : enters Tryd.prog 16 = true := by kernel_rfl
theorem z_sc41 : isScalar Tryd.prog 41 = true := by kernel_rfl
theorem z_slT41 : slT Tryd.prog 41 = some (9, 1, 16) := by kernel_rfl
theorem z_zero9 : zeroT Tryd.prog 9 = some [.string (bstr [])] := by kernel_rfl
theorem z_size41 : sizeT Tryd.prog 41 = some 1 := by kernel_rfl
theorem z_str1 : (ByteArray.mk #[]) = bstr [] := by kernel_rfl
theorem z_str2 : (ByteArray.mk #[119, 104, 111, 108, 101]) = bstr [119, 104, 111, 108, 101] := by kernel_rfl
theorem z_str3 : (ByteArray.mk #[99, 117, 116]) = bstr [99, 117, 116] := by kernel_rfl
theorem z_str4 : (ByteArray.mk #[116, 117, 114, 110]) = bstr [116, 117, 114, 110] := by kernel_rfl
theorem z_str5 : (ByteArray.mk #[106, 117, 110, 107]) = bstr [106, 117, 110, 107] := by kernel_rfl
theorem z_en18 : enters Tryd.prog 18 = true := by kernel_rfl
theorem z_field24_0 : fieldT Tryd.prog 24 0 = some 0 := by kernel_rfl
theorem z_str6 : (ByteArray.mk #[45]) = bstr [45] := by kernel_rfl
theorem z_str7 : (ByteArray.mk #[48, 49, 50, 51, 52, 53, 54, 55, 56, 57, 97, 98, 99, 100, 101, 102]) = bstr [48, 49, 50, 51, 52, 53, 54, 55, 56, 57, 97, 98, 99, 100, 101, 102] := by kernel_rfl
theorem z_en31 : enters Tryd.prog 31 = true := by kernel_rfl
theorem z_mix : Tryd.prog.follows .mixedOrders = true := by kernel_rfl
theorem z_slT22 : slT Tryd.prog 22 = some (5, 1, 1) := by kernel_rfl
theorem z_zero5 : zeroT Tryd.prog 5 = some [.int .u8 0] := by kernel_rfl
theorem z_en19 : enters Tryd.prog 19 = true := by kernel_rfl
theorem z_field24_4 : fieldT Tryd.prog 24 4 = some 4 := by kernel_rfl
theorem z_size22 : sizeT Tryd.prog 22 = some 1 := by kernel_rfl
theorem z_struct24 : structT Tryd.prog 24 = some ([.int .i64 0, .int .i64 0, .int .i64 0, .int .i64 0, .slice none 0 0], [(0, 1), (1, 1), (2, 1), (3, 1), (4, 1)]) := by kernel_rfl
theorem z_size24 : sizeT Tryd.prog 24 = some 5 := by kernel_rfl
theorem z_agg24 : aggSize Tryd.prog 24 = some 5 := by kernel_rfl
theorem z_field24_1 : fieldT Tryd.prog 24 1 = some 1 := by kernel_rfl
theorem z_field24_2 : fieldT Tryd.prog 24 2 = some 2 := by kernel_rfl
theorem z_field24_3 : fieldT Tryd.prog 24 3 = some 3 := by kernel_rfl
theorem z_arrz52 : arrT Tryd.prog 52 = some ([.pointer none, .pointer none, .pointer none], 1) := by kernel_rfl
theorem z_arr52 : arrP Tryd.prog 52 = some (3, 51, 1) := by kernel_rfl
theorem z_sc51 : isScalar Tryd.prog 51 = true := by kernel_rfl
theorem z_en25 : enters Tryd.prog 25 = true := by kernel_rfl
theorem z_en59 : enters Tryd.prog 59 = true := by kernel_rfl
theorem z_en37 : enters Tryd.prog 37 = true := by kernel_rfl
theorem z_en26 : enters Tryd.prog 26 = true := by kernel_rfl
theorem z_str8 : (ByteArray.mk #[48, 49, 50, 51, 52, 53, 54, 55, 56, 57]) = bstr [48, 49, 50, 51, 52, 53, 54, 55, 56, 57] := by kernel_rfl
theorem z_en39 : enters Tryd.prog 39 = true := by kernel_rfl
theorem z_en38 : enters Tryd.prog 38 = true := by kernel_rfl
theorem z_zero85 : zeroT Tryd.prog 85 = some (cellsN Value.bool false 256 (List.replicate 256 false)) := by kernel_rfl
theorem z_agg85 : aggSize Tryd.prog 85 = some 256 := by kernel_rfl
theorem z_size85 : sizeT Tryd.prog 85 = some 256 := by kernel_rfl
theorem z_arr85 : arrP Tryd.prog 85 = some (256, 4, 1) := by kernel_rfl
theorem z_size4 : sizeT Tryd.prog 4 = some 1 := by kernel_rfl
theorem z_en40 : enters Tryd.prog 40 = true := by kernel_rfl
theorem z_sc4 : isScalar Tryd.prog 4 = true := by kernel_rfl
theorem z_en60 : enters Tryd.prog 60 = true := by kernel_rfl
theorem z_en42 : enters Tryd.prog 42 = true := by kernel_rfl
theorem z_en41 : enters Tryd.prog 41 = true := by kernel_rfl
theorem z_en85 : enters Tryd.prog 85 = true := by kernel_rfl
theorem z_en63 : enters Tryd.prog 63 = true := by kernel_rfl
theorem z_en101 : enters Tryd.prog 101 = true := by kernel_rfl
theorem z_en84 : enters Tryd.prog 84 = true := by kernel_rfl
theorem z_en62 : enters Tryd.prog 62 = true := by kernel_rfl
theorem z_en44 : enters Tryd.prog 44 = true := by kernel_rfl
theorem z_en43 : enters Tryd.prog 43 = true := by kernel_rfl
theorem z_en27 : enters Tryd.prog 27 = true := by kernel_rfl
theorem z_str9 : (ByteArray.mk #[48]) = bstr [48] := by kernel_rfl
theorem z_en12 : enters Tryd.prog 12 = true := by kernel_rfl
theorem z_en5 : enters Tryd.prog 5 = true := by kernel_rfl
theorem z_zero28 : zeroT Tryd.prog 28 = some [.int .i64 0, .int .i64 0, .int .i64 0, .int .i64 0, .slice none 0 0] := by kernel_rfl
theorem z_en15 : enters Tryd.prog 15 = true := by kernel_rfl
theorem z_struct28 : structT Tryd.prog 28 = some ([.int .i64 0, .int .i64 0, .int .i64 0, .int .i64 0, .slice none 0 0], [(0, 1), (1, 1), (2, 1), (3, 1), (4, 1)]) := by kernel_rfl
theorem z_size28 : sizeT Tryd.prog 28 = some 5 := by kernel_rfl
theorem z_field28_0 : fieldT Tryd.prog 28 0 = some 0 := by kernel_rfl
theorem z_agg28 : aggSize Tryd.prog 28 = some 5 := by kernel_rfl
theorem z_en32 : enters Tryd.prog 32 = true := by kernel_rfl
theorem z_en20 : enters Tryd.prog 20 = true := by kernel_rfl
theorem z_field28_4 : fieldT Tryd.prog 28 4 = some 4 := by kernel_rfl
theorem z_zero55 : zeroT Tryd.prog 55 = some [.int .i64 0, .int .i64 0, .int .i64 0] := by kernel_rfl
theorem z_en13 : enters Tryd.prog 13 = true := by kernel_rfl
theorem z_arr55 : arrP Tryd.prog 55 = some (3, 3, 1) := by kernel_rfl
theorem z_field28_1 : fieldT Tryd.prog 28 1 = some 1 := by kernel_rfl
theorem z_field28_2 : fieldT Tryd.prog 28 2 = some 2 := by kernel_rfl
theorem z_field28_3 : fieldT Tryd.prog 28 3 = some 3 := by kernel_rfl
theorem z_en6 : enters Tryd.prog 6 = true := by kernel_rfl
theorem z_slT56 : slT Tryd.prog 56 = some (22, 1, 24) := by kernel_rfl
theorem z_zero22 : zeroT Tryd.prog 22 = some [.slice none 0 0] := by kernel_rfl
theorem z_slT78 : slT Tryd.prog 78 = some (24, 5, 56) := by kernel_rfl
theorem z_sc78 : isScalar Tryd.prog 78 = true := by kernel_rfl
theorem z_sc56 : isScalar Tryd.prog 56 = true := by kernel_rfl
theorem z_en74 : enters Tryd.prog 74 = true := by kernel_rfl
theorem z_sc22 : isScalar Tryd.prog 22 = true := by kernel_rfl
theorem z_sc5 : isScalar Tryd.prog 5 = true := by kernel_rfl
theorem z_size5 : sizeT Tryd.prog 5 = some 1 := by kernel_rfl
theorem z_en52 : enters Tryd.prog 52 = true := by kernel_rfl
theorem z_en51 : enters Tryd.prog 51 = true := by kernel_rfl
theorem z_en33 : enters Tryd.prog 33 = true := by kernel_rfl
theorem z_en21 : enters Tryd.prog 21 = true := by kernel_rfl
theorem z_str10 : (ByteArray.mk #[106, 117, 110, 107, 32, 48, 48, 48, 57]) = bstr [106, 117, 110, 107, 32, 48, 48, 48, 57] := by kernel_rfl
theorem z_en22 : enters Tryd.prog 22 = true := by kernel_rfl
theorem z_en7 : enters Tryd.prog 7 = true := by kernel_rfl
theorem z_en9 : enters Tryd.prog 9 = true := by kernel_rfl
theorem z_en8 : enters Tryd.prog 8 = true := by kernel_rfl
theorem z_en23 : enters Tryd.prog 23 = true := by kernel_rfl
theorem z_arrz55 : arrT Tryd.prog 55 = some ([.int .i64 0, .int .i64 0, .int .i64 0], 1) := by kernel_rfl
theorem z_en24 : enters Tryd.prog 24 = true := by kernel_rfl
theorem z_en11 : enters Tryd.prog 11 = true := by kernel_rfl
theorem z_en10 : enters Tryd.prog 10 = true := by kernel_rfl
theorem z_size65 : sizeT Tryd.prog 65 = some 1 := by kernel_rfl
def z_tyf : TyF := ⟨[(21, .i32), (3, .i64), (5, .u8)], [(24, 0, 0), (24, 1, 1), (24, 2, 2), (24, 3, 3), (24, 4, 4), (28, 0, 0), (28, 1, 1), (28, 2, 2), (28, 3, 3), (28, 4, 4)], [9], [], [], []⟩
theorem z_T : TyOk Tryd.prog z_tyf := ⟨(fa_cons Tryd.underlying21 (fa_cons Tryd.underlying3 (fa_cons Tryd.underlying5 fa_nil))), (fa_cons z_field24_0 (fa_cons z_field24_1 (fa_cons z_field24_2 (fa_cons z_field24_3 (fa_cons z_field24_4 (fa_cons z_field28_0 (fa_cons z_field28_1 (fa_cons z_field28_2 (fa_cons z_field28_3 (fa_cons z_field28_4 fa_nil)))))))))), (fa_cons Tryd.underlying9 fa_nil), fa_nil, fa_nil, fa_nil⟩
def z_tym : TyM := ⟨[22, 3, 41, 65, 9], [(24, 5), (28, 5)], [(24, [.int .i64 0, .int .i64 0, .int .i64 0, .int .i64 0, .slice none 0 0], [(0, 1), (1, 1), (2, 1), (3, 1), (4, 1)]), (28, [.int .i64 0, .int .i64 0, .int .i64 0, .int .i64 0, .slice none 0 0], [(0, 1), (1, 1), (2, 1), (3, 1), (4, 1)])], []⟩
theorem z_M : TyMOk Tryd.prog z_tym := ⟨(fa_cons z_sc22 (fa_cons z_sc3 (fa_cons z_sc41 (fa_cons z_sc65 (fa_cons z_sc9 fa_nil))))), (fa_cons z_size22 (fa_cons z_size3 (fa_cons z_size41 (fa_cons z_size65 (fa_cons z_size9 fa_nil))))), (fa_cons z_agg24 (fa_cons z_agg28 fa_nil)), (fa_cons z_size24 (fa_cons z_size28 fa_nil)), (fa_cons z_struct24 (fa_cons z_struct28 fa_nil)), fa_nil⟩
theorem Z {n : Nat} {c : Ctx Tryd.prog n} {σ : Sto} {gs : List Grp} (f : Nat) {ρ ρ' : Env} {k k' : List Item} (h : go z_tyf n f ρ k = some (ρ', k')) (hk : St c ρ' σ gs k') : St c ρ σ gs k := st_go z_T f h hk
theorem dA {n : Nat} {c : Ctx Tryd.prog n} {k : List Item} {ops : Array Oper} {dsts : List Nat} {L : List DT} {ρ : Env} {i : Nat} (h : dpv z_tyf n ops dsts L ρ i = dvl L i := by exact rfl) (hs : (dvl L i).isSome = true := by exact rfl) : Core c k ops dsts L ρ i := core_A z_T h hs
theorem dG {n : Nat} {c : Ctx Tryd.prog n} {k : List Item} {ops : Array Oper} {dsts : List Nat} {L : List DT} {ρ : Env} {i : Nat} (ks : List Nat) (h : DGok z_tyf n ops dsts L ρ ks i := by exact ⟨rfl, rfl, rfl⟩) : Core c k ops dsts L ρ i := core_G z_T h
theorem ZZ {n : Nat} {c : Ctx Tryd.prog n} {σ : Sto} (f : Nat) (js : List Nat) {gs gs' : List Grp} {ρ ρ' : Env} {k k' : List Item} {e : List (Nat × Nat)} (h : go2 z_tyf z_tym n f js ρ gs k = some (ρ', gs', k', e)) (he : e.map (·.1) = e.map (·.2)) (hk : St c ρ' σ gs' k') : St c ρ σ gs k := st_go2 z_T z_M f h he hk
end Go.Rel
