import Derived.Test.YtnlghjmngfgmcaaDoorProg
import Derived.Test.YtnlghjmngfgmcaaDoorEngU
import Derived.KernelRfl
import Derived.Test.YtnlghjmngfgmcaaDoorEngW
import Derived.Test.YtnlghjmngfgmcaaDoorEngX
import Derived.Test.YtnlghjmngfgmcaaDoorEngY
import Derived.Test.YtnlghjmngfgmcaaDoorShelf
/-! Facts of the program's types and functions. -/
namespace Go.Rel
open Go Go.Eng Go.Proofs
theorem z_zero4 : zeroT Tryd.prog 4 = some [.bool false] := by kernel_rfl
theorem z_sc22 : isScalar Tryd.prog 22 = true := by kernel_rfl
theorem z_slT22 : slT Tryd.prog 22 = some (5, 1, 1) := by kernel_rfl
theorem z_size22 : sizeT Tryd.prog 22 = some 1 := by kernel_rfl
theorem z_str0 : (ByteArray.mk #[]) = bstr [] := by kernel_rfl
theorem z_zero5 : zeroT Tryd.prog 5 = some [.int .u8 0] := by kernel_rfl
theorem z_str1 : (ByteArray.mk #[48, 49, 50, 51, 52, 53, 54, 55, 56, 57, 97, 98, 99, 100, 101, 102]) = bstr [48, 49, 50, 51, 52, 53, 54, 55, 56, 57, 97, 98, 99, 100, 101, 102] := by kernel_rfl
theorem z_sc5 : isScalar Tryd.prog 5 = true := by kernel_rfl
theorem z_zero22 : zeroT Tryd.prog 22 = some [.slice none 0 0] := by kernel_rfl
theorem z_sc9 : isScalar Tryd.prog 9 = true := by kernel_rfl
theorem z_en73 : enters Tryd.prog 73 = true := by kernel_rfl
theorem z_mix : Tryd.prog.follows .mixedOrders = true := by kernel_rfl
theorem z_size9 : sizeT Tryd.prog 9 = some 1 := by kernel_rfl
theorem z_str3 : (ByteArray.mk #[32]) = bstr [32] := by kernel_rfl
theorem z_size4 : sizeT Tryd.prog 4 = some 1 := by kernel_rfl
theorem z_en111 : enters Tryd.prog 111 = true := by kernel_rfl
theorem z_en112 : enters Tryd.prog 112 = true := by kernel_rfl
theorem z_sc3 : isScalar Tryd.prog 3 = true := by kernel_rfl
theorem z_en110 : enters Tryd.prog 110 = true := by kernel_rfl
theorem z_en90 : enters Tryd.prog 90 = true := by kernel_rfl
theorem z_en77 : enters Tryd.prog 77 = true := by kernel_rfl
theorem z_sc4 : isScalar Tryd.prog 4 = true := by kernel_rfl
theorem z_str4 : (ByteArray.mk #[45]) = bstr [45] := by kernel_rfl
theorem z_en12 : enters Tryd.prog 12 = true := by kernel_rfl
theorem z_zero3 : zeroT Tryd.prog 3 = some [.int .i64 0] := by kernel_rfl
theorem z_size3 : sizeT Tryd.prog 3 = some 1 := by kernel_rfl
theorem z_zero98 : zeroT Tryd.prog 98 = some [.slice none 0 0] := by kernel_rfl
theorem z_slT48 : slT Tryd.prog 48 = some (22, 1, 24) := by kernel_rfl
theorem z_sc126 : isScalar Tryd.prog 126 = true := by kernel_rfl
theorem z_sc98 : isScalar Tryd.prog 98 = true := by kernel_rfl
theorem z_slT98 : slT Tryd.prog 98 = some (9, 1, 16) := by kernel_rfl
theorem z_zero9 : zeroT Tryd.prog 9 = some [.string (bstr [])] := by kernel_rfl
theorem z_size98 : sizeT Tryd.prog 98 = some 1 := by kernel_rfl
theorem z_en80 : enters Tryd.prog 80 = true := by kernel_rfl
theorem z_en58 : enters Tryd.prog 58 = true := by kernel_rfl
theorem z_en81 : enters Tryd.prog 81 = true := by kernel_rfl
theorem z_en124 : enters Tryd.prog 124 = true := by kernel_rfl
theorem z_en99 : enters Tryd.prog 99 = true := by kernel_rfl
theorem z_en82 : enters Tryd.prog 82 = true := by kernel_rfl
theorem z_str27 : (ByteArray.mk #[48, 49, 50, 51, 52, 53, 54, 55, 56, 57]) = bstr [48, 49, 50, 51, 52, 53, 54, 55, 56, 57] := by kernel_rfl
theorem z_en101 : enters Tryd.prog 101 = true := by kernel_rfl
theorem z_en100 : enters Tryd.prog 100 = true := by kernel_rfl
theorem z_zero148 : zeroT Tryd.prog 148 = some (cellsN Value.bool false 256 (List.replicate 256 false)) := by kernel_rfl
theorem z_agg148 : aggSize Tryd.prog 148 = some 256 := by kernel_rfl
theorem z_size148 : sizeT Tryd.prog 148 = some 256 := by kernel_rfl
theorem z_arr148 : arrP Tryd.prog 148 = some (256, 4, 1) := by kernel_rfl
theorem z_en102 : enters Tryd.prog 102 = true := by kernel_rfl
theorem z_en125 : enters Tryd.prog 125 = true := by kernel_rfl
theorem z_en104 : enters Tryd.prog 104 = true := by kernel_rfl
theorem z_en103 : enters Tryd.prog 103 = true := by kernel_rfl
theorem z_en147 : enters Tryd.prog 147 = true := by kernel_rfl
theorem z_en127 : enters Tryd.prog 127 = true := by kernel_rfl
theorem z_en161 : enters Tryd.prog 161 = true := by kernel_rfl
theorem z_en146 : enters Tryd.prog 146 = true := by kernel_rfl
theorem z_en126 : enters Tryd.prog 126 = true := by kernel_rfl
theorem z_en106 : enters Tryd.prog 106 = true := by kernel_rfl
theorem z_en105 : enters Tryd.prog 105 = true := by kernel_rfl
theorem z_en83 : enters Tryd.prog 83 = true := by kernel_rfl
theorem z_str28 : (ByteArray.mk #[48]) = bstr [48] := by kernel_rfl
theorem z_en59 : enters Tryd.prog 59 = true := by kernel_rfl
theorem z_sc48 : isScalar Tryd.prog 48 = true := by kernel_rfl
theorem z_en20 : enters Tryd.prog 20 = true := by kernel_rfl
theorem z_size48 : sizeT Tryd.prog 48 = some 1 := by kernel_rfl
theorem z_zero49 : zeroT Tryd.prog 49 = some [.slice none 0 0] := by kernel_rfl
theorem z_slT49 : slT Tryd.prog 49 = some (52, 5, 56) := by kernel_rfl
theorem z_agg52 : aggSize Tryd.prog 52 = some 5 := by kernel_rfl
theorem z_zero52 : zeroT Tryd.prog 52 = some [.int .i64 0, .int .i64 0, .int .i64 0, .int .i64 0, .slice none 0 0] := by kernel_rfl
theorem z_field52_4 : fieldT Tryd.prog 52 4 = some 4 := by kernel_rfl
theorem z_size52 : sizeT Tryd.prog 52 = some 5 := by kernel_rfl
theorem z_en21 : enters Tryd.prog 21 = true := by kernel_rfl
theorem z_sc49 : isScalar Tryd.prog 49 = true := by kernel_rfl
theorem z_size49 : sizeT Tryd.prog 49 = some 1 := by kernel_rfl
theorem z_zero55 : zeroT Tryd.prog 55 = some [.int .i64 0, .int .i64 0, .int .i64 0, .int .i64 0, .slice none 0 0] := by kernel_rfl
theorem z_field52_0 : fieldT Tryd.prog 52 0 = some 0 := by kernel_rfl
theorem z_field52_1 : fieldT Tryd.prog 52 1 = some 1 := by kernel_rfl
theorem z_field52_2 : fieldT Tryd.prog 52 2 = some 2 := by kernel_rfl
theorem z_field52_3 : fieldT Tryd.prog 52 3 = some 3 := by kernel_rfl
theorem z_struct55 : structT Tryd.prog 55 = some ([.int .i64 0, .int .i64 0, .int .i64 0, .int .i64 0, .slice none 0 0], [(0, 1), (1, 1), (2, 1), (3, 1), (4, 1)]) := by kernel_rfl
theorem z_size55 : sizeT Tryd.prog 55 = some 5 := by kernel_rfl
theorem z_agg55 : aggSize Tryd.prog 55 = some 5 := by kernel_rfl
theorem z_en23 : enters Tryd.prog 23 = true := by kernel_rfl
theorem z_field55_0 : fieldT Tryd.prog 55 0 = some 0 := by kernel_rfl
theorem z_field55_1 : fieldT Tryd.prog 55 1 = some 1 := by kernel_rfl
theorem z_field55_2 : fieldT Tryd.prog 55 2 = some 2 := by kernel_rfl
theorem z_field55_3 : fieldT Tryd.prog 55 3 = some 3 := by kernel_rfl
theorem z_en25 : enters Tryd.prog 25 = true := by kernel_rfl
theorem z_field55_4 : fieldT Tryd.prog 55 4 = some 4 := by kernel_rfl
theorem z_en22 : enters Tryd.prog 22 = true := by kernel_rfl
theorem z_str30 : (ByteArray.mk #[119, 104, 111, 108, 101]) = bstr [119, 104, 111, 108, 101] := by kernel_rfl
theorem z_str31 : (ByteArray.mk #[99, 117, 116]) = bstr [99, 117, 116] := by kernel_rfl
theorem z_str32 : (ByteArray.mk #[116, 117, 114, 110]) = bstr [116, 117, 114, 110] := by kernel_rfl
theorem z_str33 : (ByteArray.mk #[106, 117, 110, 107]) = bstr [106, 117, 110, 107] := by kernel_rfl
theorem z_en63 : enters Tryd.prog 63 = true := by kernel_rfl
theorem z_en24 : enters Tryd.prog 24 = true := by kernel_rfl
theorem z_size5 : sizeT Tryd.prog 5 = some 1 := by kernel_rfl
theorem z_en26 : enters Tryd.prog 26 = true := by kernel_rfl
theorem z_en64 : enters Tryd.prog 64 = true := by kernel_rfl
theorem z_en27 : enters Tryd.prog 27 = true := by kernel_rfl
theorem z_struct52 : structT Tryd.prog 52 = some ([.int .i64 0, .int .i64 0, .int .i64 0, .int .i64 0, .slice none 0 0], [(0, 1), (1, 1), (2, 1), (3, 1), (4, 1)]) := by kernel_rfl
theorem z_en29 : enters Tryd.prog 29 = true := by kernel_rfl
theorem z_str34 : (ByteArray.mk #[106, 117, 110, 107, 32, 48, 48, 48, 57]) = bstr [106, 117, 110, 107, 32, 48, 48, 48, 57] := by kernel_rfl
theorem z_en70 : enters Tryd.prog 70 = true := by kernel_rfl
theorem z_arrz117 : arrT Tryd.prog 117 = some ([.pointer none, .pointer none, .pointer none], 1) := by kernel_rfl
theorem z_arr117 : arrP Tryd.prog 117 = some (3, 116, 1) := by kernel_rfl
theorem z_sc116 : isScalar Tryd.prog 116 = true := by kernel_rfl
theorem z_en43 : enters Tryd.prog 43 = true := by kernel_rfl
theorem z_en28 : enters Tryd.prog 28 = true := by kernel_rfl
theorem z_size126 : sizeT Tryd.prog 126 = some 1 := by kernel_rfl
def z_tyf : TyF := ⟨[(21, .i32), (3, .i64), (5, .u8)], [(52, 0, 0), (52, 1, 1), (52, 2, 2), (52, 3, 3), (52, 4, 4), (55, 0, 0), (55, 1, 1), (55, 2, 2), (55, 3, 3), (55, 4, 4)], [9], [], [], [29]⟩
theorem z_T : TyOk Tryd.prog z_tyf := ⟨(fa_cons Tryd.underlying21 (fa_cons Tryd.underlying3 (fa_cons Tryd.underlying5 fa_nil))), (fa_cons z_field52_0 (fa_cons z_field52_1 (fa_cons z_field52_2 (fa_cons z_field52_3 (fa_cons z_field52_4 (fa_cons z_field55_0 (fa_cons z_field55_1 (fa_cons z_field55_2 (fa_cons z_field55_3 (fa_cons z_field55_4 fa_nil)))))))))), (fa_cons Tryd.underlying9 fa_nil), fa_nil, fa_nil, (fa_cons ⟨_, _, _, Tryd.underlying29⟩ fa_nil)⟩
def z_tym : TyM := ⟨[126, 22, 3, 4, 48, 49, 9, 98], [(52, 5), (55, 5)], [(52, [.int .i64 0, .int .i64 0, .int .i64 0, .int .i64 0, .slice none 0 0], [(0, 1), (1, 1), (2, 1), (3, 1), (4, 1)])], []⟩
theorem z_M : TyMOk Tryd.prog z_tym := ⟨(fa_cons z_sc126 (fa_cons z_sc22 (fa_cons z_sc3 (fa_cons z_sc4 (fa_cons z_sc48 (fa_cons z_sc49 (fa_cons z_sc9 (fa_cons z_sc98 fa_nil)))))))), (fa_cons z_size126 (fa_cons z_size22 (fa_cons z_size3 (fa_cons z_size4 (fa_cons z_size48 (fa_cons z_size49 (fa_cons z_size9 (fa_cons z_size98 fa_nil)))))))), (fa_cons z_agg52 (fa_cons z_agg55 fa_nil)), (fa_cons z_size52 (fa_cons z_size55 fa_nil)), (fa_cons z_struct52 fa_nil), fa_nil⟩
theorem Z {n : Nat} {c : Ctx Tryd.prog n} {σ : Sto} {gs : List Grp} (f : Nat) {ρ ρ' : Env} {k k' : List Item} (h : go z_tyf n f ρ k = some (ρ', k')) (hk : St c ρ' σ gs k') : St c ρ σ gs k := st_go z_T f h hk
theorem dA {n : Nat} {c : Ctx Tryd.prog n} {k : List Item} {ops : Array Oper} {dsts : List Nat} {L : List DT} {ρ : Env} {i : Nat} (h : dpv z_tyf n ops dsts L ρ i = dvl L i := by exact rfl) (hs : (dvl L i).isSome = true := by exact rfl) : Core c k ops dsts L ρ i := core_A z_T h hs
theorem dG {n : Nat} {c : Ctx Tryd.prog n} {k : List Item} {ops : Array Oper} {dsts : List Nat} {L : List DT} {ρ : Env} {i : Nat} (ks : List Nat) (h : DGok z_tyf n ops dsts L ρ ks i := by exact ⟨rfl, rfl, rfl⟩) : Core c k ops dsts L ρ i := core_G z_T h
theorem ZZ {n : Nat} {c : Ctx Tryd.prog n} {σ : Sto} (f : Nat) (js : List Nat) {gs gs' : List Grp} {ρ ρ' : Env} {k k' : List Item} {e : List (Nat × Nat)} (h : go2 z_tyf z_tym n f js ρ gs k = some (ρ', gs', k', e)) (he : e.map (·.1) = e.map (·.2)) (hk : St c ρ' σ gs' k') : St c ρ σ gs k := st_go2 z_T z_M f h he hk
end Go.Rel
