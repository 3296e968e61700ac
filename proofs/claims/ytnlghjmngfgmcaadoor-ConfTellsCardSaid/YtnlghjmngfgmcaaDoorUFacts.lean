import Derived.Test.YtnlghjmngfgmcaaDoorProg
import Derived.Test.YtnlghjmngfgmcaaDoorEngU
import Derived.KernelRfl
import Derived.Test.YtnlghjmngfgmcaaDoorEngW
import Derived.Test.YtnlghjmngfgmcaaDoorEngX
import Derived.Test.YtnlghjmngfgmcaaDoorShelf
/-! Facts of the program's types and functions. -/
namespace Go.Rel
open Go Go.Eng Go.Proofs
theorem z_slT22 : slT Tryd.prog 22 = some (5, 1, 1) := by kernel_rfl
theorem z_str0 : (ByteArray.mk #[]) = bstr [] := by kernel_rfl
theorem z_zero5 : zeroT Tryd.prog 5 = some [.int .u8 0] := by kernel_rfl
theorem z_sc9 : isScalar Tryd.prog 9 = true := by kernel_rfl
theorem z_en73 : enters Tryd.prog 73 = true := by kernel_rfl
theorem z_mix : Tryd.prog.follows .mixedOrders = true := by kernel_rfl
theorem z_size9 : sizeT Tryd.prog 9 = some 1 := by kernel_rfl
theorem z_str3 : (ByteArray.mk #[32]) = bstr [32] := by kernel_rfl
theorem z_size36 : sizeT Tryd.prog 36 = some 1 := by kernel_rfl
theorem z_size4 : sizeT Tryd.prog 4 = some 1 := by kernel_rfl
theorem z_en111 : enters Tryd.prog 111 = true := by kernel_rfl
theorem z_en112 : enters Tryd.prog 112 = true := by kernel_rfl
theorem z_sc3 : isScalar Tryd.prog 3 = true := by kernel_rfl
theorem z_en110 : enters Tryd.prog 110 = true := by kernel_rfl
theorem z_en90 : enters Tryd.prog 90 = true := by kernel_rfl
theorem z_en77 : enters Tryd.prog 77 = true := by kernel_rfl
theorem z_sc36 : isScalar Tryd.prog 36 = true := by kernel_rfl
theorem z_sc4 : isScalar Tryd.prog 4 = true := by kernel_rfl
theorem z_str4 : (ByteArray.mk #[45]) = bstr [45] := by kernel_rfl
theorem z_zero3 : zeroT Tryd.prog 3 = some [.int .i64 0] := by kernel_rfl
theorem z_size3 : sizeT Tryd.prog 3 = some 1 := by kernel_rfl
theorem z_zero98 : zeroT Tryd.prog 98 = some [.slice none 0 0] := by kernel_rfl
theorem z_en84 : enters Tryd.prog 84 = true := by kernel_rfl
theorem z_sc126 : isScalar Tryd.prog 126 = true := by kernel_rfl
theorem z_en62 : enters Tryd.prog 62 = true := by kernel_rfl
theorem z_sc98 : isScalar Tryd.prog 98 = true := by kernel_rfl
theorem z_slT98 : slT Tryd.prog 98 = some (9, 1, 16) := by kernel_rfl
theorem z_zero9 : zeroT Tryd.prog 9 = some [.string (bstr [])] := by kernel_rfl
theorem z_size98 : sizeT Tryd.prog 98 = some 1 := by kernel_rfl
theorem z_zero38 : zeroT Tryd.prog 38 = some [.int .i64 0, .int .i64 0, .int .u32 0] := by kernel_rfl
theorem z_zero40 : zeroT Tryd.prog 40 = some [.int .u32 0, .int .i64 0] := by kernel_rfl
theorem z_zero101 : zeroT Tryd.prog 101 = some [.int .i64 0, .int .i64 0, .int .i64 0, .int .i64 0, .int .i64 0] := by kernel_rfl
theorem z_en80 : enters Tryd.prog 80 = true := by kernel_rfl
theorem z_en58 : enters Tryd.prog 58 = true := by kernel_rfl
theorem z_str26 : (ByteArray.mk #[108, 105, 110, 107]) = bstr [108, 105, 110, 107] := by kernel_rfl
theorem z_struct38 : structT Tryd.prog 38 = some ([.int .i64 0, .int .i64 0, .int .u32 0], [(0, 1), (1, 1), (2, 1)]) := by kernel_rfl
theorem z_struct40 : structT Tryd.prog 40 = some ([.int .u32 0, .int .i64 0], [(0, 1), (1, 1)]) := by kernel_rfl
theorem z_size38 : sizeT Tryd.prog 38 = some 3 := by kernel_rfl
theorem z_size40 : sizeT Tryd.prog 40 = some 2 := by kernel_rfl
theorem z_agg38 : aggSize Tryd.prog 38 = some 3 := by kernel_rfl
theorem z_agg40 : aggSize Tryd.prog 40 = some 2 := by kernel_rfl
theorem z_en81 : enters Tryd.prog 81 = true := by kernel_rfl
theorem z_en124 : enters Tryd.prog 124 = true := by kernel_rfl
theorem z_en99 : enters Tryd.prog 99 = true := by kernel_rfl
theorem z_en82 : enters Tryd.prog 82 = true := by kernel_rfl
theorem z_str27 : (ByteArray.mk #[48, 49, 50, 51, 52, 53, 54, 55, 56, 57]) = bstr [48, 49, 50, 51, 52, 53, 54, 55, 56, 57] := by kernel_rfl
theorem z_en101 : enters Tryd.prog 101 = true := by kernel_rfl
theorem z_en100 : enters Tryd.prog 100 = true := by kernel_rfl
theorem z_zero148 : zeroT Tryd.prog 148 = some (cellsN Value.bool false 256 (List.replicate 256 false)) := by kernel_rfl
theorem z_agg148 : aggSize Tryd.prog 148 = some 256 := by kernel_rfl
theorem z_size148 : sizeT Tryd.prog 148 = some 256 := by kernel_rfl
theorem z_arr148 : arrP Tryd.prog 148 = some (256, 4, 1) := by kernel_rfl
theorem z_en102 : enters Tryd.prog 102 = true := by kernel_rfl
theorem z_en125 : enters Tryd.prog 125 = true := by kernel_rfl
theorem z_en104 : enters Tryd.prog 104 = true := by kernel_rfl
theorem z_en103 : enters Tryd.prog 103 = true := by kernel_rfl
theorem z_en147 : enters Tryd.prog 147 = true := by kernel_rfl
theorem z_en127 : enters Tryd.prog 127 = true := by kernel_rfl
theorem z_en161 : enters Tryd.prog 161 = true := by kernel_rfl
theorem z_en146 : enters Tryd.prog 146 = true := by kernel_rfl
theorem z_en126 : enters Tryd.prog 126 = true := by kernel_rfl
theorem z_en106 : enters Tryd.prog 106 = true := by kernel_rfl
theorem z_en105 : enters Tryd.prog 105 = true := by kernel_rfl
theorem z_en83 : enters Tryd.prog 83 = true := by kernel_rfl
theorem z_str28 : (ByteArray.mk #[48]) = bstr [48] := by kernel_rfl
theorem z_en59 : enters Tryd.prog 59 = true := by kernel_rfl
theorem z_arr101 : arrP Tryd.prog 101 = some (5, 3, 1) := by kernel_rfl
theorem z_en60 : enters Tryd.prog 60 = true := by kernel_rfl
theorem z_field38_0 : fieldT Tryd.prog 38 0 = some 0 := by kernel_rfl
theorem z_field38_1 : fieldT Tryd.prog 38 1 = some 1 := by kernel_rfl
theorem z_en33 : enters Tryd.prog 33 = true := by kernel_rfl
theorem z_field40_1 : fieldT Tryd.prog 40 1 = some 1 := by kernel_rfl
theorem z_en34 : enters Tryd.prog 34 = true := by kernel_rfl
theorem z_en16 : enters Tryd.prog 16 = true := by kernel_rfl
theorem z_size43 : sizeT Tryd.prog 43 = some 3 := by kernel_rfl
theorem z_size44 : sizeT Tryd.prog 44 = some 2 := by kernel_rfl
theorem z_agg43 : aggSize Tryd.prog 43 = some 3 := by kernel_rfl
theorem z_agg44 : aggSize Tryd.prog 44 = some 2 := by kernel_rfl
theorem z_field43_0 : fieldT Tryd.prog 43 0 = some 0 := by kernel_rfl
theorem z_field43_1 : fieldT Tryd.prog 43 1 = some 1 := by kernel_rfl
theorem z_en30 : enters Tryd.prog 30 = true := by kernel_rfl
theorem z_field44_1 : fieldT Tryd.prog 44 1 = some 1 := by kernel_rfl
theorem z_en31 : enters Tryd.prog 31 = true := by kernel_rfl
theorem z_field38_2 : fieldT Tryd.prog 38 2 = some 2 := by kernel_rfl
theorem z_field40_0 : fieldT Tryd.prog 40 0 = some 0 := by kernel_rfl
theorem z_arrz101 : arrT Tryd.prog 101 = some ([.int .i64 0, .int .i64 0, .int .i64 0, .int .i64 0, .int .i64 0], 1) := by kernel_rfl
theorem z_en19 : enters Tryd.prog 19 = true := by kernel_rfl
theorem z_str29 : (ByteArray.mk #[108, 105, 110, 107, 32, 50, 32, 54, 52, 32, 49, 48, 32, 49, 48, 32, 52]) = bstr [108, 105, 110, 107, 32, 50, 32, 54, 52, 32, 49, 48, 32, 49, 48, 32, 52] := by kernel_rfl
theorem z_en85 : enters Tryd.prog 85 = true := by kernel_rfl
theorem z_en67 : enters Tryd.prog 67 = true := by kernel_rfl
theorem z_en65 : enters Tryd.prog 65 = true := by kernel_rfl
theorem z_en35 : enters Tryd.prog 35 = true := by kernel_rfl
theorem z_en66 : enters Tryd.prog 66 = true := by kernel_rfl
theorem z_en37 : enters Tryd.prog 37 = true := by kernel_rfl
theorem z_en18 : enters Tryd.prog 18 = true := by kernel_rfl
theorem z_en36 : enters Tryd.prog 36 = true := by kernel_rfl
theorem z_en32 : enters Tryd.prog 32 = true := by kernel_rfl
theorem z_en38 : enters Tryd.prog 38 = true := by kernel_rfl
theorem z_en39 : enters Tryd.prog 39 = true := by kernel_rfl
theorem z_en68 : enters Tryd.prog 68 = true := by kernel_rfl
theorem z_field43_2 : fieldT Tryd.prog 43 2 = some 2 := by kernel_rfl
theorem z_str35 : (ByteArray.mk #[108, 105, 110, 107, 32]) = bstr [108, 105, 110, 107, 32] := by kernel_rfl
theorem z_field44_0 : fieldT Tryd.prog 44 0 = some 0 := by kernel_rfl
theorem z_en40 : enters Tryd.prog 40 = true := by kernel_rfl
theorem z_held38 : Program.stoodInHeld Tryd.prog 38 = false := by kernel_rfl
theorem z_eqg38 : Program.eqGuardType Tryd.prog (Program.depth Tryd.prog) 38 = false := by kernel_rfl
theorem z_held40 : Program.stoodInHeld Tryd.prog 40 = false := by kernel_rfl
theorem z_eqg40 : Program.eqGuardType Tryd.prog (Program.depth Tryd.prog) 40 = false := by kernel_rfl
theorem z_size126 : sizeT Tryd.prog 126 = some 1 := by kernel_rfl
def z_tyf : TyF := ⟨[(21, .i32), (3, .i64), (36, .u32), (5, .u8)], [(38, 0, 0), (38, 1, 1), (38, 2, 2), (40, 0, 0), (40, 1, 1), (43, 0, 0), (43, 1, 1), (43, 2, 2), (44, 0, 0), (44, 1, 1)], [9], [], [], []⟩
theorem z_T : TyOk Tryd.prog z_tyf := ⟨(fa_cons Tryd.underlying21 (fa_cons Tryd.underlying3 (fa_cons Tryd.underlying36 (fa_cons Tryd.underlying5 fa_nil)))), (fa_cons z_field38_0 (fa_cons z_field38_1 (fa_cons z_field38_2 (fa_cons z_field40_0 (fa_cons z_field40_1 (fa_cons z_field43_0 (fa_cons z_field43_1 (fa_cons z_field43_2 (fa_cons z_field44_0 (fa_cons z_field44_1 fa_nil)))))))))), (fa_cons Tryd.underlying9 fa_nil), fa_nil, fa_nil, fa_nil⟩
def z_tym : TyM := ⟨[126, 3, 36, 9, 98], [(38, 3), (40, 2), (43, 3), (44, 2)], [(38, [.int .i64 0, .int .i64 0, .int .u32 0], [(0, 1), (1, 1), (2, 1)]), (40, [.int .u32 0, .int .i64 0], [(0, 1), (1, 1)])], []⟩
theorem z_M : TyMOk Tryd.prog z_tym := ⟨(fa_cons z_sc126 (fa_cons z_sc3 (fa_cons z_sc36 (fa_cons z_sc9 (fa_cons z_sc98 fa_nil))))), (fa_cons z_size126 (fa_cons z_size3 (fa_cons z_size36 (fa_cons z_size9 (fa_cons z_size98 fa_nil))))), (fa_cons z_agg38 (fa_cons z_agg40 (fa_cons z_agg43 (fa_cons z_agg44 fa_nil)))), (fa_cons z_size38 (fa_cons z_size40 (fa_cons z_size43 (fa_cons z_size44 fa_nil)))), (fa_cons z_struct38 (fa_cons z_struct40 fa_nil)), fa_nil⟩
theorem Z {n : Nat} {c : Ctx Tryd.prog n} {σ : Sto} {gs : List Grp} (f : Nat) {ρ ρ' : Env} {k k' : List Item} (h : go z_tyf n f ρ k = some (ρ', k')) (hk : St c ρ' σ gs k') : St c ρ σ gs k := st_go z_T f h hk
theorem dA {n : Nat} {c : Ctx Tryd.prog n} {k : List Item} {ops : Array Oper} {dsts : List Nat} {L : List DT} {ρ : Env} {i : Nat} (h : dpv z_tyf n ops dsts L ρ i = dvl L i := by exact rfl) (hs : (dvl L i).isSome = true := by exact rfl) : Core c k ops dsts L ρ i := core_A z_T h hs
theorem dG {n : Nat} {c : Ctx Tryd.prog n} {k : List Item} {ops : Array Oper} {dsts : List Nat} {L : List DT} {ρ : Env} {i : Nat} (ks : List Nat) (h : DGok z_tyf n ops dsts L ρ ks i := by exact ⟨rfl, rfl, rfl⟩) : Core c k ops dsts L ρ i := core_G z_T h
theorem ZZ {n : Nat} {c : Ctx Tryd.prog n} {σ : Sto} (f : Nat) (js : List Nat) {gs gs' : List Grp} {ρ ρ' : Env} {k k' : List Item} {e : List (Nat × Nat)} (h : go2 z_tyf z_tym n f js ρ gs k = some (ρ', gs', k', e)) (he : e.map (·.1) = e.map (·.2)) (hk : St c ρ' σ gs' k') : St c ρ σ gs k := st_go2 z_T z_M f h he hk
end Go.Rel
