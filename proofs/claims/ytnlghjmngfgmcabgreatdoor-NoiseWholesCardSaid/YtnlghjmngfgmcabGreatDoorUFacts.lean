import Derived.Test.YtnlghjmngfgmcabGreatDoorProg
import Derived.Test.YtnlghjmngfgmcabGreatDoorEngU
import Derived.KernelRfl
import Derived.Test.YtnlghjmngfgmcabGreatDoorEngW
import Derived.Test.YtnlghjmngfgmcabGreatDoorEngX
import Derived.Test.YtnlghjmngfgmcabGreatDoorEngY
import Derived.Test.YtnlghjmngfgmcabGreatDoorEngZ
import Derived.Test.YtnlghjmngfgmcabGreatDoorShelf
/-! Facts of the program's types and functions. -/
namespace Go.Rel
open Go Go.Eng Go.Proofs
theorem z_zero4 : zeroT Tryz.prog 4 = some [.bool false] := by kernel_rfl
theorem z_slT22 : slT Tryz.prog 22 = some (23, 1, 24) := by kernel_rfl
theorem z_sc23 : isScalar Tryz.prog 23 = true := by kernel_rfl
theorem z_slT23 : slT Tryz.prog 23 = some (5, 1, 1) := by kernel_rfl
theorem z_zero23 : zeroT Tryz.prog 23 = some [.slice none 0 0] := by kernel_rfl
theorem z_mix : Tryz.prog.follows .mixedOrders = true := by kernel_rfl
theorem z_struct129 : structT Tryz.prog 129 = some ((cellsN (Value.int .u32) 0 1024 (List.replicate 1024 0)), [(0, 1024)]) := by kernel_rfl
theorem z_en56 : enters Tryz.prog 56 = true := by kernel_rfl
theorem z_field129_0 : fieldT Tryz.prog 129 0 = some 0 := by kernel_rfl
theorem z_arr127 : arrP Tryz.prog 127 = some (4, 126, 256) := by kernel_rfl
theorem z_arr126 : arrP Tryz.prog 126 = some (256, 57, 1) := by kernel_rfl
theorem z_size57 : sizeT Tryz.prog 57 = some 1 := by kernel_rfl
theorem z_en25 : enters Tryz.prog 25 = true := by kernel_rfl
theorem z_struct73 : structT Tryz.prog 73 = some ([.pointer none], [(0, 1)]) := by kernel_rfl
theorem z_en8 : enters Tryz.prog 8 = true := by kernel_rfl
theorem z_sc5 : isScalar Tryz.prog 5 = true := by kernel_rfl
theorem z_zero5 : zeroT Tryz.prog 5 = some [.int .u8 0] := by kernel_rfl
theorem z_slT27 : slT Tryz.prog 27 = some (3, 1, 8) := by kernel_rfl
theorem z_zero3 : zeroT Tryz.prog 3 = some [.int .i64 0] := by kernel_rfl
theorem z_en28 : enters Tryz.prog 28 = true := by kernel_rfl
theorem z_size4 : sizeT Tryz.prog 4 = some 1 := by kernel_rfl
theorem z_sc4 : isScalar Tryz.prog 4 = true := by kernel_rfl
theorem z_sc3 : isScalar Tryz.prog 3 = true := by kernel_rfl
theorem z_size3 : sizeT Tryz.prog 3 = some 1 := by kernel_rfl
theorem z_sc25 : isScalar Tryz.prog 25 = true := by kernel_rfl
theorem z_zero83 : zeroT Tryz.prog 83 = some [.map none] := by kernel_rfl
theorem z_size83 : sizeT Tryz.prog 83 = some 1 := by kernel_rfl
theorem z_sc22 : isScalar Tryz.prog 22 = true := by kernel_rfl
theorem z_en60 : enters Tryz.prog 60 = true := by kernel_rfl
theorem z_en30 : enters Tryz.prog 30 = true := by kernel_rfl
theorem z_sc83 : isScalar Tryz.prog 83 = true := by kernel_rfl
theorem z_map83 : mapT Tryz.prog 83 = some (9, 4) := by kernel_rfl
theorem z_zero61 : zeroT Tryz.prog 61 = some [.int .i64 0, .int .i64 0, .int .u32 0, .int .i64 0, .int .i64 0, .slice none 0 0] := by kernel_rfl
theorem z_struct61 : structT Tryz.prog 61 = some ([.int .i64 0, .int .i64 0, .int .u32 0, .int .i64 0, .int .i64 0, .slice none 0 0], [(0, 5), (5, 1)]) := by kernel_rfl
theorem z_size61 : sizeT Tryz.prog 61 = some 6 := by kernel_rfl
theorem z_agg61 : aggSize Tryz.prog 61 = some 6 := by kernel_rfl
theorem z_en61 : enters Tryz.prog 61 = true := by kernel_rfl
theorem z_field73_0 : fieldT Tryz.prog 73 0 = some 0 := by kernel_rfl
theorem z_sc70 : isScalar Tryz.prog 70 = true := by kernel_rfl
theorem z_en125 : enters Tryz.prog 125 = true := by kernel_rfl
theorem z_sc57 : isScalar Tryz.prog 57 = true := by kernel_rfl
theorem z_en126 : enters Tryz.prog 126 = true := by kernel_rfl
theorem z_en127 : enters Tryz.prog 127 = true := by kernel_rfl
theorem z_en99 : enters Tryz.prog 99 = true := by kernel_rfl
theorem z_zero184 : zeroT Tryz.prog 184 = some [.int .u8 0, .int .u8 0, .int .u8 0, .int .u8 0] := by kernel_rfl
theorem z_arrz184 : arrT Tryz.prog 184 = some ([.int .u8 0, .int .u8 0, .int .u8 0, .int .u8 0], 1) := by kernel_rfl
theorem z_size184 : sizeT Tryz.prog 184 = some 4 := by kernel_rfl
theorem z_agg184 : aggSize Tryz.prog 184 = some 4 := by kernel_rfl
theorem z_en98 : enters Tryz.prog 98 = true := by kernel_rfl
theorem z_arr184 : arrP Tryz.prog 184 = some (4, 5, 1) := by kernel_rfl
theorem z_info5 : (Tryz.prog.info? 5).isSome = true := by kernel_rfl
theorem z_cell5 : Program.cellsOf Tryz.prog 5 = 1 := by kernel_rfl
theorem z_eqg184 : Program.eqGuardType Tryz.prog (Program.depth Tryz.prog) 184 = false := by kernel_rfl
theorem z_en62 : enters Tryz.prog 62 = true := by kernel_rfl
theorem z_zero59 : zeroT Tryz.prog 59 = some [.int .i64 0, .int .i64 0, .int .u32 0, .int .i64 0, .int .i64 0] := by kernel_rfl
theorem z_struct59 : structT Tryz.prog 59 = some ([.int .i64 0, .int .i64 0, .int .u32 0, .int .i64 0, .int .i64 0], [(0, 1), (1, 1), (2, 1), (3, 1), (4, 1)]) := by kernel_rfl
theorem z_size59 : sizeT Tryz.prog 59 = some 5 := by kernel_rfl
theorem z_agg59 : aggSize Tryz.prog 59 = some 5 := by kernel_rfl
theorem z_struct225 : structT Tryz.prog 225 = some ([.slice none 0 0, .int .i64 0, .int .i64 0], [(0, 1), (1, 1), (2, 1)]) := by kernel_rfl
theorem z_en100 : enters Tryz.prog 100 = true := by kernel_rfl
theorem z_zero57 : zeroT Tryz.prog 57 = some [.int .u32 0] := by kernel_rfl
theorem z_field225_2 : fieldT Tryz.prog 225 2 = some 2 := by kernel_rfl
theorem z_sc46 : isScalar Tryz.prog 46 = true := by kernel_rfl
theorem z_field225_0 : fieldT Tryz.prog 225 0 = some 0 := by kernel_rfl
theorem z_field225_1 : fieldT Tryz.prog 225 1 = some 1 := by kernel_rfl
theorem z_en155 : enters Tryz.prog 155 = true := by kernel_rfl
theorem z_en172 : enters Tryz.prog 172 = true := by kernel_rfl
theorem z_en154 : enters Tryz.prog 154 = true := by kernel_rfl
theorem z_en153 : enters Tryz.prog 153 = true := by kernel_rfl
theorem z_size46 : sizeT Tryz.prog 46 = some 1 := by kernel_rfl
theorem z_en152 : enters Tryz.prog 152 = true := by kernel_rfl
theorem z_en128 : enters Tryz.prog 128 = true := by kernel_rfl
theorem z_en101 : enters Tryz.prog 101 = true := by kernel_rfl
theorem z_en102 : enters Tryz.prog 102 = true := by kernel_rfl
theorem z_en129 : enters Tryz.prog 129 = true := by kernel_rfl
theorem z_en130 : enters Tryz.prog 130 = true := by kernel_rfl
theorem z_en103 : enters Tryz.prog 103 = true := by kernel_rfl
theorem z_zero46 : zeroT Tryz.prog 46 = some [.int .i64 0] := by kernel_rfl
theorem z_field59_0 : fieldT Tryz.prog 59 0 = some 0 := by kernel_rfl
theorem z_field59_1 : fieldT Tryz.prog 59 1 = some 1 := by kernel_rfl
theorem z_field59_4 : fieldT Tryz.prog 59 4 = some 4 := by kernel_rfl
theorem z_field59_3 : fieldT Tryz.prog 59 3 = some 3 := by kernel_rfl
theorem z_en156 : enters Tryz.prog 156 = true := by kernel_rfl
theorem z_en131 : enters Tryz.prog 131 = true := by kernel_rfl
theorem z_en104 : enters Tryz.prog 104 = true := by kernel_rfl
theorem z_en63 : enters Tryz.prog 63 = true := by kernel_rfl
theorem z_en31 : enters Tryz.prog 31 = true := by kernel_rfl
theorem z_zeroV4 : zeroV Tryz.prog 4 = some (.bool false) := by kernel_rfl
theorem z_sc82 : isScalar Tryz.prog 82 = true := by kernel_rfl
theorem z_en29 : enters Tryz.prog 29 = true := by kernel_rfl
theorem z_en10 : enters Tryz.prog 10 = true := by kernel_rfl
theorem z_struct67 : structT Tryz.prog 67 = some ([.int .i64 0, .int .i64 0, .int .i64 0, .int .i64 0, .slice none 0 0], [(0, 1), (1, 1), (2, 1), (3, 1), (4, 1)]) := by kernel_rfl
theorem z_slT64 : slT Tryz.prog 64 = some (67, 5, 56) := by kernel_rfl
theorem z_zero67 : zeroT Tryz.prog 67 = some [.int .i64 0, .int .i64 0, .int .i64 0, .int .i64 0, .slice none 0 0] := by kernel_rfl
theorem z_sc64 : isScalar Tryz.prog 64 = true := by kernel_rfl
theorem z_agg67 : aggSize Tryz.prog 67 = some 5 := by kernel_rfl
theorem z_size67 : sizeT Tryz.prog 67 = some 5 := by kernel_rfl
theorem z_field67_0 : fieldT Tryz.prog 67 0 = some 0 := by kernel_rfl
theorem z_str0 : (ByteArray.mk #[]) = bstr [] := by kernel_rfl
theorem z_str1 : (ByteArray.mk #[119, 104, 111, 108, 101]) = bstr [119, 104, 111, 108, 101] := by kernel_rfl
theorem z_str2 : (ByteArray.mk #[99, 117, 116]) = bstr [99, 117, 116] := by kernel_rfl
theorem z_str3 : (ByteArray.mk #[116, 117, 114, 110]) = bstr [116, 117, 114, 110] := by kernel_rfl
theorem z_str4 : (ByteArray.mk #[106, 117, 110, 107]) = bstr [106, 117, 110, 107] := by kernel_rfl
theorem z_en64 : enters Tryz.prog 64 = true := by kernel_rfl
theorem z_field67_1 : fieldT Tryz.prog 67 1 = some 1 := by kernel_rfl
theorem z_field67_2 : fieldT Tryz.prog 67 2 = some 2 := by kernel_rfl
theorem z_field67_3 : fieldT Tryz.prog 67 3 = some 3 := by kernel_rfl
theorem z_en119 : enters Tryz.prog 119 = true := by kernel_rfl
theorem z_field67_4 : fieldT Tryz.prog 67 4 = some 4 := by kernel_rfl
theorem z_size5 : sizeT Tryz.prog 5 = some 1 := by kernel_rfl
theorem z_en93 : enters Tryz.prog 93 = true := by kernel_rfl
theorem z_en92 : enters Tryz.prog 92 = true := by kernel_rfl
theorem z_en55 : enters Tryz.prog 55 = true := by kernel_rfl
theorem z_size23 : sizeT Tryz.prog 23 = some 1 := by kernel_rfl
theorem z_en24 : enters Tryz.prog 24 = true := by kernel_rfl
theorem z_str5 : (ByteArray.mk #[106, 117, 110, 107, 32, 48, 48, 48, 57]) = bstr [106, 117, 110, 107, 32, 48, 48, 48, 57] := by kernel_rfl
theorem z_zero106 : zeroT Tryz.prog 106 = some [.slice none 0 0] := by kernel_rfl
theorem z_sc9 : isScalar Tryz.prog 9 = true := by kernel_rfl
theorem z_str6 : (ByteArray.mk #[32]) = bstr [32] := by kernel_rfl
theorem z_en147 : enters Tryz.prog 147 = true := by kernel_rfl
theorem z_size9 : sizeT Tryz.prog 9 = some 1 := by kernel_rfl
theorem z_en148 : enters Tryz.prog 148 = true := by kernel_rfl
theorem z_en146 : enters Tryz.prog 146 = true := by kernel_rfl
theorem z_en113 : enters Tryz.prog 113 = true := by kernel_rfl
theorem z_en76 : enters Tryz.prog 76 = true := by kernel_rfl
theorem z_sc155 : isScalar Tryz.prog 155 = true := by kernel_rfl
theorem z_en75 : enters Tryz.prog 75 = true := by kernel_rfl
theorem z_en41 : enters Tryz.prog 41 = true := by kernel_rfl
theorem z_sc106 : isScalar Tryz.prog 106 = true := by kernel_rfl
theorem z_slT106 : slT Tryz.prog 106 = some (9, 1, 16) := by kernel_rfl
theorem z_zero9 : zeroT Tryz.prog 9 = some [.string (bstr [])] := by kernel_rfl
theorem z_size106 : sizeT Tryz.prog 106 = some 1 := by kernel_rfl
theorem z_str7 : (ByteArray.mk #[45]) = bstr [45] := by kernel_rfl
theorem z_str8 : (ByteArray.mk #[48, 49, 50, 51, 52, 53, 54, 55, 56, 57, 97, 98, 99, 100, 101, 102]) = bstr [48, 49, 50, 51, 52, 53, 54, 55, 56, 57, 97, 98, 99, 100, 101, 102] := by kernel_rfl
theorem z_en105 : enters Tryz.prog 105 = true := by kernel_rfl
theorem z_en65 : enters Tryz.prog 65 = true := by kernel_rfl
theorem z_arrz144 : arrT Tryz.prog 144 = some ([.pointer none, .pointer none, .pointer none], 1) := by kernel_rfl
theorem z_arr144 : arrP Tryz.prog 144 = some (3, 143, 1) := by kernel_rfl
theorem z_sc143 : isScalar Tryz.prog 143 = true := by kernel_rfl
theorem z_en106 : enters Tryz.prog 106 = true := by kernel_rfl
theorem z_en163 : enters Tryz.prog 163 = true := by kernel_rfl
theorem z_en135 : enters Tryz.prog 135 = true := by kernel_rfl
theorem z_en107 : enters Tryz.prog 107 = true := by kernel_rfl
theorem z_str9 : (ByteArray.mk #[48, 49, 50, 51, 52, 53, 54, 55, 56, 57]) = bstr [48, 49, 50, 51, 52, 53, 54, 55, 56, 57] := by kernel_rfl
theorem z_en137 : enters Tryz.prog 137 = true := by kernel_rfl
theorem z_en136 : enters Tryz.prog 136 = true := by kernel_rfl
theorem z_zero234 : zeroT Tryz.prog 234 = some (cellsN Value.bool false 256 (List.replicate 256 false)) := by kernel_rfl
theorem z_agg234 : aggSize Tryz.prog 234 = some 256 := by kernel_rfl
theorem z_size234 : sizeT Tryz.prog 234 = some 256 := by kernel_rfl
theorem z_arr234 : arrP Tryz.prog 234 = some (256, 4, 1) := by kernel_rfl
theorem z_en138 : enters Tryz.prog 138 = true := by kernel_rfl
theorem z_en164 : enters Tryz.prog 164 = true := by kernel_rfl
theorem z_en140 : enters Tryz.prog 140 = true := by kernel_rfl
theorem z_en139 : enters Tryz.prog 139 = true := by kernel_rfl
theorem z_en178 : enters Tryz.prog 178 = true := by kernel_rfl
theorem z_en166 : enters Tryz.prog 166 = true := by kernel_rfl
theorem z_en186 : enters Tryz.prog 186 = true := by kernel_rfl
theorem z_en177 : enters Tryz.prog 177 = true := by kernel_rfl
theorem z_en165 : enters Tryz.prog 165 = true := by kernel_rfl
theorem z_en142 : enters Tryz.prog 142 = true := by kernel_rfl
theorem z_en141 : enters Tryz.prog 141 = true := by kernel_rfl
theorem z_en108 : enters Tryz.prog 108 = true := by kernel_rfl
theorem z_str10 : (ByteArray.mk #[48]) = bstr [48] := by kernel_rfl
theorem z_en66 : enters Tryz.prog 66 = true := by kernel_rfl
theorem z_en32 : enters Tryz.prog 32 = true := by kernel_rfl
theorem z_en11 : enters Tryz.prog 11 = true := by kernel_rfl
theorem z_en12 : enters Tryz.prog 12 = true := by kernel_rfl
theorem z_slT56 : slT Tryz.prog 56 = some (61, 6, 64) := by kernel_rfl
theorem z_field61_1 : fieldT Tryz.prog 61 1 = some 5 := by kernel_rfl
theorem z_field61_0 : fieldT Tryz.prog 61 0 = some 0 := by kernel_rfl
theorem z_en88 : enters Tryz.prog 88 = true := by kernel_rfl
theorem z_field59_2 : fieldT Tryz.prog 59 2 = some 2 := by kernel_rfl
theorem z_arrz211 : arrT Tryz.prog 211 = some ([.int .u8 0, .int .u8 0, .int .u8 0, .int .u8 0, .int .u8 0, .int .u8 0, .int .u8 0, .int .u8 0], 1) := by kernel_rfl
theorem z_zero211 : zeroT Tryz.prog 211 = some [.int .u8 0, .int .u8 0, .int .u8 0, .int .u8 0, .int .u8 0, .int .u8 0, .int .u8 0, .int .u8 0] := by kernel_rfl
theorem z_size211 : sizeT Tryz.prog 211 = some 8 := by kernel_rfl
theorem z_arr211 : arrP Tryz.prog 211 = some (8, 5, 1) := by kernel_rfl
theorem z_en89 : enters Tryz.prog 89 = true := by kernel_rfl
theorem z_en91 : enters Tryz.prog 91 = true := by kernel_rfl
theorem z_en151 : enters Tryz.prog 151 = true := by kernel_rfl
theorem z_en150 : enters Tryz.prog 150 = true := by kernel_rfl
theorem z_en118 : enters Tryz.prog 118 = true := by kernel_rfl
theorem z_en90 : enters Tryz.prog 90 = true := by kernel_rfl
theorem z_en53 : enters Tryz.prog 53 = true := by kernel_rfl
theorem z_en54 : enters Tryz.prog 54 = true := by kernel_rfl
theorem z_en23 : enters Tryz.prog 23 = true := by kernel_rfl
theorem z_size82 : sizeT Tryz.prog 82 = some 1 := by kernel_rfl
theorem z_size155 : sizeT Tryz.prog 155 = some 1 := by kernel_rfl
theorem z_agg211 : aggSize Tryz.prog 211 = some 8 := by kernel_rfl
def z_tyf : TyF := ⟨[(21, .i32), (3, .i64), (5, .u8), (57, .u32), (65, .u64)], [(129, 0, 0), (225, 0, 0), (225, 1, 1), (225, 2, 2), (59, 0, 0), (59, 1, 1), (59, 2, 2), (59, 3, 3), (59, 4, 4), (61, 0, 0), (61, 1, 5), (67, 0, 0), (67, 1, 1), (67, 2, 2), (67, 3, 3), (67, 4, 4), (73, 0, 0)], [9], [], [187, 25, 70], []⟩
theorem z_T : TyOk Tryz.prog z_tyf := ⟨(fa_cons Tryz.underlying21 (fa_cons Tryz.underlying3 (fa_cons Tryz.underlying5 (fa_cons Tryz.underlying57 (fa_cons Tryz.underlying65 fa_nil))))), (fa_cons z_field129_0 (fa_cons z_field225_0 (fa_cons z_field225_1 (fa_cons z_field225_2 (fa_cons z_field59_0 (fa_cons z_field59_1 (fa_cons z_field59_2 (fa_cons z_field59_3 (fa_cons z_field59_4 (fa_cons z_field61_0 (fa_cons z_field61_1 (fa_cons z_field67_0 (fa_cons z_field67_1 (fa_cons z_field67_2 (fa_cons z_field67_3 (fa_cons z_field67_4 (fa_cons z_field73_0 fa_nil))))))))))))))))), (fa_cons Tryz.underlying9 fa_nil), fa_nil, (fa_cons ⟨_, Tryz.underlying187⟩ (fa_cons ⟨_, Tryz.underlying25⟩ (fa_cons ⟨_, Tryz.underlying70⟩ fa_nil))), fa_nil⟩
def z_tym : TyM := ⟨[106, 155, 23, 3, 4, 46, 57, 82, 83, 9], [(184, 4), (211, 8), (59, 5), (61, 6), (67, 5)], [(59, [.int .i64 0, .int .i64 0, .int .u32 0, .int .i64 0, .int .i64 0], [(0, 1), (1, 1), (2, 1), (3, 1), (4, 1)]), (61, [.int .i64 0, .int .i64 0, .int .u32 0, .int .i64 0, .int .i64 0, .slice none 0 0], [(0, 5), (5, 1)]), (67, [.int .i64 0, .int .i64 0, .int .i64 0, .int .i64 0, .slice none 0 0], [(0, 1), (1, 1), (2, 1), (3, 1), (4, 1)]), (73, [.pointer none], [(0, 1)])], []⟩
theorem z_M : TyMOk Tryz.prog z_tym := ⟨(fa_cons z_sc106 (fa_cons z_sc155 (fa_cons z_sc23 (fa_cons z_sc3 (fa_cons z_sc4 (fa_cons z_sc46 (fa_cons z_sc57 (fa_cons z_sc82 (fa_cons z_sc83 (fa_cons z_sc9 fa_nil)))))))))), (fa_cons z_size106 (fa_cons z_size155 (fa_cons z_size23 (fa_cons z_size3 (fa_cons z_size4 (fa_cons z_size46 (fa_cons z_size57 (fa_cons z_size82 (fa_cons z_size83 (fa_cons z_size9 fa_nil)))))))))), (fa_cons z_agg184 (fa_cons z_agg211 (fa_cons z_agg59 (fa_cons z_agg61 (fa_cons z_agg67 fa_nil))))), (fa_cons z_size184 (fa_cons z_size211 (fa_cons z_size59 (fa_cons z_size61 (fa_cons z_size67 fa_nil))))), (fa_cons z_struct59 (fa_cons z_struct61 (fa_cons z_struct67 (fa_cons z_struct73 fa_nil)))), fa_nil⟩
theorem Z {n : Nat} {c : Ctx Tryz.prog n} {σ : Sto} {gs : List Grp} (f : Nat) {ρ ρ' : Env} {k k' : List Item} (h : go z_tyf n f ρ k = some (ρ', k')) (hk : St c ρ' σ gs k') : St c ρ σ gs k := st_go z_T f h hk
theorem dA {n : Nat} {c : Ctx Tryz.prog n} {k : List Item} {ops : Array Oper} {dsts : List Nat} {L : List DT} {ρ : Env} {i : Nat} (h : dpv z_tyf n ops dsts L ρ i = dvl L i := by exact rfl) (hs : (dvl L i).isSome = true := by exact rfl) : Core c k ops dsts L ρ i := core_A z_T h hs
theorem dG {n : Nat} {c : Ctx Tryz.prog n} {k : List Item} {ops : Array Oper} {dsts : List Nat} {L : List DT} {ρ : Env} {i : Nat} (ks : List Nat) (h : DGok z_tyf n ops dsts L ρ ks i := by exact ⟨rfl, rfl, rfl⟩) : Core c k ops dsts L ρ i := core_G z_T h
theorem ZZ {n : Nat} {c : Ctx Tryz.prog n} {σ : Sto} (f : Nat) (js : List Nat) {gs gs' : List Grp} {ρ ρ' : Env} {k k' : List Item} {e : List (Nat × Nat)} (h : go2 z_tyf z_tym n f js ρ gs k = some (ρ', gs', k', e)) (he : e.map (·.1) = e.map (·.2)) (hk : St c ρ' σ gs' k') : St c ρ σ gs k := st_go2 z_T z_M f h he hk
end Go.Rel
