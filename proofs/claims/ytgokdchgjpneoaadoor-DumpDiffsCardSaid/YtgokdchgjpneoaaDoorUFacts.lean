import Derived.Test.YtgokdchgjpneoaaDoorProg
import Derived.Test.YtgokdchgjpneoaaDoorEngU
import Derived.KernelRfl
import Derived.Test.YtgokdchgjpneoaaDoorEngV
import Derived.Test.YtgokdchgjpneoaaDoorFmt
import Derived.Test.YtgokdchgjpneoaaDoorShelf
/-! Facts of the program's types and functions. -/
namespace Go.Rel
open Go Go.Eng Go.Proofs
theorem z_mix : Tryd.prog.follows .mixedOrders = true := by kernel_rfl
theorem z_sc9 : isScalar Tryd.prog 9 = true := by kernel_rfl
theorem z_sc3 : isScalar Tryd.prog 3 = true := by kernel_rfl
theorem z_str18 : (ByteArray.mk #[116, 101, 120, 116]) = bstr [116, 101, 120, 116] := by kernel_rfl
theorem z_slT67 : slT Tryd.prog 67 = some (5, 1, 1) := by kernel_rfl
theorem z_sc5 : isScalar Tryd.prog 5 = true := by kernel_rfl
theorem z_str19 : (ByteArray.mk #[]) = bstr [] := by kernel_rfl
theorem z_size3 : sizeT Tryd.prog 3 = some 1 := by kernel_rfl
theorem z_zero9 : zeroT Tryd.prog 9 = some [.string (bstr [])] := by kernel_rfl
theorem z_str25 : (ByteArray.mk #[32]) = bstr [32] := by kernel_rfl
theorem z_en93 : enters Tryd.prog 93 = true := by kernel_rfl
theorem z_en77 : enters Tryd.prog 77 = true := by kernel_rfl
theorem z_slT68 : slT Tryd.prog 68 = some (9, 1, 16) := by kernel_rfl
theorem z_str29 : (ByteArray.mk #[48, 49, 50, 51, 52, 53, 54, 55, 56, 57, 97, 98, 99, 100, 101, 102]) = bstr [48, 49, 50, 51, 52, 53, 54, 55, 56, 57, 97, 98, 99, 100, 101, 102] := by kernel_rfl
theorem z_zero5 : zeroT Tryd.prog 5 = some [.int .u8 0] := by kernel_rfl
theorem z_sc33 : isScalar Tryd.prog 33 = true := by kernel_rfl
theorem z_sc28 : isScalar Tryd.prog 28 = true := by kernel_rfl
theorem z_str36 : (ByteArray.mk #[108, 111, 110, 103]) = bstr [108, 111, 110, 103] := by kernel_rfl
theorem z_str37 : (ByteArray.mk #[102, 111, 114, 109]) = bstr [102, 111, 114, 109] := by kernel_rfl
theorem z_str38 : (ByteArray.mk #[101, 110, 100]) = bstr [101, 110, 100] := by kernel_rfl
theorem z_str39 : (ByteArray.mk #[114, 97, 110, 103, 101]) = bstr [114, 97, 110, 103, 101] := by kernel_rfl
theorem z_str40 : (ByteArray.mk #[109, 97, 110, 121]) = bstr [109, 97, 110, 121] := by kernel_rfl
theorem z_str41 : (ByteArray.mk #[107, 105, 110, 100]) = bstr [107, 105, 110, 100] := by kernel_rfl
theorem z_str42 : (ByteArray.mk #[118, 101, 114, 115, 105, 111, 110]) = bstr [118, 101, 114, 115, 105, 111, 110] := by kernel_rfl
theorem z_str43 : (ByteArray.mk #[115, 117, 109]) = bstr [115, 117, 109] := by kernel_rfl
theorem z_str44 : (ByteArray.mk #[115, 116, 117, 102, 102]) = bstr [115, 116, 117, 102, 102] := by kernel_rfl
theorem z_str45 : (ByteArray.mk #[115, 104, 111, 114, 116]) = bstr [115, 104, 111, 114, 116] := by kernel_rfl
theorem z_str46 : (ByteArray.mk #[115, 101, 101, 110]) = bstr [115, 101, 101, 110] := by kernel_rfl
theorem z_str47 : (ByteArray.mk #[111, 108, 100]) = bstr [111, 108, 100] := by kernel_rfl
theorem z_str48 : (ByteArray.mk #[116, 119, 105, 99, 101]) = bstr [116, 119, 105, 99, 101] := by kernel_rfl
theorem z_str49 : (ByteArray.mk #[109, 101, 101, 116]) = bstr [109, 101, 101, 116] := by kernel_rfl
theorem z_str50 : (ByteArray.mk #[108, 97, 116, 101]) = bstr [108, 97, 116, 101] := by kernel_rfl
theorem z_en28 : enters Tryd.prog 28 = true := by kernel_rfl
theorem z_zero33 : zeroT Tryd.prog 33 = some [.int .u32 0] := by kernel_rfl
theorem z_slT137 : slT Tryd.prog 137 = some (67, 1, 24) := by kernel_rfl
theorem z_zero67 : zeroT Tryd.prog 67 = some [.slice none 0 0] := by kernel_rfl
theorem z_sc67 : isScalar Tryd.prog 67 = true := by kernel_rfl
theorem z_en39 : enters Tryd.prog 39 = true := by kernel_rfl
theorem z_str55 : (ByteArray.mk #[118, 32]) = bstr [118, 32] := by kernel_rfl
theorem z_str56 : (ByteArray.mk #[32, 107, 32]) = bstr [32, 107, 32] := by kernel_rfl
theorem z_str57 : (ByteArray.mk #[47]) = bstr [47] := by kernel_rfl
theorem z_zero68 : zeroT Tryd.prog 68 = some [.slice none 0 0] := by kernel_rfl
theorem z_size68 : sizeT Tryd.prog 68 = some 1 := by kernel_rfl
theorem z_struct203 : structT Tryd.prog 203 = some ((cellsN (Value.int .u32) 0 1024 (List.replicate 1024 0)), [(0, 1024)]) := by kernel_rfl
theorem z_en129 : enters Tryd.prog 129 = true := by kernel_rfl
theorem z_field203_0 : fieldT Tryd.prog 203 0 = some 0 := by kernel_rfl
theorem z_arr201 : arrP Tryd.prog 201 = some (4, 200, 256) := by kernel_rfl
theorem z_arr200 : arrP Tryd.prog 200 = some (256, 33, 1) := by kernel_rfl
theorem z_size33 : sizeT Tryd.prog 33 = some 1 := by kernel_rfl
theorem z_en88 : enters Tryd.prog 88 = true := by kernel_rfl
theorem z_struct152 : structT Tryd.prog 152 = some ([.pointer none], [(0, 1)]) := by kernel_rfl
theorem z_en40 : enters Tryd.prog 40 = true := by kernel_rfl
theorem z_zero81 : zeroT Tryd.prog 81 = some [.pointer none] := by kernel_rfl
theorem z_size81 : sizeT Tryd.prog 81 = some 1 := by kernel_rfl
theorem z_en121 : enters Tryd.prog 121 = true := by kernel_rfl
theorem z_en85 : enters Tryd.prog 85 = true := by kernel_rfl
theorem z_sc81 : isScalar Tryd.prog 81 = true := by kernel_rfl
theorem z_zero87 : zeroT Tryd.prog 87 = some [.int .i64 0, .int .i64 0, .int .u32 0, .int .i64 0, .int .i64 0, .slice none 0 0] := by kernel_rfl
theorem z_struct87 : structT Tryd.prog 87 = some ([.int .i64 0, .int .i64 0, .int .u32 0, .int .i64 0, .int .i64 0, .slice none 0 0], [(0, 5), (5, 1)]) := by kernel_rfl
theorem z_size87 : sizeT Tryd.prog 87 = some 6 := by kernel_rfl
theorem z_agg87 : aggSize Tryd.prog 87 = some 6 := by kernel_rfl
theorem z_en122 : enters Tryd.prog 122 = true := by kernel_rfl
theorem z_field152_0 : fieldT Tryd.prog 152 0 = some 0 := by kernel_rfl
theorem z_sc149 : isScalar Tryd.prog 149 = true := by kernel_rfl
theorem z_en175 : enters Tryd.prog 175 = true := by kernel_rfl
theorem z_en176 : enters Tryd.prog 176 = true := by kernel_rfl
theorem z_en177 : enters Tryd.prog 177 = true := by kernel_rfl
theorem z_en154 : enters Tryd.prog 154 = true := by kernel_rfl
theorem z_zero230 : zeroT Tryd.prog 230 = some [.int .u8 0, .int .u8 0, .int .u8 0, .int .u8 0] := by kernel_rfl
theorem z_arrz230 : arrT Tryd.prog 230 = some ([.int .u8 0, .int .u8 0, .int .u8 0, .int .u8 0], 1) := by kernel_rfl
theorem z_size230 : sizeT Tryd.prog 230 = some 4 := by kernel_rfl
theorem z_agg230 : aggSize Tryd.prog 230 = some 4 := by kernel_rfl
theorem z_en153 : enters Tryd.prog 153 = true := by kernel_rfl
theorem z_arr230 : arrP Tryd.prog 230 = some (4, 5, 1) := by kernel_rfl
theorem z_info5 : (Tryd.prog.info? 5).isSome = true := by kernel_rfl
theorem z_cell5 : Program.cellsOf Tryd.prog 5 = 1 := by kernel_rfl
theorem z_eqg230 : Program.eqGuardType Tryd.prog (Program.depth Tryd.prog) 230 = false := by kernel_rfl
theorem z_en123 : enters Tryd.prog 123 = true := by kernel_rfl
theorem z_zero85 : zeroT Tryd.prog 85 = some [.int .i64 0, .int .i64 0, .int .u32 0, .int .i64 0, .int .i64 0] := by kernel_rfl
theorem z_struct85 : structT Tryd.prog 85 = some ([.int .i64 0, .int .i64 0, .int .u32 0, .int .i64 0, .int .i64 0], [(0, 1), (1, 1), (2, 1), (3, 1), (4, 1)]) := by kernel_rfl
theorem z_size85 : sizeT Tryd.prog 85 = some 5 := by kernel_rfl
theorem z_agg85 : aggSize Tryd.prog 85 = some 5 := by kernel_rfl
theorem z_struct258 : structT Tryd.prog 258 = some ([.slice none 0 0, .int .i64 0, .int .i64 0], [(0, 1), (1, 1), (2, 1)]) := by kernel_rfl
theorem z_en155 : enters Tryd.prog 155 = true := by kernel_rfl
theorem z_field258_2 : fieldT Tryd.prog 258 2 = some 2 := by kernel_rfl
theorem z_field258_0 : fieldT Tryd.prog 258 0 = some 0 := by kernel_rfl
theorem z_field258_1 : fieldT Tryd.prog 258 1 = some 1 := by kernel_rfl
theorem z_en203 : enters Tryd.prog 203 = true := by kernel_rfl
theorem z_en214 : enters Tryd.prog 214 = true := by kernel_rfl
theorem z_en202 : enters Tryd.prog 202 = true := by kernel_rfl
theorem z_en201 : enters Tryd.prog 201 = true := by kernel_rfl
theorem z_size28 : sizeT Tryd.prog 28 = some 1 := by kernel_rfl
theorem z_en200 : enters Tryd.prog 200 = true := by kernel_rfl
theorem z_en178 : enters Tryd.prog 178 = true := by kernel_rfl
theorem z_en156 : enters Tryd.prog 156 = true := by kernel_rfl
theorem z_en157 : enters Tryd.prog 157 = true := by kernel_rfl
theorem z_en179 : enters Tryd.prog 179 = true := by kernel_rfl
theorem z_en180 : enters Tryd.prog 180 = true := by kernel_rfl
theorem z_en158 : enters Tryd.prog 158 = true := by kernel_rfl
theorem z_zero28 : zeroT Tryd.prog 28 = some [.int .i64 0] := by kernel_rfl
theorem z_field85_0 : fieldT Tryd.prog 85 0 = some 0 := by kernel_rfl
theorem z_field85_1 : fieldT Tryd.prog 85 1 = some 1 := by kernel_rfl
theorem z_field85_4 : fieldT Tryd.prog 85 4 = some 4 := by kernel_rfl
theorem z_field85_3 : fieldT Tryd.prog 85 3 = some 3 := by kernel_rfl
theorem z_en161 : enters Tryd.prog 161 = true := by kernel_rfl
theorem z_en130 : enters Tryd.prog 130 = true := by kernel_rfl
theorem z_en90 : enters Tryd.prog 90 = true := by kernel_rfl
theorem z_en124 : enters Tryd.prog 124 = true := by kernel_rfl
theorem z_en86 : enters Tryd.prog 86 = true := by kernel_rfl
theorem z_field87_0 : fieldT Tryd.prog 87 0 = some 0 := by kernel_rfl
theorem z_field85_2 : fieldT Tryd.prog 85 2 = some 2 := by kernel_rfl
theorem z_en162 : enters Tryd.prog 162 = true := by kernel_rfl
theorem z_en131 : enters Tryd.prog 131 = true := by kernel_rfl
theorem z_en92 : enters Tryd.prog 92 = true := by kernel_rfl
theorem z_field87_1 : fieldT Tryd.prog 87 1 = some 5 := by kernel_rfl
theorem z_en46 : enters Tryd.prog 46 = true := by kernel_rfl
theorem z_sc142 : isScalar Tryd.prog 142 = true := by kernel_rfl
theorem z_en84 : enters Tryd.prog 84 = true := by kernel_rfl
theorem z_en34 : enters Tryd.prog 34 = true := by kernel_rfl
theorem z_sc68 : isScalar Tryd.prog 68 = true := by kernel_rfl
theorem z_en37 : enters Tryd.prog 37 = true := by kernel_rfl
theorem z_zero194 : zeroT Tryd.prog 194 = some [.pointer none, .slice none 0 0] := by kernel_rfl
theorem z_zero198 : zeroT Tryd.prog 198 = some [.nilFunc] := by kernel_rfl
theorem z_size198 : sizeT Tryd.prog 198 = some 1 := by kernel_rfl
theorem z_en160 : enters Tryd.prog 160 = true := by kernel_rfl
theorem z_en127 : enters Tryd.prog 127 = true := by kernel_rfl
theorem z_sc198 : isScalar Tryd.prog 198 = true := by kernel_rfl
theorem z_en159 : enters Tryd.prog 159 = true := by kernel_rfl
theorem z_field194_1 : fieldT Tryd.prog 194 1 = some 1 := by kernel_rfl
theorem z_size67 : sizeT Tryd.prog 67 = some 1 := by kernel_rfl
theorem z_en126 : enters Tryd.prog 126 = true := by kernel_rfl
theorem z_en125 : enters Tryd.prog 125 = true := by kernel_rfl
theorem z_en128 : enters Tryd.prog 128 = true := by kernel_rfl
theorem z_en87 : enters Tryd.prog 87 = true := by kernel_rfl
theorem z_str58 : (ByteArray.mk #[48, 48, 48, 48, 48, 48, 48, 48, 32, 48, 48, 32, 102, 102, 10]) = bstr [48, 48, 48, 48, 48, 48, 48, 48, 32, 48, 48, 32, 102, 102, 10] := by kernel_rfl
theorem z_str59 : (ByteArray.mk #[48, 32, 115, 116, 117, 102, 102]) = bstr [48, 32, 115, 116, 117, 102, 102] := by kernel_rfl
theorem z_en35 : enters Tryd.prog 35 = true := by kernel_rfl
theorem z_en38 : enters Tryd.prog 38 = true := by kernel_rfl
def z_tyf : TyF := ⟨[(209, .u64), (3, .i64), (33, .u32), (5, .u8)], [(152, 0, 0), (194, 1, 1), (203, 0, 0), (258, 0, 0), (258, 1, 1), (258, 2, 2), (85, 0, 0), (85, 1, 1), (85, 2, 2), (85, 3, 3), (85, 4, 4), (87, 0, 0), (87, 1, 5)], [], [4], [149, 233, 81], []⟩
theorem z_T : TyOk Tryd.prog z_tyf := ⟨(fa_cons Tryd.underlying209 (fa_cons Tryd.underlying3 (fa_cons Tryd.underlying33 (fa_cons Tryd.underlying5 fa_nil)))), (fa_cons z_field152_0 (fa_cons z_field194_1 (fa_cons z_field203_0 (fa_cons z_field258_0 (fa_cons z_field258_1 (fa_cons z_field258_2 (fa_cons z_field85_0 (fa_cons z_field85_1 (fa_cons z_field85_2 (fa_cons z_field85_3 (fa_cons z_field85_4 (fa_cons z_field87_0 (fa_cons z_field87_1 fa_nil))))))))))))), fa_nil, (fa_cons Tryd.underlying4 fa_nil), (fa_cons ⟨_, Tryd.underlying149⟩ (fa_cons ⟨_, Tryd.underlying233⟩ (fa_cons ⟨_, Tryd.underlying81⟩ fa_nil))), fa_nil⟩
def z_tym : TyM := ⟨[198, 28, 3, 33, 67, 68, 81], [(230, 4), (85, 5), (87, 6)], [(152, [.pointer none], [(0, 1)]), (85, [.int .i64 0, .int .i64 0, .int .u32 0, .int .i64 0, .int .i64 0], [(0, 1), (1, 1), (2, 1), (3, 1), (4, 1)]), (87, [.int .i64 0, .int .i64 0, .int .u32 0, .int .i64 0, .int .i64 0, .slice none 0 0], [(0, 5), (5, 1)])], []⟩
theorem z_M : TyMOk Tryd.prog z_tym := ⟨(fa_cons z_sc198 (fa_cons z_sc28 (fa_cons z_sc3 (fa_cons z_sc33 (fa_cons z_sc67 (fa_cons z_sc68 (fa_cons z_sc81 fa_nil))))))), (fa_cons z_size198 (fa_cons z_size28 (fa_cons z_size3 (fa_cons z_size33 (fa_cons z_size67 (fa_cons z_size68 (fa_cons z_size81 fa_nil))))))), (fa_cons z_agg230 (fa_cons z_agg85 (fa_cons z_agg87 fa_nil))), (fa_cons z_size230 (fa_cons z_size85 (fa_cons z_size87 fa_nil))), (fa_cons z_struct152 (fa_cons z_struct85 (fa_cons z_struct87 fa_nil))), fa_nil⟩
theorem Z {n : Nat} {c : Ctx Tryd.prog n} {σ : Sto} {gs : List Grp} (f : Nat) {ρ ρ' : Env} {k k' : List Item} (h : go z_tyf n f ρ k = some (ρ', k')) (hk : St c ρ' σ gs k') : St c ρ σ gs k := st_go z_T f h hk
theorem dA {n : Nat} {c : Ctx Tryd.prog n} {k : List Item} {ops : Array Oper} {dsts : List Nat} {L : List DT} {ρ : Env} {i : Nat} (h : dpv z_tyf n ops dsts L ρ i = dvl L i := by exact rfl) (hs : (dvl L i).isSome = true := by exact rfl) : Core c k ops dsts L ρ i := core_A z_T h hs
theorem dG {n : Nat} {c : Ctx Tryd.prog n} {k : List Item} {ops : Array Oper} {dsts : List Nat} {L : List DT} {ρ : Env} {i : Nat} (ks : List Nat) (h : DGok z_tyf n ops dsts L ρ ks i := by exact ⟨rfl, rfl, rfl⟩) : Core c k ops dsts L ρ i := core_G z_T h
theorem ZZ {n : Nat} {c : Ctx Tryd.prog n} {σ : Sto} (f : Nat) (js : List Nat) {gs gs' : List Grp} {ρ ρ' : Env} {k k' : List Item} {e : List (Nat × Nat)} (h : go2 z_tyf z_tym n f js ρ gs k = some (ρ', gs', k', e)) (he : e.map (·.1) = e.map (·.2)) (hk : St c ρ' σ gs' k') : St c ρ σ gs k := st_go2 z_T z_M f h he hk
end Go.Rel
