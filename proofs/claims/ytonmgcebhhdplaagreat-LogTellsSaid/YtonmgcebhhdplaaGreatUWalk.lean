import Derived.Test.YtonmgcebhhdplaaGreatURel
import Derived.Test.YtonmgcebhhdplaaGreatUFacts
import Derived.Test.YtonmgcebhhdplaaGreatUWalk1
/-! The walks. -/
set_option linter.unusedVariables false
set_option linter.unusedSimpArgs false
set_option maxRecDepth 4000
set_option maxHeartbeats 4000000
namespace Go.Rel
open Go Go.Eng Go.Proofs
theorem body_reader_field_ok {a0 : Unit × Int} {a0p0 : List Int × Int × Int} {a1 : Int × List Int × List (Int × Int) × List Int × ByteArray × ByteArray} {a2 : ByteArray × Int × Int × Int × Int × Int × Int} {ba0 : Nat} {ba0p0 : Nat} {v1 : Value} {ba1 : Nat} {v3 : Value} {v4 : Value} {r : (Unit × Int) × (List Int × Int × Int) × (Int × List Int × List (Int × Int) × List Int × ByteArray × ByteArray)} (h : body_reader_field a0 a0p0 a1 a2 r) (σ : Sto) (hs2 : Sl (kI .u8) σ v1 a0p0.1) (hs5 : Sl (kP (kI .i64) (kI .i64)) σ v3 a1.2.2.1) (hs6 : Sl (kI .i64) σ v4 a1.2.2.2.1) :
    Does Tryz.prog 94 [.pointer (some ⟨ba0, 0, none⟩), .pointer (some ⟨ba1, 0, none⟩), .agg [.string a2.1, .int .i64 a2.2.1, .int .i64 a2.2.2.1, .int .i64 a2.2.2.2.1, .int .i64 a2.2.2.2.2.1, .int .i64 a2.2.2.2.2.2.1, .int .i64 a2.2.2.2.2.2.2].toArray] σ [[(ba0, .cells [.pointer (some ⟨ba0p0, 0, none⟩), .int .i64 a0.2].toArray 162 (0, 0))], [(ba0p0, .cells [v1, .int .i64 a0p0.2.1, .int .i64 a0p0.2.2].toArray 137 (0, 0))], [(ba1, .cells [.int .i64 a1.1, .int .i64 (a1.2.1.getD 0 0), .int .i64 (a1.2.1.getD 1 0), .int .i64 (a1.2.1.getD 2 0), .int .i64 (a1.2.1.getD 3 0), .int .i64 (a1.2.1.getD 4 0), .int .i64 (a1.2.1.getD 5 0), v3, v4, .string a1.2.2.2.2.1, .string a1.2.2.2.2.2].toArray 30 (0, 0))]] (fun v τ gs => ∃ (v65 : Value) (v67 : Value) (v68 : Value), gs = [[(ba0, .cells [.pointer (some ⟨ba0p0, 0, none⟩), .int .i64 r.1.2].toArray 162 (0, 0))], [(ba0p0, .cells [v65, .int .i64 r.2.1.2.1, .int .i64 r.2.1.2.2].toArray 137 (0, 0))], [(ba1, .cells [.int .i64 r.2.2.1, .int .i64 (r.2.2.2.1.getD 0 0), .int .i64 (r.2.2.2.1.getD 1 0), .int .i64 (r.2.2.2.1.getD 2 0), .int .i64 (r.2.2.2.1.getD 3 0), .int .i64 (r.2.2.2.1.getD 4 0), .int .i64 (r.2.2.2.1.getD 5 0), v67, v68, .string r.2.2.2.2.2.2.1, .string r.2.2.2.2.2.2.2].toArray 30 (0, 0))]] ∧ .tuple [].toArray = v ∧ Sl (kI .u8) τ v65 r.2.1.1 ∧ Sl (kP (kI .i64) (kI .i64)) τ v67 r.2.2.2.2.1 ∧ Sl (kI .i64) τ v68 r.2.2.2.2.2.1) := by
 refine call_of Tryz.func94 Tryz.ntmps94 rfl rfl (fun cs fs => ?_)
 refine Z 2 rfl ?_
 refine o_boxC rfl rfl rfl rfl rfl rfl (fun b7 => ?_)
 refine ZZ 12 [0] rfl rfl ?_
 refine st_if rfl h (fun h => ?_) (fun h => ?_)
 ·refine st_seq ?_
  obtain ⟨r8, hr9, hf16, hf17, h⟩ := h
  refine st_d42 [[(b7, .cells #[.string a2.1, .int .i64 a2.2.1, .int .i64 a2.2.2.1, .int .i64 a2.2.2.2.1, .int .i64 a2.2.2.2.2.1, .int .i64 a2.2.2.2.2.2.1, .int .i64 a2.2.2.2.2.2.2] 89 (0, 0))], [(ba0, .cells #[.pointer (some ⟨ba0p0, 0, none⟩), .int .i64 a0.2] 162 (0, 0))]] [[(ba0p0, .cells #[v1, .int .i64 a0p0.2.1, .int .i64 a0p0.2.2] 137 (0, 0))]] [[(ba1, .cells #[.int .i64 a1.1, .int .i64 (a1.2.1.getD 0 0), .int .i64 (a1.2.1.getD 1 0), .int .i64 (a1.2.1.getD 2 0), .int .i64 (a1.2.1.getD 3 0), .int .i64 (a1.2.1.getD 4 0), .int .i64 (a1.2.1.getD 5 0), v3, v4, .string a1.2.2.2.2.1, .string a1.2.2.2.2.2] 30 (0, 0))]] 16 1 1 [none, none, none, none, none, none, none, none, none, none, some (0, 0), none, none, none, none, some (1, 0)] [none, none, none, none, none, none, none, none, none, none, none, none, none, none, none, none] [[none, some 20], [none, none]] [.v (.pointer (some ⟨ba1, 0, none⟩)), .v (.pointer (some ⟨b7, 2, none⟩)), .v (.int .i64 a2.2.2.1), .v (.pointer (some ⟨ba0, 0, none⟩)), .v (.pointer (some ⟨ba0, 0, none⟩)), .v (.pointer (some ⟨ba0, 0, none⟩)), .v (.pointer (some ⟨ba0p0, 0, none⟩)), .v (.pointer (some ⟨b7, 4, none⟩)), .v (.int .i64 a2.2.2.2.2.1), .v (.int .u64 (IntKind.u64.wrap a2.2.2.2.2.1)), .v (.int .u64 r8.1), .v (.int .i64 (IntKind.i64.wrap r8.1)), .v (.pointer (some ⟨ba1, 0, none⟩)), .v (.pointer (some ⟨ba1, 1, none⟩)), .v (.pointer (some ⟨ba1, 1 + a2.2.2.1.toNat * 1, none⟩)), .t fun _ _ => True] [[fun τ u F => F = [[(ba0p0, .cells #[v1, .int .i64 a0p0.2.1, .int .i64 a0p0.2.2] 137 (0, 0))]], fun τ u F => ∃ (v14 : Value), F = [[(ba0p0, .cells #[v14, .int .i64 r8.2.2.1, .int .i64 r8.2.2.2] 137 (0, 0))]] ∧ Sl (kI .u8) τ v14 r8.2.1], [fun τ u F => F = [[(ba1, .cells #[.int .i64 a1.1, .int .i64 (a1.2.1.getD 0 0), .int .i64 (a1.2.1.getD 1 0), .int .i64 (a1.2.1.getD 2 0), .int .i64 (a1.2.1.getD 3 0), .int .i64 (a1.2.1.getD 4 0), .int .i64 (a1.2.1.getD 5 0), v3, v4, .string a1.2.2.2.2.1, .string a1.2.2.2.2.2] 30 (0, 0))]], fun τ u F => F = [[(ba1, .cells #[.int .i64 a1.1, .int .i64 ((putN 6 0 a1.2.1 a2.2.2.1.toNat (IntKind.i64.wrap r8.1)).getD 0 0), .int .i64 ((putN 6 0 a1.2.1 a2.2.2.1.toNat (IntKind.i64.wrap r8.1)).getD 1 0), .int .i64 ((putN 6 0 a1.2.1 a2.2.2.1.toNat (IntKind.i64.wrap r8.1)).getD 2 0), .int .i64 ((putN 6 0 a1.2.1 a2.2.2.1.toNat (IntKind.i64.wrap r8.1)).getD 3 0), .int .i64 ((putN 6 0 a1.2.1 a2.2.2.1.toNat (IntKind.i64.wrap r8.1)).getD 4 0), .int .i64 ((putN 6 0 a1.2.1 a2.2.2.1.toNat (IntKind.i64.wrap r8.1)).getD 5 0), v3, v4, .string a1.2.2.2.2.1, .string a1.2.2.2.2.2] 30 (0, 0))]]]] rfl z_mix rfl ⟨fun _ _ _ _ _ => trivial, trivial⟩ ⟨⟨fun _ _ _ _ hl h => h, ⟨fun _ _ _ _ hl h => (let ⟨v14, hF, hs15⟩ := h; ⟨v14, hF, hs15.up hl⟩), trivial⟩⟩, ⟨⟨fun _ _ _ _ hl h => h, ⟨fun _ _ _ _ hl h => h, trivial⟩⟩, trivial⟩⟩ rfl rfl ?_ ?_ (allB_cons (allB_cons (allB_cons (allB_cons (allB_cons (allB_cons (allB_cons (allB_cons (allB_cons (allB_cons (allB_cons (allB_cons (allB_cons (allB_cons (allB_cons (allB_cons allB_nil (p4 dA)) (p4 dA)) ?_) (p4 dA)) (p4 dA)) (p4 dA)) ?_) (p4 dA)) ?_) (p4 dA)) ?_) (p4 dA)) (p4 dA)) (p4 dA)) ?_) ?_) ?_
  ·exact rfl
  ·exact rfl
  ·intro ρ' τ pool rs hl hd hout hw hk
   obtain ⟨_, e1, rfl⟩ := hd 1 rfl _ rfl
   refine o_load (j := 0) (v := .int .i64 a2.2.2.1) rfl rfl rfl z_sc3 e1 rfl rfl ?_
   exact hk _ _ (Sto.Le.refl _) rfl
  ·intro ρ' τ pool rs hl hd hout hw hk
   obtain ⟨_, e5, rfl⟩ := hd 5 rfl _ rfl
   refine o_load (j := 1) (v := .pointer (some ⟨ba0p0, 0, none⟩)) rfl rfl rfl z_sc113 e5 rfl rfl ?_
   exact hk _ _ (Sto.Le.refl _) rfl
  ·intro ρ' τ pool rs hl hd hout hw hk
   obtain ⟨_, e7, rfl⟩ := hd 7 rfl _ rfl
   refine o_load (j := 0) (v := .int .i64 a2.2.2.2.2.1) rfl rfl rfl z_sc3 e7 rfl rfl ?_
   exact hk _ _ (Sto.Le.refl _) rfl
  ·intro ρ' τ u Fv pool rs hl hI hu hd hout hw hk
   obtain ⟨_, e6, rfl⟩ := hd 6 rfl _ rfl
   obtain ⟨_, e9, rfl⟩ := hd 9 rfl _ rfl
   have hI0 := hI
   obtain rfl := hI
   refine st_gs [[(b7, .cells #[.string a2.1, .int .i64 a2.2.1, .int .i64 a2.2.2.1, .int .i64 a2.2.2.2.1, .int .i64 a2.2.2.2.2.1, .int .i64 a2.2.2.2.2.2.1, .int .i64 a2.2.2.2.2.2.2] 89 (0, 0))], [(ba0, .cells #[.pointer (some ⟨ba0p0, 0, none⟩), .int .i64 a0.2] 162 (0, 0))], [(ba0p0, .cells #[v1, .int .i64 a0p0.2.1, .int .i64 a0p0.2.2] 137 (0, 0))], pool] rfl ?_
   refine st_ord [2, 0, 0, 0] _ rfl ?_
   refine st_call (foot := [[(ba0p0, .cells #[v1, .int .i64 a0p0.2.1, .int .i64 a0p0.2.2] 137 (0, 0))]]) rfl rfl rfl rfl (evs_cons e6 (evs_cons e9 rfl)) rfl (callV_fn z_en109 (lens_Lens_Number_ok hr9 τ (hs2.up hl))) ?_
   rintro vτ10 τ10 gsτ10 hl11 ⟨v12, rfl, rfl, hs13⟩
   refine st_ord [1, 1, 0, 0] _ rfl ?_
   exact hk _ _ [[(ba0p0, .cells #[v12, .int .i64 r8.2.2.1, .int .i64 r8.2.2.2] 137 (0, 0))]] hl11 rfl (by exact ⟨v12, rfl, hs13⟩)
  ·intro ρ' τ pool rs hl hd hout hw hk
   obtain ⟨_, e2, rfl⟩ := hd 2 rfl _ rfl
   obtain ⟨_, e13, rfl⟩ := hd 13 rfl _ rfl
   refine o_indexA rfl rfl rfl z_arr26 e13 e2 hf16 hf17 ?_
   exact hk _ _ (Sto.Le.refl _) rfl
  ·intro ρ' τ u Fv pool rs hl hI hu hd hout hw hk
   obtain ⟨_, e11, rfl⟩ := hd 11 rfl _ rfl
   obtain ⟨_, e14, rfl⟩ := hd 14 rfl _ rfl
   have hI0 := hI
   obtain rfl := hI
   refine st_gs [[(b7, .cells #[.string a2.1, .int .i64 a2.2.1, .int .i64 a2.2.2.1, .int .i64 a2.2.2.2.1, .int .i64 a2.2.2.2.2.1, .int .i64 a2.2.2.2.2.2.1, .int .i64 a2.2.2.2.2.2.2] 89 (0, 0))], [(ba0, .cells #[.pointer (some ⟨ba0p0, 0, none⟩), .int .i64 a0.2] 162 (0, 0))], [(ba1, .cells #[.int .i64 a1.1, .int .i64 (a1.2.1.getD 0 0), .int .i64 (a1.2.1.getD 1 0), .int .i64 (a1.2.1.getD 2 0), .int .i64 (a1.2.1.getD 3 0), .int .i64 (a1.2.1.getD 4 0), .int .i64 (a1.2.1.getD 5 0), v3, v4, .string a1.2.2.2.2.1, .string a1.2.2.2.2.2] 30 (0, 0))], pool] rfl ?_
   refine o_storeV (j := 2) (a2.2.2.1.toNat) (f := (Value.int .i64)) (zz := 0) (a := (IntKind.i64.wrap r8.1)) (l := 6) (xs := a1.2.1) [.int .i64 a1.1] [v3, v4, .string a1.2.2.2.2.1, .string a1.2.2.2.2.2] rfl rfl rfl z_size3 e14 e11 rfl rfl rfl (by simp only [List.length_cons, List.length_nil] <;> omega) (by omega) ?_
   refine st_gs [[(b7, .cells #[.string a2.1, .int .i64 a2.2.1, .int .i64 a2.2.2.1, .int .i64 a2.2.2.2.1, .int .i64 a2.2.2.2.2.1, .int .i64 a2.2.2.2.2.2.1, .int .i64 a2.2.2.2.2.2.2] 89 (0, 0))], [(ba0, .cells #[.pointer (some ⟨ba0p0, 0, none⟩), .int .i64 a0.2] 162 (0, 0))], [(ba1, .cells #[.int .i64 a1.1, .int .i64 ((putN 6 0 a1.2.1 a2.2.2.1.toNat (IntKind.i64.wrap r8.1)).getD 0 0), .int .i64 ((putN 6 0 a1.2.1 a2.2.2.1.toNat (IntKind.i64.wrap r8.1)).getD 1 0), .int .i64 ((putN 6 0 a1.2.1 a2.2.2.1.toNat (IntKind.i64.wrap r8.1)).getD 2 0), .int .i64 ((putN 6 0 a1.2.1 a2.2.2.1.toNat (IntKind.i64.wrap r8.1)).getD 3 0), .int .i64 ((putN 6 0 a1.2.1 a2.2.2.1.toNat (IntKind.i64.wrap r8.1)).getD 4 0), .int .i64 ((putN 6 0 a1.2.1 a2.2.2.1.toNat (IntKind.i64.wrap r8.1)).getD 5 0), v3, v4, .string a1.2.2.2.2.1, .string a1.2.2.2.2.2] 30 (0, 0))], pool] rfl ?_
   exact hk _ _ [[(ba1, .cells #[.int .i64 a1.1, .int .i64 ((putN 6 0 a1.2.1 a2.2.2.1.toNat (IntKind.i64.wrap r8.1)).getD 0 0), .int .i64 ((putN 6 0 a1.2.1 a2.2.2.1.toNat (IntKind.i64.wrap r8.1)).getD 1 0), .int .i64 ((putN 6 0 a1.2.1 a2.2.2.1.toNat (IntKind.i64.wrap r8.1)).getD 2 0), .int .i64 ((putN 6 0 a1.2.1 a2.2.2.1.toNat (IntKind.i64.wrap r8.1)).getD 3 0), .int .i64 ((putN 6 0 a1.2.1 a2.2.2.1.toNat (IntKind.i64.wrap r8.1)).getD 4 0), .int .i64 ((putN 6 0 a1.2.1 a2.2.2.1.toNat (IntKind.i64.wrap r8.1)).getD 5 0), v3, v4, .string a1.2.2.2.2.1, .string a1.2.2.2.2.2] 30 (0, 0))]] (Sto.Le.refl _) trivial (by exact rfl)
  intro ρ' τ18 vals u u1 Fv Fv1 hl18 hI hu hI1 hu1 hv hout
  obtain ⟨v14, rfl, hs15⟩ := hI
  obtain rfl := hI1
  refine st_gs [[(b7, .cells #[.string a2.1, .int .i64 a2.2.1, .int .i64 a2.2.2.1, .int .i64 a2.2.2.2.1, .int .i64 a2.2.2.2.2.1, .int .i64 a2.2.2.2.2.2.1, .int .i64 a2.2.2.2.2.2.2] 89 (0, 0))], [(ba0, .cells #[.pointer (some ⟨ba0p0, 0, none⟩), .int .i64 a0.2] 162 (0, 0))], [(ba0p0, .cells #[v14, .int .i64 r8.2.2.1, .int .i64 r8.2.2.2] 137 (0, 0))], [(ba1, .cells #[.int .i64 a1.1, .int .i64 ((putN 6 0 a1.2.1 a2.2.2.1.toNat (IntKind.i64.wrap r8.1)).getD 0 0), .int .i64 ((putN 6 0 a1.2.1 a2.2.2.1.toNat (IntKind.i64.wrap r8.1)).getD 1 0), .int .i64 ((putN 6 0 a1.2.1 a2.2.2.1.toNat (IntKind.i64.wrap r8.1)).getD 2 0), .int .i64 ((putN 6 0 a1.2.1 a2.2.2.1.toNat (IntKind.i64.wrap r8.1)).getD 3 0), .int .i64 ((putN 6 0 a1.2.1 a2.2.2.1.toNat (IntKind.i64.wrap r8.1)).getD 4 0), .int .i64 ((putN 6 0 a1.2.1 a2.2.2.1.toNat (IntKind.i64.wrap r8.1)).getD 5 0), v3, v4, .string a1.2.2.2.2.1, .string a1.2.2.2.2.2] 30 (0, 0))]] rfl ?_
  refine st_env (ρ' := [(0, .pointer (some ⟨ba0, 0, none⟩)), (1, .pointer (some ⟨ba1, 0, none⟩)), (5, .pointer (some ⟨b7, 0, none⟩))]) ⟨(hout 0 rfl).trans rfl, (hout 1 rfl).trans rfl, (hout 5 rfl).trans rfl, trivial⟩ ?_
  refine st_end ?_
  obtain ⟨hf19, hf20, r21, hr22, h⟩ := h
  refine st_ord [0, 1, 1, 0] _ rfl ?_
  refine st_d41 [[(b7, .cells #[.string a2.1, .int .i64 a2.2.1, .int .i64 a2.2.2.1, .int .i64 a2.2.2.2.1, .int .i64 a2.2.2.2.2.1, .int .i64 a2.2.2.2.2.2.1, .int .i64 a2.2.2.2.2.2.2] 89 (0, 0))], [(ba0p0, .cells #[v14, .int .i64 r8.2.2.1, .int .i64 r8.2.2.2] 137 (0, 0))], [(ba1, .cells #[.int .i64 a1.1, .int .i64 ((putN 6 0 a1.2.1 a2.2.2.1.toNat (IntKind.i64.wrap r8.1)).getD 0 0), .int .i64 ((putN 6 0 a1.2.1 a2.2.2.1.toNat (IntKind.i64.wrap r8.1)).getD 1 0), .int .i64 ((putN 6 0 a1.2.1 a2.2.2.1.toNat (IntKind.i64.wrap r8.1)).getD 2 0), .int .i64 ((putN 6 0 a1.2.1 a2.2.2.1.toNat (IntKind.i64.wrap r8.1)).getD 3 0), .int .i64 ((putN 6 0 a1.2.1 a2.2.2.1.toNat (IntKind.i64.wrap r8.1)).getD 4 0), .int .i64 ((putN 6 0 a1.2.1 a2.2.2.1.toNat (IntKind.i64.wrap r8.1)).getD 5 0), v3, v4, .string a1.2.2.2.2.1, .string a1.2.2.2.2.2] 30 (0, 0))]] [[(ba0, .cells #[.pointer (some ⟨ba0p0, 0, none⟩), .int .i64 a0.2] 162 (0, 0))]] 12 1 [none, none, none, none, none, none, none, none, none, none, none, some (0, 0)] [none, none, none, none, none, none, none, none, none, none, none, none] [[none, some 36]] [.v (.pointer (some ⟨ba0, 0, none⟩)), .v (.pointer (some ⟨ba1, 0, none⟩)), .v (.pointer (some ⟨b7, 2, none⟩)), .v (.int .i64 a2.2.2.1), .v (.pointer (some ⟨ba1, 0, none⟩)), .v (.pointer (some ⟨ba1, 1, none⟩)), .v (.pointer (some ⟨ba1, 1 + a2.2.2.1.toNat * 1, none⟩)), .v (.int .i64 ((putN 6 0 a1.2.1 a2.2.2.1.toNat (IntKind.i64.wrap r8.1)).getD a2.2.2.1.toNat 0)), .v (.pointer (some ⟨b7, 3, none⟩)), .v (.int .i64 a2.2.2.2.1), .v (.bool (decide (((putN 6 0 a1.2.1 a2.2.2.1.toNat (IntKind.i64.wrap r8.1)).getD a2.2.2.1.toNat 0) < a2.2.2.2.1))), .v (.tuple #[])] [[fun τ u F => F = [[(ba0, .cells #[.pointer (some ⟨ba0p0, 0, none⟩), .int .i64 a0.2] 162 (0, 0))]], fun τ u F => F = [[(ba0, .cells #[.pointer (some ⟨ba0p0, 0, none⟩), .int .i64 r21.2] 162 (0, 0))]]]] rfl z_mix rfl trivial ⟨⟨fun _ _ _ _ hl h => h, ⟨fun _ _ _ _ hl h => h, trivial⟩⟩, trivial⟩ rfl rfl ?_ (allB_cons (allB_cons (allB_cons (allB_cons (allB_cons (allB_cons (allB_cons (allB_cons (allB_cons (allB_cons (allB_cons (allB_cons allB_nil (p4 dA)) (p4 dA)) (p4 dA)) ?_) (p4 dA)) (p4 dA)) ?_) ?_) (p4 dA)) ?_) (p4 dA)) ?_) ?_
  ·exact rfl
  ·intro ρ' τ pool rs hl hd hout hw hk
   obtain ⟨_, e2, rfl⟩ := hd 2 rfl _ rfl
   refine o_load (j := 0) (v := .int .i64 a2.2.2.1) rfl rfl rfl z_sc3 e2 rfl rfl ?_
   exact hk _ _ (Sto.Le.refl _) rfl
  ·intro ρ' τ pool rs hl hd hout hw hk
   obtain ⟨_, e3, rfl⟩ := hd 3 rfl _ rfl
   obtain ⟨_, e5, rfl⟩ := hd 5 rfl _ rfl
   refine o_indexA rfl rfl rfl z_arr26 e5 e3 hf19 hf20 ?_
   exact hk _ _ (Sto.Le.refl _) rfl
  ·intro ρ' τ pool rs hl hd hout hw hk
   obtain ⟨_, e6, rfl⟩ := hd 6 rfl _ rfl
   refine o_loadV (j := 2) (a2.2.2.1.toNat) (f := (Value.int .i64)) (zz := 0) (l := 6) (xs := (putN 6 0 a1.2.1 a2.2.2.1.toNat (IntKind.i64.wrap r8.1))) [.int .i64 a1.1] [v3, v4, .string a1.2.2.2.2.1, .string a1.2.2.2.2.2] rfl rfl rfl z_sc3 e6 rfl (by simp only [List.length_cons, List.length_nil] <;> omega) (by omega) ?_
   exact hk _ _ (Sto.Le.refl _) rfl
  ·intro ρ' τ pool rs hl hd hout hw hk
   obtain ⟨_, e8, rfl⟩ := hd 8 rfl _ rfl
   refine o_load (j := 0) (v := .int .i64 a2.2.2.2.1) rfl rfl rfl z_sc3 e8 rfl rfl ?_
   exact hk _ _ (Sto.Le.refl _) rfl
  ·intro ρ' τ u Fv pool rs hl hI hu hd hout hw hk
   obtain ⟨_, e0, rfl⟩ := hd 0 rfl _ rfl
   obtain ⟨_, e10, rfl⟩ := hd 10 rfl _ rfl
   have hI0 := hI
   obtain rfl := hI
   refine st_gs [[(b7, .cells #[.string a2.1, .int .i64 a2.2.1, .int .i64 a2.2.2.1, .int .i64 a2.2.2.2.1, .int .i64 a2.2.2.2.2.1, .int .i64 a2.2.2.2.2.2.1, .int .i64 a2.2.2.2.2.2.2] 89 (0, 0))], [(ba0p0, .cells #[v14, .int .i64 r8.2.2.1, .int .i64 r8.2.2.2] 137 (0, 0))], [(ba1, .cells #[.int .i64 a1.1, .int .i64 ((putN 6 0 a1.2.1 a2.2.2.1.toNat (IntKind.i64.wrap r8.1)).getD 0 0), .int .i64 ((putN 6 0 a1.2.1 a2.2.2.1.toNat (IntKind.i64.wrap r8.1)).getD 1 0), .int .i64 ((putN 6 0 a1.2.1 a2.2.2.1.toNat (IntKind.i64.wrap r8.1)).getD 2 0), .int .i64 ((putN 6 0 a1.2.1 a2.2.2.1.toNat (IntKind.i64.wrap r8.1)).getD 3 0), .int .i64 ((putN 6 0 a1.2.1 a2.2.2.1.toNat (IntKind.i64.wrap r8.1)).getD 4 0), .int .i64 ((putN 6 0 a1.2.1 a2.2.2.1.toNat (IntKind.i64.wrap r8.1)).getD 5 0), v3, v4, .string a1.2.2.2.2.1, .string a1.2.2.2.2.2] 30 (0, 0))], [(ba0, .cells #[.pointer (some ⟨ba0p0, 0, none⟩), .int .i64 a0.2] 162 (0, 0))], pool] rfl ?_
   refine st_ord [3, 1, 0, 0, 0] _ rfl ?_
   refine st_call (foot := [[(ba0, .cells #[.pointer (some ⟨ba0p0, 0, none⟩), .int .i64 a0.2] 162 (0, 0))], [(ba0p0, .cells #[v14, .int .i64 r8.2.2.1, .int .i64 r8.2.2.2] 137 (0, 0))]]) rfl rfl rfl rfl (evs_cons e0 (evs_cons e10 (evs_cons rfl rfl))) rfl (callV_fn z_en110 (body_reader_note_ok hr22 τ (hs15.up hl))) ?_
   rintro vτ23 τ23 gsτ23 hl24 ⟨rfl, rfl⟩
   refine st_ord [2, 1, 1, 0, 0] _ rfl ?_
   exact hk _ _ [[(ba0, .cells #[.pointer (some ⟨ba0p0, 0, none⟩), .int .i64 r21.2] 162 (0, 0))]] hl24 rfl (by exact rfl)
  intro ρ' τ25 vals u Fv hl25 hI hu hv hout
  obtain rfl := hI
  refine st_gs [[(b7, .cells #[.string a2.1, .int .i64 a2.2.1, .int .i64 a2.2.2.1, .int .i64 a2.2.2.2.1, .int .i64 a2.2.2.2.2.1, .int .i64 a2.2.2.2.2.2.1, .int .i64 a2.2.2.2.2.2.2] 89 (0, 0))], [(ba0p0, .cells #[v14, .int .i64 r8.2.2.1, .int .i64 r8.2.2.2] 137 (0, 0))], [(ba1, .cells #[.int .i64 a1.1, .int .i64 ((putN 6 0 a1.2.1 a2.2.2.1.toNat (IntKind.i64.wrap r8.1)).getD 0 0), .int .i64 ((putN 6 0 a1.2.1 a2.2.2.1.toNat (IntKind.i64.wrap r8.1)).getD 1 0), .int .i64 ((putN 6 0 a1.2.1 a2.2.2.1.toNat (IntKind.i64.wrap r8.1)).getD 2 0), .int .i64 ((putN 6 0 a1.2.1 a2.2.2.1.toNat (IntKind.i64.wrap r8.1)).getD 3 0), .int .i64 ((putN 6 0 a1.2.1 a2.2.2.1.toNat (IntKind.i64.wrap r8.1)).getD 4 0), .int .i64 ((putN 6 0 a1.2.1 a2.2.2.1.toNat (IntKind.i64.wrap r8.1)).getD 5 0), v3, v4, .string a1.2.2.2.2.1, .string a1.2.2.2.2.2] 30 (0, 0))], [(ba0, .cells #[.pointer (some ⟨ba0p0, 0, none⟩), .int .i64 r21.2] 162 (0, 0))]] rfl ?_
  refine st_env (ρ' := []) trivial ?_
  refine Z 2 rfl ?_
  refine st_ord [3, 1, 1] _ rfl ?_
  obtain rfl := Eq.symm h
  exact st_fin (gs' := [[(ba0, .cells #[.pointer (some ⟨ba0p0, 0, none⟩), .int .i64 r21.2] 162 (0, 0))], [(ba0p0, .cells #[v14, .int .i64 r8.2.2.1, .int .i64 r8.2.2.2] 137 (0, 0))], [(ba1, .cells #[.int .i64 a1.1, .int .i64 ((putN 6 0 a1.2.1 a2.2.2.1.toNat (IntKind.i64.wrap r8.1)).getD 0 0), .int .i64 ((putN 6 0 a1.2.1 a2.2.2.1.toNat (IntKind.i64.wrap r8.1)).getD 1 0), .int .i64 ((putN 6 0 a1.2.1 a2.2.2.1.toNat (IntKind.i64.wrap r8.1)).getD 2 0), .int .i64 ((putN 6 0 a1.2.1 a2.2.2.1.toNat (IntKind.i64.wrap r8.1)).getD 3 0), .int .i64 ((putN 6 0 a1.2.1 a2.2.2.1.toNat (IntKind.i64.wrap r8.1)).getD 4 0), .int .i64 ((putN 6 0 a1.2.1 a2.2.2.1.toNat (IntKind.i64.wrap r8.1)).getD 5 0), v3, v4, .string a1.2.2.2.2.1, .string a1.2.2.2.2.2] 30 (0, 0))]]) Tryz.func94 rfl (List.Sublist.refl _) (hl18.trans hl25) ⟨_, _, _, rfl, rfl, (hs15.up hl25), (hs5.up (hl18.trans hl25)), (hs6.up (hl18.trans hl25))⟩
 ·refine Z 5 rfl ?_
  refine st_if rfl h (fun h => ?_) (fun h => ?_)
  ·obtain ⟨r26, hr27, hf34, hf35, h⟩ := h
   refine st_d42 [[(b7, .cells #[.string a2.1, .int .i64 a2.2.1, .int .i64 a2.2.2.1, .int .i64 a2.2.2.2.1, .int .i64 a2.2.2.2.2.1, .int .i64 a2.2.2.2.2.2.1, .int .i64 a2.2.2.2.2.2.2] 89 (0, 0))], [(ba0, .cells #[.pointer (some ⟨ba0p0, 0, none⟩), .int .i64 a0.2] 162 (0, 0))]] [[(ba0p0, .cells #[v1, .int .i64 a0p0.2.1, .int .i64 a0p0.2.2] 137 (0, 0))]] [[(ba1, .cells #[.int .i64 a1.1, .int .i64 (a1.2.1.getD 0 0), .int .i64 (a1.2.1.getD 1 0), .int .i64 (a1.2.1.getD 2 0), .int .i64 (a1.2.1.getD 3 0), .int .i64 (a1.2.1.getD 4 0), .int .i64 (a1.2.1.getD 5 0), v3, v4, .string a1.2.2.2.2.1, .string a1.2.2.2.2.2] 30 (0, 0))]] 16 1 1 [none, none, none, none, none, none, none, none, none, none, none, some (0, 0), none, none, none, some (1, 0)] [none, none, none, none, none, none, none, none, none, none, none, none, none, none, none, none] [[none, some 50], [none, none]] [.v (.pointer (some ⟨ba1, 0, none⟩)), .v (.pointer (some ⟨b7, 2, none⟩)), .v (.int .i64 a2.2.2.1), .v (.pointer (some ⟨ba0, 0, none⟩)), .v (.pointer (some ⟨ba0, 0, none⟩)), .v (.pointer (some ⟨ba0, 0, none⟩)), .v (.pointer (some ⟨ba0p0, 0, none⟩)), .v (.pointer (some ⟨b7, 3, none⟩)), .v (.int .i64 a2.2.2.2.1), .v (.pointer (some ⟨b7, 4, none⟩)), .v (.int .i64 a2.2.2.2.2.1), .v (.int .i64 r26.1), .v (.pointer (some ⟨ba1, 0, none⟩)), .v (.pointer (some ⟨ba1, 1, none⟩)), .v (.pointer (some ⟨ba1, 1 + a2.2.2.1.toNat * 1, none⟩)), .t fun _ _ => True] [[fun τ u F => F = [[(ba0p0, .cells #[v1, .int .i64 a0p0.2.1, .int .i64 a0p0.2.2] 137 (0, 0))]], fun τ u F => ∃ (v32 : Value), F = [[(ba0p0, .cells #[v32, .int .i64 r26.2.2.1, .int .i64 r26.2.2.2] 137 (0, 0))]] ∧ Sl (kI .u8) τ v32 r26.2.1], [fun τ u F => F = [[(ba1, .cells #[.int .i64 a1.1, .int .i64 (a1.2.1.getD 0 0), .int .i64 (a1.2.1.getD 1 0), .int .i64 (a1.2.1.getD 2 0), .int .i64 (a1.2.1.getD 3 0), .int .i64 (a1.2.1.getD 4 0), .int .i64 (a1.2.1.getD 5 0), v3, v4, .string a1.2.2.2.2.1, .string a1.2.2.2.2.2] 30 (0, 0))]], fun τ u F => F = [[(ba1, .cells #[.int .i64 a1.1, .int .i64 ((putN 6 0 a1.2.1 a2.2.2.1.toNat r26.1).getD 0 0), .int .i64 ((putN 6 0 a1.2.1 a2.2.2.1.toNat r26.1).getD 1 0), .int .i64 ((putN 6 0 a1.2.1 a2.2.2.1.toNat r26.1).getD 2 0), .int .i64 ((putN 6 0 a1.2.1 a2.2.2.1.toNat r26.1).getD 3 0), .int .i64 ((putN 6 0 a1.2.1 a2.2.2.1.toNat r26.1).getD 4 0), .int .i64 ((putN 6 0 a1.2.1 a2.2.2.1.toNat r26.1).getD 5 0), v3, v4, .string a1.2.2.2.2.1, .string a1.2.2.2.2.2] 30 (0, 0))]]]] rfl z_mix rfl ⟨fun _ _ _ _ _ => trivial, trivial⟩ ⟨⟨fun _ _ _ _ hl h => h, ⟨fun _ _ _ _ hl h => (let ⟨v32, hF, hs33⟩ := h; ⟨v32, hF, hs33.up hl⟩), trivial⟩⟩, ⟨⟨fun _ _ _ _ hl h => h, ⟨fun _ _ _ _ hl h => h, trivial⟩⟩, trivial⟩⟩ rfl rfl ?_ ?_ (allB_cons (allB_cons (allB_cons (allB_cons (allB_cons (allB_cons (allB_cons (allB_cons (allB_cons (allB_cons (allB_cons (allB_cons (allB_cons (allB_cons (allB_cons (allB_cons allB_nil (p4 dA)) (p4 dA)) ?_) (p4 dA)) (p4 dA)) (p4 dA)) ?_) (p4 dA)) ?_) (p4 dA)) ?_) ?_) (p4 dA)) (p4 dA)) ?_) ?_) ?_
   ·exact rfl
   ·exact rfl
   ·intro ρ' τ pool rs hl hd hout hw hk
    obtain ⟨_, e1, rfl⟩ := hd 1 rfl _ rfl
    refine o_load (j := 0) (v := .int .i64 a2.2.2.1) rfl rfl rfl z_sc3 e1 rfl rfl ?_
    exact hk _ _ (Sto.Le.refl _) rfl
   ·intro ρ' τ pool rs hl hd hout hw hk
    obtain ⟨_, e5, rfl⟩ := hd 5 rfl _ rfl
    refine o_load (j := 1) (v := .pointer (some ⟨ba0p0, 0, none⟩)) rfl rfl rfl z_sc113 e5 rfl rfl ?_
    exact hk _ _ (Sto.Le.refl _) rfl
   ·intro ρ' τ pool rs hl hd hout hw hk
    obtain ⟨_, e7, rfl⟩ := hd 7 rfl _ rfl
    refine o_load (j := 0) (v := .int .i64 a2.2.2.2.1) rfl rfl rfl z_sc3 e7 rfl rfl ?_
    exact hk _ _ (Sto.Le.refl _) rfl
   ·intro ρ' τ pool rs hl hd hout hw hk
    obtain ⟨_, e9, rfl⟩ := hd 9 rfl _ rfl
    refine o_load (j := 0) (v := .int .i64 a2.2.2.2.2.1) rfl rfl rfl z_sc3 e9 rfl rfl ?_
    exact hk _ _ (Sto.Le.refl _) rfl
   ·intro ρ' τ u Fv pool rs hl hI hu hd hout hw hk
    obtain ⟨_, e6, rfl⟩ := hd 6 rfl _ rfl
    obtain ⟨_, e8, rfl⟩ := hd 8 rfl _ rfl
    obtain ⟨_, e10, rfl⟩ := hd 10 rfl _ rfl
    have hI0 := hI
    obtain rfl := hI
    refine st_gs [[(b7, .cells #[.string a2.1, .int .i64 a2.2.1, .int .i64 a2.2.2.1, .int .i64 a2.2.2.2.1, .int .i64 a2.2.2.2.2.1, .int .i64 a2.2.2.2.2.2.1, .int .i64 a2.2.2.2.2.2.2] 89 (0, 0))], [(ba0, .cells #[.pointer (some ⟨ba0p0, 0, none⟩), .int .i64 a0.2] 162 (0, 0))], [(ba0p0, .cells #[v1, .int .i64 a0p0.2.1, .int .i64 a0p0.2.2] 137 (0, 0))], pool] rfl ?_
    refine st_ord [2, 0, 0, 0] _ rfl ?_
    refine st_call (foot := [[(ba0p0, .cells #[v1, .int .i64 a0p0.2.1, .int .i64 a0p0.2.2] 137 (0, 0))]]) rfl rfl rfl rfl (evs_cons e6 (evs_cons e8 (evs_cons e10 rfl))) rfl (callV_fn z_en111 (lens_Lens_Signed_ok hr27 τ (hs2.up hl))) ?_
    rintro vτ28 τ28 gsτ28 hl29 ⟨v30, rfl, rfl, hs31⟩
    refine st_ord [1, 1, 0, 0] _ rfl ?_
    exact hk _ _ [[(ba0p0, .cells #[v30, .int .i64 r26.2.2.1, .int .i64 r26.2.2.2] 137 (0, 0))]] hl29 rfl (by exact ⟨v30, rfl, hs31⟩)
   ·intro ρ' τ pool rs hl hd hout hw hk
    obtain ⟨_, e2, rfl⟩ := hd 2 rfl _ rfl
    obtain ⟨_, e13, rfl⟩ := hd 13 rfl _ rfl
    refine o_indexA rfl rfl rfl z_arr26 e13 e2 hf34 hf35 ?_
    exact hk _ _ (Sto.Le.refl _) rfl
   ·intro ρ' τ u Fv pool rs hl hI hu hd hout hw hk
    obtain ⟨_, e11, rfl⟩ := hd 11 rfl _ rfl
    obtain ⟨_, e14, rfl⟩ := hd 14 rfl _ rfl
    have hI0 := hI
    obtain rfl := hI
    refine st_gs [[(b7, .cells #[.string a2.1, .int .i64 a2.2.1, .int .i64 a2.2.2.1, .int .i64 a2.2.2.2.1, .int .i64 a2.2.2.2.2.1, .int .i64 a2.2.2.2.2.2.1, .int .i64 a2.2.2.2.2.2.2] 89 (0, 0))], [(ba0, .cells #[.pointer (some ⟨ba0p0, 0, none⟩), .int .i64 a0.2] 162 (0, 0))], [(ba1, .cells #[.int .i64 a1.1, .int .i64 (a1.2.1.getD 0 0), .int .i64 (a1.2.1.getD 1 0), .int .i64 (a1.2.1.getD 2 0), .int .i64 (a1.2.1.getD 3 0), .int .i64 (a1.2.1.getD 4 0), .int .i64 (a1.2.1.getD 5 0), v3, v4, .string a1.2.2.2.2.1, .string a1.2.2.2.2.2] 30 (0, 0))], pool] rfl ?_
    refine o_storeV (j := 2) (a2.2.2.1.toNat) (f := (Value.int .i64)) (zz := 0) (a := r26.1) (l := 6) (xs := a1.2.1) [.int .i64 a1.1] [v3, v4, .string a1.2.2.2.2.1, .string a1.2.2.2.2.2] rfl rfl rfl z_size3 e14 e11 rfl rfl rfl (by simp only [List.length_cons, List.length_nil] <;> omega) (by omega) ?_
    refine st_gs [[(b7, .cells #[.string a2.1, .int .i64 a2.2.1, .int .i64 a2.2.2.1, .int .i64 a2.2.2.2.1, .int .i64 a2.2.2.2.2.1, .int .i64 a2.2.2.2.2.2.1, .int .i64 a2.2.2.2.2.2.2] 89 (0, 0))], [(ba0, .cells #[.pointer (some ⟨ba0p0, 0, none⟩), .int .i64 a0.2] 162 (0, 0))], [(ba1, .cells #[.int .i64 a1.1, .int .i64 ((putN 6 0 a1.2.1 a2.2.2.1.toNat r26.1).getD 0 0), .int .i64 ((putN 6 0 a1.2.1 a2.2.2.1.toNat r26.1).getD 1 0), .int .i64 ((putN 6 0 a1.2.1 a2.2.2.1.toNat r26.1).getD 2 0), .int .i64 ((putN 6 0 a1.2.1 a2.2.2.1.toNat r26.1).getD 3 0), .int .i64 ((putN 6 0 a1.2.1 a2.2.2.1.toNat r26.1).getD 4 0), .int .i64 ((putN 6 0 a1.2.1 a2.2.2.1.toNat r26.1).getD 5 0), v3, v4, .string a1.2.2.2.2.1, .string a1.2.2.2.2.2] 30 (0, 0))], pool] rfl ?_
    exact hk _ _ [[(ba1, .cells #[.int .i64 a1.1, .int .i64 ((putN 6 0 a1.2.1 a2.2.2.1.toNat r26.1).getD 0 0), .int .i64 ((putN 6 0 a1.2.1 a2.2.2.1.toNat r26.1).getD 1 0), .int .i64 ((putN 6 0 a1.2.1 a2.2.2.1.toNat r26.1).getD 2 0), .int .i64 ((putN 6 0 a1.2.1 a2.2.2.1.toNat r26.1).getD 3 0), .int .i64 ((putN 6 0 a1.2.1 a2.2.2.1.toNat r26.1).getD 4 0), .int .i64 ((putN 6 0 a1.2.1 a2.2.2.1.toNat r26.1).getD 5 0), v3, v4, .string a1.2.2.2.2.1, .string a1.2.2.2.2.2] 30 (0, 0))]] (Sto.Le.refl _) trivial (by exact rfl)
   intro ρ' τ36 vals u u1 Fv Fv1 hl36 hI hu hI1 hu1 hv hout
   obtain ⟨v32, rfl, hs33⟩ := hI
   obtain rfl := hI1
   refine st_gs [[(b7, .cells #[.string a2.1, .int .i64 a2.2.1, .int .i64 a2.2.2.1, .int .i64 a2.2.2.2.1, .int .i64 a2.2.2.2.2.1, .int .i64 a2.2.2.2.2.2.1, .int .i64 a2.2.2.2.2.2.2] 89 (0, 0))], [(ba0, .cells #[.pointer (some ⟨ba0p0, 0, none⟩), .int .i64 a0.2] 162 (0, 0))], [(ba0p0, .cells #[v32, .int .i64 r26.2.2.1, .int .i64 r26.2.2.2] 137 (0, 0))], [(ba1, .cells #[.int .i64 a1.1, .int .i64 ((putN 6 0 a1.2.1 a2.2.2.1.toNat r26.1).getD 0 0), .int .i64 ((putN 6 0 a1.2.1 a2.2.2.1.toNat r26.1).getD 1 0), .int .i64 ((putN 6 0 a1.2.1 a2.2.2.1.toNat r26.1).getD 2 0), .int .i64 ((putN 6 0 a1.2.1 a2.2.2.1.toNat r26.1).getD 3 0), .int .i64 ((putN 6 0 a1.2.1 a2.2.2.1.toNat r26.1).getD 4 0), .int .i64 ((putN 6 0 a1.2.1 a2.2.2.1.toNat r26.1).getD 5 0), v3, v4, .string a1.2.2.2.2.1, .string a1.2.2.2.2.2] 30 (0, 0))]] rfl ?_
   refine st_env (ρ' := []) trivial ?_
   refine Z 2 rfl ?_
   refine st_ord [1, 1, 1] _ rfl ?_
   obtain rfl := Eq.symm h
   exact st_fin (gs' := [[(ba0, .cells #[.pointer (some ⟨ba0p0, 0, none⟩), .int .i64 a0.2] 162 (0, 0))], [(ba0p0, .cells #[v32, .int .i64 r26.2.2.1, .int .i64 r26.2.2.2] 137 (0, 0))], [(ba1, .cells #[.int .i64 a1.1, .int .i64 ((putN 6 0 a1.2.1 a2.2.2.1.toNat r26.1).getD 0 0), .int .i64 ((putN 6 0 a1.2.1 a2.2.2.1.toNat r26.1).getD 1 0), .int .i64 ((putN 6 0 a1.2.1 a2.2.2.1.toNat r26.1).getD 2 0), .int .i64 ((putN 6 0 a1.2.1 a2.2.2.1.toNat r26.1).getD 3 0), .int .i64 ((putN 6 0 a1.2.1 a2.2.2.1.toNat r26.1).getD 4 0), .int .i64 ((putN 6 0 a1.2.1 a2.2.2.1.toNat r26.1).getD 5 0), v3, v4, .string a1.2.2.2.2.1, .string a1.2.2.2.2.2] 30 (0, 0))]]) Tryz.func94 rfl (List.Sublist.refl _) hl36 ⟨_, _, _, rfl, rfl, hs33, (hs5.up hl36), (hs6.up hl36)⟩
  ·refine Z 5 rfl ?_
   refine st_if rfl h (fun h => ?_) (fun h => ?_)
   ·refine Z 3 rfl ?_
    obtain ⟨r37, hr38, h⟩ := h
    refine st_ord [1, 1, 0, 0] _ rfl ?_
    refine st_call (foot := [[(ba0, .cells #[.pointer (some ⟨ba0p0, 0, none⟩), .int .i64 a0.2] 162 (0, 0))], [(ba0p0, .cells #[v1, .int .i64 a0p0.2.1, .int .i64 a0p0.2.2] 137 (0, 0))]]) rfl rfl rfl rfl rfl rfl (callV_fn z_en112 (body_reader_points_ok hr38 σ hs2)) ?_
    rintro vτ39 τ39 gsτ39 hl40 ⟨v41, v43, rfl, rfl, hs42, hs44⟩
    refine Z 2 rfl ?_
    refine o_store (j := 3) (vs := [v41]) (cs' := [.int .i64 a1.1, .int .i64 (a1.2.1.getD 0 0), .int .i64 (a1.2.1.getD 1 0), .int .i64 (a1.2.1.getD 2 0), .int .i64 (a1.2.1.getD 3 0), .int .i64 (a1.2.1.getD 4 0), .int .i64 (a1.2.1.getD 5 0), v41, v4, .string a1.2.2.2.2.1, .string a1.2.2.2.2.2]) rfl rfl rfl z_size27 rfl rfl (oneL_sl hs42) (ones_cons hs42.one' ones_nil) rfl rfl rfl ?_
    refine st_gs [[(ba0, .cells #[.pointer (some ⟨ba0p0, 0, none⟩), .int .i64 r37.2.1.2] 162 (0, 0))], [(ba0p0, .cells #[v43, .int .i64 r37.2.2.2.1, .int .i64 r37.2.2.2.2] 137 (0, 0))], [(b7, .cells #[.string a2.1, .int .i64 a2.2.1, .int .i64 a2.2.2.1, .int .i64 a2.2.2.2.1, .int .i64 a2.2.2.2.2.1, .int .i64 a2.2.2.2.2.2.1, .int .i64 a2.2.2.2.2.2.2] 89 (0, 0))], [(ba1, .cells #[.int .i64 a1.1, .int .i64 (a1.2.1.getD 0 0), .int .i64 (a1.2.1.getD 1 0), .int .i64 (a1.2.1.getD 2 0), .int .i64 (a1.2.1.getD 3 0), .int .i64 (a1.2.1.getD 4 0), .int .i64 (a1.2.1.getD 5 0), v41, v4, .string a1.2.2.2.2.1, .string a1.2.2.2.2.2] 30 (0, 0))]] rfl ?_
    refine Z 2 rfl ?_
    refine st_ord [0, 0, 1] _ rfl ?_
    obtain rfl := Eq.symm h
    exact st_fin (gs' := [[(ba0, .cells #[.pointer (some ⟨ba0p0, 0, none⟩), .int .i64 r37.2.1.2] 162 (0, 0))], [(ba0p0, .cells #[v43, .int .i64 r37.2.2.2.1, .int .i64 r37.2.2.2.2] 137 (0, 0))], [(ba1, .cells #[.int .i64 a1.1, .int .i64 (a1.2.1.getD 0 0), .int .i64 (a1.2.1.getD 1 0), .int .i64 (a1.2.1.getD 2 0), .int .i64 (a1.2.1.getD 3 0), .int .i64 (a1.2.1.getD 4 0), .int .i64 (a1.2.1.getD 5 0), v41, v4, .string a1.2.2.2.2.1, .string a1.2.2.2.2.2] 30 (0, 0))]]) Tryz.func94 rfl (List.Sublist.refl _) hl40 ⟨_, _, _, rfl, rfl, hs44, hs42, (hs6.up hl40)⟩
   ·refine Z 5 rfl ?_
    refine st_if rfl h (fun h => ?_) (fun h => ?_)
    ·refine Z 3 rfl ?_
     obtain ⟨r45, hr46, h⟩ := h
     refine st_ord [1, 1, 0, 0] _ rfl ?_
     refine st_call (foot := [[(ba0, .cells #[.pointer (some ⟨ba0p0, 0, none⟩), .int .i64 a0.2] 162 (0, 0))], [(ba0p0, .cells #[v1, .int .i64 a0p0.2.1, .int .i64 a0p0.2.2] 137 (0, 0))]]) rfl rfl rfl rfl rfl rfl (callV_fn z_en113 (body_reader_cells_ok hr46 σ hs2)) ?_
     rintro vτ47 τ47 gsτ47 hl48 ⟨v49, v51, rfl, rfl, hs50, hs52⟩
     refine Z 2 rfl ?_
     refine o_store (j := 3) (vs := [v49]) (cs' := [.int .i64 a1.1, .int .i64 (a1.2.1.getD 0 0), .int .i64 (a1.2.1.getD 1 0), .int .i64 (a1.2.1.getD 2 0), .int .i64 (a1.2.1.getD 3 0), .int .i64 (a1.2.1.getD 4 0), .int .i64 (a1.2.1.getD 5 0), v3, v49, .string a1.2.2.2.2.1, .string a1.2.2.2.2.2]) rfl rfl rfl z_size28 rfl rfl (oneL_sl hs50) (ones_cons hs50.one' ones_nil) rfl rfl rfl ?_
     refine st_gs [[(ba0, .cells #[.pointer (some ⟨ba0p0, 0, none⟩), .int .i64 r45.2.1.2] 162 (0, 0))], [(ba0p0, .cells #[v51, .int .i64 r45.2.2.2.1, .int .i64 r45.2.2.2.2] 137 (0, 0))], [(b7, .cells #[.string a2.1, .int .i64 a2.2.1, .int .i64 a2.2.2.1, .int .i64 a2.2.2.2.1, .int .i64 a2.2.2.2.2.1, .int .i64 a2.2.2.2.2.2.1, .int .i64 a2.2.2.2.2.2.2] 89 (0, 0))], [(ba1, .cells #[.int .i64 a1.1, .int .i64 (a1.2.1.getD 0 0), .int .i64 (a1.2.1.getD 1 0), .int .i64 (a1.2.1.getD 2 0), .int .i64 (a1.2.1.getD 3 0), .int .i64 (a1.2.1.getD 4 0), .int .i64 (a1.2.1.getD 5 0), v3, v49, .string a1.2.2.2.2.1, .string a1.2.2.2.2.2] 30 (0, 0))]] rfl ?_
     refine Z 2 rfl ?_
     refine st_ord [0, 0, 1] _ rfl ?_
     obtain rfl := Eq.symm h
     exact st_fin (gs' := [[(ba0, .cells #[.pointer (some ⟨ba0p0, 0, none⟩), .int .i64 r45.2.1.2] 162 (0, 0))], [(ba0p0, .cells #[v51, .int .i64 r45.2.2.2.1, .int .i64 r45.2.2.2.2] 137 (0, 0))], [(ba1, .cells #[.int .i64 a1.1, .int .i64 (a1.2.1.getD 0 0), .int .i64 (a1.2.1.getD 1 0), .int .i64 (a1.2.1.getD 2 0), .int .i64 (a1.2.1.getD 3 0), .int .i64 (a1.2.1.getD 4 0), .int .i64 (a1.2.1.getD 5 0), v3, v49, .string a1.2.2.2.2.1, .string a1.2.2.2.2.2] 30 (0, 0))]]) Tryz.func94 rfl (List.Sublist.refl _) hl48 ⟨_, _, _, rfl, rfl, hs52, (hs5.up hl48), hs50⟩
    ·refine Z 5 rfl ?_
     refine st_if rfl h (fun h => ?_) (fun h => ?_)
     ·refine ZZ 5 [0] rfl rfl ?_
      obtain ⟨r53, hr54, h⟩ := h
      refine st_ord [1, 1, 0, 0] _ rfl ?_
      refine st_call (foot := [[(ba0, .cells #[.pointer (some ⟨ba0p0, 0, none⟩), .int .i64 a0.2] 162 (0, 0))], [(ba0p0, .cells #[v1, .int .i64 a0p0.2.1, .int .i64 a0p0.2.2] 137 (0, 0))]]) rfl rfl rfl rfl rfl rfl (callV_fn z_en114 (body_reader_text_ok hr54 σ hs2)) ?_
      rintro vτ55 τ55 gsτ55 hl56 ⟨v57, rfl, rfl, hs58⟩
      refine ZZ 5 [3] rfl rfl ?_
      refine st_ord [0, 0, 1] _ rfl ?_
      obtain rfl := Eq.symm h
      exact st_fin (gs' := [[(ba0, .cells #[.pointer (some ⟨ba0p0, 0, none⟩), .int .i64 r53.2.1.2] 162 (0, 0))], [(ba0p0, .cells #[v57, .int .i64 r53.2.2.2.1, .int .i64 r53.2.2.2.2] 137 (0, 0))], [(ba1, .cells #[.int .i64 a1.1, .int .i64 (a1.2.1.getD 0 0), .int .i64 (a1.2.1.getD 1 0), .int .i64 (a1.2.1.getD 2 0), .int .i64 (a1.2.1.getD 3 0), .int .i64 (a1.2.1.getD 4 0), .int .i64 (a1.2.1.getD 5 0), v3, v4, .string r53.1, .string a1.2.2.2.2.2] 30 (0, 0))]]) Tryz.func94 rfl (List.Sublist.refl _) hl56 ⟨_, _, _, rfl, rfl, hs58, (hs5.up hl56), (hs6.up hl56)⟩
     ·refine Z 5 rfl ?_
      refine st_if rfl h (fun h => ?_) (fun h => ?_)
      ·refine ZZ 5 [0] rfl rfl ?_
       obtain ⟨r59, hr60, h⟩ := h
       refine st_ord [1, 1, 0, 0] _ rfl ?_
       refine st_call (foot := [[(ba0, .cells #[.pointer (some ⟨ba0p0, 0, none⟩), .int .i64 a0.2] 162 (0, 0))], [(ba0p0, .cells #[v1, .int .i64 a0p0.2.1, .int .i64 a0p0.2.2] 137 (0, 0))]]) rfl rfl rfl rfl rfl rfl (callV_fn z_en114 (body_reader_text_ok hr60 σ hs2)) ?_
       rintro vτ61 τ61 gsτ61 hl62 ⟨v63, rfl, rfl, hs64⟩
       refine ZZ 5 [3] rfl rfl ?_
       refine st_ord [0, 0, 1] _ rfl ?_
       obtain rfl := Eq.symm h
       exact st_fin (gs' := [[(ba0, .cells #[.pointer (some ⟨ba0p0, 0, none⟩), .int .i64 r59.2.1.2] 162 (0, 0))], [(ba0p0, .cells #[v63, .int .i64 r59.2.2.2.1, .int .i64 r59.2.2.2.2] 137 (0, 0))], [(ba1, .cells #[.int .i64 a1.1, .int .i64 (a1.2.1.getD 0 0), .int .i64 (a1.2.1.getD 1 0), .int .i64 (a1.2.1.getD 2 0), .int .i64 (a1.2.1.getD 3 0), .int .i64 (a1.2.1.getD 4 0), .int .i64 (a1.2.1.getD 5 0), v3, v4, .string a1.2.2.2.2.1, .string r59.1] 30 (0, 0))]]) Tryz.func94 rfl (List.Sublist.refl _) hl62 ⟨_, _, _, rfl, rfl, hs64, (hs5.up hl62), (hs6.up hl62)⟩
      ·refine Z 2 rfl ?_
       refine st_ord [1, 1, 1] _ rfl ?_
       obtain rfl := Eq.symm h
       exact st_fin (gs' := [[(ba0, .cells #[.pointer (some ⟨ba0p0, 0, none⟩), .int .i64 a0.2] 162 (0, 0))], [(ba0p0, .cells #[v1, .int .i64 a0p0.2.1, .int .i64 a0p0.2.2] 137 (0, 0))], [(ba1, .cells #[.int .i64 a1.1, .int .i64 (a1.2.1.getD 0 0), .int .i64 (a1.2.1.getD 1 0), .int .i64 (a1.2.1.getD 2 0), .int .i64 (a1.2.1.getD 3 0), .int .i64 (a1.2.1.getD 4 0), .int .i64 (a1.2.1.getD 5 0), v3, v4, .string a1.2.2.2.2.1, .string a1.2.2.2.2.2] 30 (0, 0))]]) Tryz.func94 rfl (List.Sublist.refl _) (Sto.Le.refl _) ⟨_, _, _, rfl, rfl, hs2, hs5, hs6⟩
theorem lens_Lens_End_ok {a0 : List Int × Int × Int} {ba0 : Nat} {v1 : Value} {r : Int} (h : lens_Lens_End a0 r) (σ : Sto) (hs2 : Sl (kI .u8) σ v1 a0.1) :
    Does Tryz.prog 84 [.pointer (some ⟨ba0, 0, none⟩)] σ [[(ba0, .cells [v1, .int .i64 a0.2.1, .int .i64 a0.2.2].toArray 137 (0, 0))]] (fun v τ gs => gs = [[(ba0, .cells [v1, .int .i64 a0.2.1, .int .i64 a0.2.2].toArray 137 (0, 0))]] ∧ .int .i64 r = v) := by
 refine call_of Tryz.func84 Tryz.ntmps84 rfl rfl (fun cs fs => ?_)
 refine Z 8 rfl ?_
 obtain ⟨r3, hr4, h⟩ := h
 refine st_call (foot := [[(ba0, .cells #[v1, .int .i64 a0.2.1, .int .i64 a0.2.2] 137 (0, 0))]]) rfl rfl rfl rfl rfl rfl (callV_fn z_en63 (lens_Lens_Err_ok hr4 σ hs2)) ?_
 rintro vτ5 τ5 gsτ5 hl6 ⟨rfl, rfl⟩
 refine Z 3 rfl ?_
 refine st_cut (fun ρ τ7 gs => ∃ (s7 : Bool), lens_Lens_End_j1 r3 s7 r ∧ τ5.Le τ7 ∧ ESub ρ [(2, .int .i64 0), (3, .int .i64 r3), (12, .bool s7)] ∧ gs = [[(ba0, .cells #[v1, .int .i64 a0.2.1, .int .i64 a0.2.2] 137 (0, 0))]]) ?_ (fun hk7 => ?_)
 ·rintro ρ7 τ7 gs7 ⟨s7, h, hl7, hρ, rfl⟩
  refine st_es hρ ?_
  refine st_if rfl h (fun h => ?_) (fun h => ?_)
  ·refine Z 5 rfl ?_
   obtain rfl := Eq.symm h
   exact st_ret (gs' := [[(ba0, .cells #[v1, .int .i64 a0.2.1, .int .i64 a0.2.2] 137 (0, 0))]]) Tryz.func84 rfl (List.Sublist.refl _) (hl6.trans hl7) ⟨rfl, rfl⟩
  ·refine Z 5 rfl ?_
   obtain rfl := Eq.symm h
   exact st_ret (gs' := [[(ba0, .cells #[v1, .int .i64 a0.2.1, .int .i64 a0.2.2] 137 (0, 0))]]) Tryz.func84 rfl (List.Sublist.refl _) (hl6.trans hl7) ⟨rfl, rfl⟩
 refine Z 3 rfl ?_
 refine o_mif rfl rfl rfl rfl h (fun h => ?_) (fun h => ?_)
 ·refine Z 5 rfl ?_
  exact hk7 _ _ _ ⟨true, h, (Sto.Le.refl _), rfl, rfl⟩
 ·refine o_move rfl rfl rfl rfl ?_
  obtain ⟨r8, hr9, h⟩ := h
  refine st_call (foot := [[(ba0, .cells #[v1, .int .i64 a0.2.1, .int .i64 a0.2.2] 137 (0, 0))]]) rfl rfl rfl rfl rfl rfl (callV_fn z_en60 (lens_Lens_Left_ok hr9 τ5 (hs2.up hl6))) ?_
  rintro vτ10 τ10 gsτ10 hl11 ⟨rfl, rfl⟩
  refine Z 3 rfl ?_
  exact hk7 _ _ _ ⟨(decide (r8 = 0)), h, hl11, rfl, rfl⟩
theorem slices_Clone_msg_Point_msg_Point_ok {a0 : List (Int × Int)} {v1 : Value} {r : (List (Int × Int))} (h : slices_Clone_msg_Point_msg_Point a0 r) (σ : Sto) (hs2 : Sl (kP (kI .i64) (kI .i64)) σ v1 a0) :
    Does Tryz.prog 124 [v1] σ [] (fun v τ gs => ∃ (v18 : Value), gs = [] ∧ v18 = v ∧ Sl (kP (kI .i64) (kI .i64)) τ v18 r) := by
 refine call_of Tryz.func124 Tryz.ntmps124 rfl rfl (fun cs fs => ?_)
 refine Z 8 rfl ?_
 refine o_slNil rfl rfl rfl Tryz.underlying27 rfl hs2 rfl (fun b3 hb4 => ?_)
 replace h := h b3 hb4
 refine st_end ?_
 refine st_if rfl h (fun h => ?_) (fun h => ?_)
 ·refine Z 4 rfl ?_
  obtain rfl := Eq.symm h
  exact st_ret (gs' := []) Tryz.func124 rfl (List.Sublist.refl _) (Sto.Le.refl _) ⟨_, rfl, rfl, Sl.nil⟩
 ·refine Z 3 rfl ?_
  refine o_lit (dk := (kP (kI .i64) (kI .i64))) (xs := ([] : List (Int × Int))) (ps := []) (cs := []) rfl rfl rfl z_slT27 z_zero84 trivial rfl rfl rfl rfl Kd.Many.nil (fun v5 g6 ho7 => ?_)
  refine o_move rfl rfl rfl rfl ?_
  obtain ⟨hf11, hf12, h⟩ := h
  refine o_append (dk := (kP (kI .i64) (kI .i64))) (xs := ([] : List (Int × Int))) (ys := a0) rfl rfl rfl rfl z_slT27 rfl ho7 rfl (Sl.src hs2) hf11 hf12 (fun v8 g9 ho10 => ?_)
  refine Z 2 rfl ?_
  refine st_freeze (fun τ13 hl14 hg15 => ?_)
  have hs16 := ho10.freeze hl14 hg15
  obtain rfl := Eq.symm h
  exact st_ret (gs' := []) Tryz.func124 rfl (List.Sublist.refl _) hl14 ⟨_, rfl, rfl, hs16⟩
theorem slices_Clone_int_int_ok {a0 : List Int} {v1 : Value} {r : List Int} (h : slices_Clone_int_int a0 r) (σ : Sto) (hs2 : Sl (kI .i64) σ v1 a0) :
    Does Tryz.prog 125 [v1] σ [] (fun v τ gs => ∃ (v18 : Value), gs = [] ∧ v18 = v ∧ Sl (kI .i64) τ v18 r) := by
 refine call_of Tryz.func125 Tryz.ntmps125 rfl rfl (fun cs fs => ?_)
 refine Z 8 rfl ?_
 refine o_slNil rfl rfl rfl Tryz.underlying28 rfl hs2 rfl (fun b3 hb4 => ?_)
 replace h := h b3 hb4
 refine st_end ?_
 refine st_if rfl h (fun h => ?_) (fun h => ?_)
 ·refine Z 4 rfl ?_
  obtain rfl := Eq.symm h
  exact st_ret (gs' := []) Tryz.func125 rfl (List.Sublist.refl _) (Sto.Le.refl _) ⟨_, rfl, rfl, Sl.nil⟩
 ·refine Z 3 rfl ?_
  refine o_lit (dk := (kI .i64)) (xs := ([] : List Int)) (ps := []) (cs := []) rfl rfl rfl z_slT28 z_zero3 trivial rfl rfl rfl rfl Kd.Many.nil (fun v5 g6 ho7 => ?_)
  refine o_move rfl rfl rfl rfl ?_
  obtain ⟨hf11, hf12, h⟩ := h
  refine o_append (dk := (kI .i64)) (xs := ([] : List Int)) (ys := a0) rfl rfl rfl rfl z_slT28 rfl ho7 rfl (Sl.src hs2) hf11 hf12 (fun v8 g9 ho10 => ?_)
  refine Z 2 rfl ?_
  refine st_freeze (fun τ13 hl14 hg15 => ?_)
  have hs16 := ho10.freeze hl14 hg15
  obtain rfl := Eq.symm h
  exact st_ret (gs' := []) Tryz.func125 rfl (List.Sublist.refl _) hl14 ⟨_, rfl, rfl, hs16⟩
theorem msg_Copy_ok {a0 : Int × List Int × List (Int × Int) × List Int × ByteArray × ByteArray} {v1 : Value} {v2 : Value} {r : (Int × List Int × List (Int × Int) × List Int × ByteArray × ByteArray)} (h : msg_Copy a0 r) (σ : Sto) (hs3 : Sl (kP (kI .i64) (kI .i64)) σ v1 a0.2.2.1) (hs4 : Sl (kI .i64) σ v2 a0.2.2.2.1) :
    Does Tryz.prog 115 [.agg [.int .i64 a0.1, .int .i64 (a0.2.1.getD 0 0), .int .i64 (a0.2.1.getD 1 0), .int .i64 (a0.2.1.getD 2 0), .int .i64 (a0.2.1.getD 3 0), .int .i64 (a0.2.1.getD 4 0), .int .i64 (a0.2.1.getD 5 0), v1, v2, .string a0.2.2.2.2.1, .string a0.2.2.2.2.2].toArray] σ [] (fun v τ gs => ∃ (v20 : Value) (v21 : Value), gs = [] ∧ .agg [.int .i64 r.1, .int .i64 (r.2.1.getD 0 0), .int .i64 (r.2.1.getD 1 0), .int .i64 (r.2.1.getD 2 0), .int .i64 (r.2.1.getD 3 0), .int .i64 (r.2.1.getD 4 0), .int .i64 (r.2.1.getD 5 0), v20, v21, .string r.2.2.2.2.1, .string r.2.2.2.2.2].toArray = v ∧ Sl (kP (kI .i64) (kI .i64)) τ v20 r.2.2.1 ∧ Sl (kI .i64) τ v21 r.2.2.2.1) := by
 refine call_of Tryz.func115 Tryz.ntmps115 rfl rfl (fun cs fs => ?_)
 refine Z 2 rfl ?_
 refine o_box (cs := [.int .i64 a0.1, .int .i64 (a0.2.1.getD 0 0), .int .i64 (a0.2.1.getD 1 0), .int .i64 (a0.2.1.getD 2 0), .int .i64 (a0.2.1.getD 3 0), .int .i64 (a0.2.1.getD 4 0), .int .i64 (a0.2.1.getD 5 0), v1, v2, .string a0.2.2.2.2.1, .string a0.2.2.2.2.2]) rfl rfl rfl rfl rfl (fun b5 => ?_)
 refine o_alloc rfl rfl rfl z_zero30 (fun b6 => ?_)
 refine Z 2 rfl ?_
 obtain ⟨r7, hr8, r13, hr14, h⟩ := h
 refine st_draw 7 (dl [.v (.pointer (some ⟨b5, 7, none⟩)), .v (v1), .t fun τ v => ∃ (v11 : Value), (v11 : Value) = v ∧ Sl (kP (kI .i64) (kI .i64)) τ v11 r7, .v (.pointer (some ⟨b5, 8, none⟩)), .v (v2), .t fun τ v => ∃ (v17 : Value), (v17 : Value) = v ∧ Sl (kI .i64) τ v17 r13, .v (.pointer (some ⟨b5, 7, none⟩))]) (fun _ _ => []) z_mix rfl (dl_mono ⟨fun _ _ _ hl ⟨v11, hv, hs12⟩ => ⟨v11, hv, hs12.up hl⟩, ⟨fun _ _ _ hl ⟨v17, hv, hs18⟩ => ⟨v17, hv, hs18.up hl⟩, trivial⟩⟩) (allB_cons (allB_cons (allB_cons (allB_cons (allB_cons (allB_cons (allB_cons allB_nil (p1 dA)) ?_) ?_) (p1 dA)) ?_) ?_) (p1 dA)) ?_
 ·intro ρ' τ pool rs hl hd hout hk
  obtain ⟨_, e0, rfl⟩ := hd 0 rfl
  refine o_load (j := 1) (v := v1) rfl rfl rfl z_sc27 e0 rfl rfl ?_
  exact st_addNil (hk _ _ (Sto.Le.refl _) rfl)
 ·intro ρ' τ pool rs hl hd hout hk
  obtain ⟨_, e1, rfl⟩ := hd 1 rfl
  refine st_call (foot := []) rfl rfl rfl rfl (evs_cons e1 rfl) rfl (callV_fn z_en124 (slices_Clone_msg_Point_msg_Point_ok hr8 τ (hs3.up hl))) ?_
  rintro vτ9 τ9 gsτ9 hl10 ⟨v11, rfl, rfl, hs12⟩
  exact st_addNil (hk _ _ hl10 ⟨v11, rfl, hs12⟩)
 ·intro ρ' τ pool rs hl hd hout hk
  obtain ⟨_, e3, rfl⟩ := hd 3 rfl
  refine o_load (j := 1) (v := v2) rfl rfl rfl z_sc28 e3 rfl rfl ?_
  exact st_addNil (hk _ _ (Sto.Le.refl _) rfl)
 ·intro ρ' τ pool rs hl hd hout hk
  obtain ⟨_, e4, rfl⟩ := hd 4 rfl
  refine st_call (foot := []) rfl rfl rfl rfl (evs_cons e4 rfl) rfl (callV_fn z_en125 (slices_Clone_int_int_ok hr14 τ (hs4.up hl))) ?_
  rintro vτ15 τ15 gsτ15 hl16 ⟨v17, rfl, rfl, hs18⟩
  exact st_addNil (hk _ _ hl16 ⟨v17, rfl, hs18⟩)
 intro ρ' τ19 vals hl19 hv hout
 obtain ⟨l2, v11, t2, hs12⟩ := hv 2 (by decide)
 replace l2 : Eng.look ρ' 5 = some (v11) := l2.trans (congrArg some (Eq.symm t2))
 obtain ⟨l5, v17, t5, hs18⟩ := hv 5 (by decide)
 replace l5 : Eng.look ρ' 8 = some (v17) := l5.trans (congrArg some (Eq.symm t5))
 refine st_ord [0, 0] _ rfl ?_
 refine st_env (ρ' := [(5, v11), (8, v17), (9, .pointer (some ⟨b5, 7, none⟩)), (1, .pointer (some ⟨b5, 0, none⟩)), (2, .pointer (some ⟨b6, 0, none⟩))]) ⟨l2, l5, (lv1 hv 6 rfl rfl), (hout 1 rfl).trans rfl, (hout 2 rfl).trans rfl, trivial⟩ ?_
 refine o_store (j := 1) (vs := [v11]) (cs' := [.int .i64 a0.1, .int .i64 (a0.2.1.getD 0 0), .int .i64 (a0.2.1.getD 1 0), .int .i64 (a0.2.1.getD 2 0), .int .i64 (a0.2.1.getD 3 0), .int .i64 (a0.2.1.getD 4 0), .int .i64 (a0.2.1.getD 5 0), v11, v2, .string a0.2.2.2.2.1, .string a0.2.2.2.2.2]) rfl rfl rfl z_size27 rfl rfl (oneL_sl hs12) (ones_cons hs12.one' ones_nil) rfl rfl rfl ?_
 refine st_gs [[(b6, .cells #[.int .i64 0, .int .i64 0, .int .i64 0, .int .i64 0, .int .i64 0, .int .i64 0, .int .i64 0, .slice none 0 0, .slice none 0 0, .string (bstr []), .string (bstr [])] 30 (0, 0))], [(b5, .cells #[.int .i64 a0.1, .int .i64 (a0.2.1.getD 0 0), .int .i64 (a0.2.1.getD 1 0), .int .i64 (a0.2.1.getD 2 0), .int .i64 (a0.2.1.getD 3 0), .int .i64 (a0.2.1.getD 4 0), .int .i64 (a0.2.1.getD 5 0), v11, v2, .string a0.2.2.2.2.1, .string a0.2.2.2.2.2] 30 (0, 0))]] rfl ?_
 refine o_fieldAddr rfl rfl rfl z_field30_3 rfl ?_
 refine o_store (j := 1) (vs := [v17]) (cs' := [.int .i64 a0.1, .int .i64 (a0.2.1.getD 0 0), .int .i64 (a0.2.1.getD 1 0), .int .i64 (a0.2.1.getD 2 0), .int .i64 (a0.2.1.getD 3 0), .int .i64 (a0.2.1.getD 4 0), .int .i64 (a0.2.1.getD 5 0), v11, v17, .string a0.2.2.2.2.1, .string a0.2.2.2.2.2]) rfl rfl rfl z_size28 rfl rfl (oneL_sl hs18) (ones_cons hs18.one' ones_nil) rfl rfl rfl ?_
 refine st_gs [[(b6, .cells #[.int .i64 0, .int .i64 0, .int .i64 0, .int .i64 0, .int .i64 0, .int .i64 0, .int .i64 0, .slice none 0 0, .slice none 0 0, .string (bstr []), .string (bstr [])] 30 (0, 0))], [(b5, .cells #[.int .i64 a0.1, .int .i64 (a0.2.1.getD 0 0), .int .i64 (a0.2.1.getD 1 0), .int .i64 (a0.2.1.getD 2 0), .int .i64 (a0.2.1.getD 3 0), .int .i64 (a0.2.1.getD 4 0), .int .i64 (a0.2.1.getD 5 0), v11, v17, .string a0.2.2.2.2.1, .string a0.2.2.2.2.2] 30 (0, 0))]] rfl ?_
 refine ZZ 4 [1] rfl rfl ?_
 refine o_store (j := 0) (vs := [.int .i64 a0.1, .int .i64 (a0.2.1.getD 0 0), .int .i64 (a0.2.1.getD 1 0), .int .i64 (a0.2.1.getD 2 0), .int .i64 (a0.2.1.getD 3 0), .int .i64 (a0.2.1.getD 4 0), .int .i64 (a0.2.1.getD 5 0), v11, v17, .string a0.2.2.2.2.1, .string a0.2.2.2.2.2]) (cs' := [.int .i64 a0.1, .int .i64 (a0.2.1.getD 0 0), .int .i64 (a0.2.1.getD 1 0), .int .i64 (a0.2.1.getD 2 0), .int .i64 (a0.2.1.getD 3 0), .int .i64 (a0.2.1.getD 4 0), .int .i64 (a0.2.1.getD 5 0), v11, v17, .string a0.2.2.2.2.1, .string a0.2.2.2.2.2]) rfl rfl rfl z_size30 rfl rfl rfl (ones_cons rfl (ones_cons rfl (ones_cons rfl (ones_cons rfl (ones_cons rfl (ones_cons rfl (ones_cons rfl (ones_cons hs12.one' (ones_cons hs18.one' (ones_cons rfl (ones_cons rfl ones_nil))))))))))) rfl rfl rfl ?_
 refine st_gs [[(b6, .cells #[.int .i64 a0.1, .int .i64 (a0.2.1.getD 0 0), .int .i64 (a0.2.1.getD 1 0), .int .i64 (a0.2.1.getD 2 0), .int .i64 (a0.2.1.getD 3 0), .int .i64 (a0.2.1.getD 4 0), .int .i64 (a0.2.1.getD 5 0), v11, v17, .string a0.2.2.2.2.1, .string a0.2.2.2.2.2] 30 (0, 0))], [(b5, .cells #[.int .i64 a0.1, .int .i64 (a0.2.1.getD 0 0), .int .i64 (a0.2.1.getD 1 0), .int .i64 (a0.2.1.getD 2 0), .int .i64 (a0.2.1.getD 3 0), .int .i64 (a0.2.1.getD 4 0), .int .i64 (a0.2.1.getD 5 0), v11, v17, .string a0.2.2.2.2.1, .string a0.2.2.2.2.2] 30 (0, 0))]] rfl ?_
 refine st_end ?_
 obtain rfl := Eq.symm h
 exact st_retC (gs' := []) [.agg #[.int .i64 a0.1, .int .i64 (a0.2.1.getD 0 0), .int .i64 (a0.2.1.getD 1 0), .int .i64 (a0.2.1.getD 2 0), .int .i64 (a0.2.1.getD 3 0), .int .i64 (a0.2.1.getD 4 0), .int .i64 (a0.2.1.getD 5 0), v11, v17, .string a0.2.2.2.2.1, .string a0.2.2.2.2.2]] Tryz.func115 ⟨⟨_, _, _, _, rfl, mem_flat 0 rfl, fun w hw => cellOfN (vs := [.int .i64 a0.1, .int .i64 (a0.2.1.getD 0 0), .int .i64 (a0.2.1.getD 1 0), .int .i64 (a0.2.1.getD 2 0), .int .i64 (a0.2.1.getD 3 0), .int .i64 (a0.2.1.getD 4 0), .int .i64 (a0.2.1.getD 5 0), v11, v17, .string a0.2.2.2.2.1, .string a0.2.2.2.2.2]) z_agg30 rfl w hw⟩, trivial⟩ (by simp) hl19 ⟨_, _, rfl, rfl, hs12, hs18⟩
theorem msg_Project_ok {a0 : Int × List Int × List (Int × Int) × List Int × ByteArray × ByteArray} {a1 : Int} {v1 : Value} {v2 : Value} {r : (Int × List Int × List (Int × Int) × List Int × ByteArray × ByteArray)} (h : msg_Project a0 a1 r) (σ : Sto) (hs3 : Sl (kP (kI .i64) (kI .i64)) σ v1 a0.2.2.1) (hs4 : Sl (kI .i64) σ v2 a0.2.2.2.1) :
    Does Tryz.prog 96 [.agg [.int .i64 a0.1, .int .i64 (a0.2.1.getD 0 0), .int .i64 (a0.2.1.getD 1 0), .int .i64 (a0.2.1.getD 2 0), .int .i64 (a0.2.1.getD 3 0), .int .i64 (a0.2.1.getD 4 0), .int .i64 (a0.2.1.getD 5 0), v1, v2, .string a0.2.2.2.2.1, .string a0.2.2.2.2.2].toArray, .int .i64 a1] σ [] (fun v τ gs => ∃ (v54 : Value) (v55 : Value), gs = [] ∧ .agg [.int .i64 r.1, .int .i64 (r.2.1.getD 0 0), .int .i64 (r.2.1.getD 1 0), .int .i64 (r.2.1.getD 2 0), .int .i64 (r.2.1.getD 3 0), .int .i64 (r.2.1.getD 4 0), .int .i64 (r.2.1.getD 5 0), v54, v55, .string r.2.2.2.2.1, .string r.2.2.2.2.2].toArray = v ∧ Sl (kP (kI .i64) (kI .i64)) τ v54 r.2.2.1 ∧ Sl (kI .i64) τ v55 r.2.2.2.1) := by
 refine call_of Tryz.func96 Tryz.ntmps96 rfl rfl (fun cs fs => ?_)
 refine Z 2 rfl ?_
 refine o_box (cs := [.int .i64 a0.1, .int .i64 (a0.2.1.getD 0 0), .int .i64 (a0.2.1.getD 1 0), .int .i64 (a0.2.1.getD 2 0), .int .i64 (a0.2.1.getD 3 0), .int .i64 (a0.2.1.getD 4 0), .int .i64 (a0.2.1.getD 5 0), v1, v2, .string a0.2.2.2.2.1, .string a0.2.2.2.2.2]) rfl rfl rfl rfl rfl (fun b5 => ?_)
 refine o_alloc rfl rfl rfl z_zero30 (fun b6 => ?_)
 refine ZZ 5 [1] rfl rfl ?_
 obtain ⟨r7, hr8, h⟩ := h
 refine st_call (foot := []) rfl rfl rfl rfl rfl rfl (callV_fn z_en115 (msg_Copy_ok hr8 σ hs3 hs4)) ?_
 rintro vτ9 τ9 gsτ9 hl10 ⟨v11, v12, rfl, rfl, hs13, hs14⟩
 refine o_store (j := 1) (vs := [.int .i64 r7.1, .int .i64 (r7.2.1.getD 0 0), .int .i64 (r7.2.1.getD 1 0), .int .i64 (r7.2.1.getD 2 0), .int .i64 (r7.2.1.getD 3 0), .int .i64 (r7.2.1.getD 4 0), .int .i64 (r7.2.1.getD 5 0), v11, v12, .string r7.2.2.2.2.1, .string r7.2.2.2.2.2]) (cs' := [.int .i64 r7.1, .int .i64 (r7.2.1.getD 0 0), .int .i64 (r7.2.1.getD 1 0), .int .i64 (r7.2.1.getD 2 0), .int .i64 (r7.2.1.getD 3 0), .int .i64 (r7.2.1.getD 4 0), .int .i64 (r7.2.1.getD 5 0), v11, v12, .string r7.2.2.2.2.1, .string r7.2.2.2.2.2]) rfl rfl rfl z_size30 rfl rfl rfl (ones_cons rfl (ones_cons rfl (ones_cons rfl (ones_cons rfl (ones_cons rfl (ones_cons rfl (ones_cons rfl (ones_cons hs13.one' (ones_cons hs14.one' (ones_cons rfl (ones_cons rfl ones_nil))))))))))) rfl rfl rfl ?_
 refine st_gs [[(b6, .cells #[.int .i64 0, .int .i64 0, .int .i64 0, .int .i64 0, .int .i64 0, .int .i64 0, .int .i64 0, .slice none 0 0, .slice none 0 0, .string (bstr []), .string (bstr [])] 30 (0, 0))], [(b5, .cells #[.int .i64 r7.1, .int .i64 (r7.2.1.getD 0 0), .int .i64 (r7.2.1.getD 1 0), .int .i64 (r7.2.1.getD 2 0), .int .i64 (r7.2.1.getD 3 0), .int .i64 (r7.2.1.getD 4 0), .int .i64 (r7.2.1.getD 5 0), v11, v12, .string r7.2.2.2.2.1, .string r7.2.2.2.2.2] 30 (0, 0))]] rfl ?_
 refine Z 4 rfl ?_
 refine st_cut (fun ρ τ15 gs => ∃ (s15 : Int × Int × Int × Int × Int × Int × Int × (List (Int × Int)) × List Int × ByteArray × ByteArray) (v16 : Value) (v18 : Value), msg_Project_j1 s15 r ∧ τ9.Le τ15 ∧ ESub ρ [(2, .pointer (some ⟨b5, 0, none⟩)), (4, .pointer (some ⟨b6, 0, none⟩))] ∧ gs = [[(b5, .cells #[.int .i64 s15.1, .int .i64 s15.2.1, .int .i64 s15.2.2.1, .int .i64 s15.2.2.2.1, .int .i64 s15.2.2.2.2.1, .int .i64 s15.2.2.2.2.2.1, .int .i64 s15.2.2.2.2.2.2.1, v16, v18, .string s15.2.2.2.2.2.2.2.2.2.1, .string s15.2.2.2.2.2.2.2.2.2.2] 30 (0, 0))], [(b6, .cells #[.int .i64 0, .int .i64 0, .int .i64 0, .int .i64 0, .int .i64 0, .int .i64 0, .int .i64 0, .slice none 0 0, .slice none 0 0, .string (bstr []), .string (bstr [])] 30 (0, 0))]] ∧ Sl (kP (kI .i64) (kI .i64)) τ15 v16 s15.2.2.2.2.2.2.2.1 ∧ Sl (kI .i64) τ15 v18 s15.2.2.2.2.2.2.2.2.1) ?_ (fun hk15 => ?_)
 ·rintro ρ15 τ15 gs15 ⟨s15, v16, v18, h, hl15, hρ, rfl, hs17, hs19⟩
  refine st_es hρ ?_
  refine ZZ 3 [0] rfl rfl ?_
  refine o_store (j := 1) (vs := [.int .i64 s15.1, .int .i64 s15.2.1, .int .i64 s15.2.2.1, .int .i64 s15.2.2.2.1, .int .i64 s15.2.2.2.2.1, .int .i64 s15.2.2.2.2.2.1, .int .i64 s15.2.2.2.2.2.2.1, v16, v18, .string s15.2.2.2.2.2.2.2.2.2.1, .string s15.2.2.2.2.2.2.2.2.2.2]) (cs' := [.int .i64 s15.1, .int .i64 s15.2.1, .int .i64 s15.2.2.1, .int .i64 s15.2.2.2.1, .int .i64 s15.2.2.2.2.1, .int .i64 s15.2.2.2.2.2.1, .int .i64 s15.2.2.2.2.2.2.1, v16, v18, .string s15.2.2.2.2.2.2.2.2.2.1, .string s15.2.2.2.2.2.2.2.2.2.2]) rfl rfl rfl z_size30 rfl rfl rfl (ones_cons rfl (ones_cons rfl (ones_cons rfl (ones_cons rfl (ones_cons rfl (ones_cons rfl (ones_cons rfl (ones_cons hs17.one' (ones_cons hs19.one' (ones_cons rfl (ones_cons rfl ones_nil))))))))))) rfl rfl rfl ?_
  refine st_gs [[(b5, .cells #[.int .i64 s15.1, .int .i64 s15.2.1, .int .i64 s15.2.2.1, .int .i64 s15.2.2.2.1, .int .i64 s15.2.2.2.2.1, .int .i64 s15.2.2.2.2.2.1, .int .i64 s15.2.2.2.2.2.2.1, v16, v18, .string s15.2.2.2.2.2.2.2.2.2.1, .string s15.2.2.2.2.2.2.2.2.2.2] 30 (0, 0))], [(b6, .cells #[.int .i64 s15.1, .int .i64 s15.2.1, .int .i64 s15.2.2.1, .int .i64 s15.2.2.2.1, .int .i64 s15.2.2.2.2.1, .int .i64 s15.2.2.2.2.2.1, .int .i64 s15.2.2.2.2.2.2.1, v16, v18, .string s15.2.2.2.2.2.2.2.2.2.1, .string s15.2.2.2.2.2.2.2.2.2.2] 30 (0, 0))]] rfl ?_
  refine st_end ?_
  obtain rfl := Eq.symm h
  exact st_retC (gs' := []) [.agg #[.int .i64 s15.1, .int .i64 s15.2.1, .int .i64 s15.2.2.1, .int .i64 s15.2.2.2.1, .int .i64 s15.2.2.2.2.1, .int .i64 s15.2.2.2.2.2.1, .int .i64 s15.2.2.2.2.2.2.1, v16, v18, .string s15.2.2.2.2.2.2.2.2.2.1, .string s15.2.2.2.2.2.2.2.2.2.2]] Tryz.func96 ⟨⟨_, _, _, _, rfl, mem_flat 1 rfl, fun w hw => cellOfN (vs := [.int .i64 s15.1, .int .i64 s15.2.1, .int .i64 s15.2.2.1, .int .i64 s15.2.2.2.1, .int .i64 s15.2.2.2.2.1, .int .i64 s15.2.2.2.2.2.1, .int .i64 s15.2.2.2.2.2.2.1, v16, v18, .string s15.2.2.2.2.2.2.2.2.2.1, .string s15.2.2.2.2.2.2.2.2.2.2]) z_agg30 rfl w hw⟩, trivial⟩ (by simp) (hl10.trans hl15) ⟨_, _, rfl, rfl, hs17, hs19⟩
 refine ZZ 4 [1] rfl rfl ?_
 obtain ⟨r20, hr21, h⟩ := h
 refine st_call (foot := []) rfl rfl rfl rfl rfl rfl (callV_fn z_en40 (field_Of_ok hr21 τ9)) ?_
 rintro vτ22 τ22 gsτ22 hl23 ⟨v24, rfl, rfl, hs25⟩
 refine o_lenI rfl rfl rfl z_slT86 rfl hs25 ?_
 refine Z 2 rfl ?_
 obtain ⟨e26, hL26, hA26⟩ := h
 refine st_ord [1, 0] _ rfl ?_
 refine st_loop hL26 (fun (s26 : Int × Int × Int × Int × Int × Int × Int × Int × (List (Int × Int)) × List Int × ByteArray × ByteArray) ρ τ26 gs => τ22.Le τ26 ∧ ∃ (v27 : Value) (v29 : Value), ESub ρ [(1, .int .i64 a1), (2, .pointer (some ⟨b5, 0, none⟩)), (4, .pointer (some ⟨b6, 0, none⟩)), (11, v24), (12, .int .i64 (r20.length : Int)), (13, .int .i64 s26.1)] ∧ gs = [[(b5, .cells #[.int .i64 s26.2.1, .int .i64 s26.2.2.1, .int .i64 s26.2.2.2.1, .int .i64 s26.2.2.2.2.1, .int .i64 s26.2.2.2.2.2.1, .int .i64 s26.2.2.2.2.2.2.1, .int .i64 s26.2.2.2.2.2.2.2.1, v27, v29, .string s26.2.2.2.2.2.2.2.2.2.2.1, .string s26.2.2.2.2.2.2.2.2.2.2.2] 30 (0, 0))], [(b6, .cells #[.int .i64 0, .int .i64 0, .int .i64 0, .int .i64 0, .int .i64 0, .int .i64 0, .int .i64 0, .slice none 0 0, .slice none 0 0, .string (bstr []), .string (bstr [])] 30 (0, 0))]] ∧ Sl (kP (kI .i64) (kI .i64)) τ26 v27 s26.2.2.2.2.2.2.2.2.1 ∧ Sl (kI .i64) τ26 v29 s26.2.2.2.2.2.2.2.2.2.1) ⟨Sto.Le.refl _, _, _, rfl, rfl, (hs13.up hl23), (hs14.up hl23)⟩ ?_
 rintro s26 o26 h he26 ρ26 τ26 gs26 ⟨hl26, v27, v29, hρ, rfl, hs28, hs30⟩ hn26
 refine st_es hρ ?_
 refine Z 5 rfl ?_
 refine st_if rfl h (fun h => ?_) (fun h => ?_)
 ·refine Z 2 rfl ?_
  refine st_cut (fun ρ τ31 gs => ∃ (s31 : Int × Int × Int × Int × Int × Int × Int × (List (Int × Int)) × List Int × ByteArray × ByteArray) (v32 : Value) (v34 : Value), msg_Project_j3 s26 s31 o26 ∧ τ26.Le τ31 ∧ ESub ρ [(1, .int .i64 a1), (2, .pointer (some ⟨b5, 0, none⟩)), (4, .pointer (some ⟨b6, 0, none⟩)), (11, v24), (12, .int .i64 (r20.length : Int)), (13, .int .i64 s26.1)] ∧ gs = [[(b5, .cells #[.int .i64 s31.1, .int .i64 s31.2.1, .int .i64 s31.2.2.1, .int .i64 s31.2.2.2.1, .int .i64 s31.2.2.2.2.1, .int .i64 s31.2.2.2.2.2.1, .int .i64 s31.2.2.2.2.2.2.1, v32, v34, .string s31.2.2.2.2.2.2.2.2.2.1, .string s31.2.2.2.2.2.2.2.2.2.2] 30 (0, 0))], [(b6, .cells #[.int .i64 0, .int .i64 0, .int .i64 0, .int .i64 0, .int .i64 0, .int .i64 0, .int .i64 0, .slice none 0 0, .slice none 0 0, .string (bstr []), .string (bstr [])] 30 (0, 0))]] ∧ Sl (kP (kI .i64) (kI .i64)) τ31 v32 s31.2.2.2.2.2.2.2.1 ∧ Sl (kI .i64) τ31 v34 s31.2.2.2.2.2.2.2.2.1) ?_ (fun hk31 => ?_)
  ·rintro ρ31 τ31 gs31 ⟨s31, v32, v34, h, hl31, hρ, rfl, hs33, hs35⟩
   refine st_es hρ ?_
   refine Z 4 rfl ?_
   exact hn26 _ _ _ _ h ⟨(hl26.trans hl31), _, _, rfl, rfl, hs33, hs35⟩
  refine Z 3 rfl ?_
  obtain ⟨q36, hf37, h⟩ := h
  refine o_index rfl rfl rfl z_slT86 rfl rfl (hs25.up hl26) rfl hf37 (fun b38 of39 vs hc40 hrep => ?_)
  obtain ⟨_, _, rfl, rfl, ⟨_, _, rfl, rfl, ⟨_, _, rfl, rfl, ⟨_, _, rfl, rfl, ⟨_, _, rfl, rfl, ⟨_, _, rfl, rfl, rfl⟩⟩⟩⟩⟩⟩ := hrep
  refine o_loadIN (vs := [.string q36.1, .int .i64 q36.2.1, .int .i64 q36.2.2.1, .int .i64 q36.2.2.2.1, .int .i64 q36.2.2.2.2.1, .int .i64 q36.2.2.2.2.2.1, .int .i64 q36.2.2.2.2.2.2]) rfl rfl rfl z_agg89 rfl rfl (celn_part 0 rfl hc40) ?_
  refine o_alloc rfl rfl rfl z_zero89 (fun b41 => ?_)
  refine ZZ 4 [0] rfl rfl ?_
  refine st_cut (fun ρ τ42 gs => ∃ (s42 : Bool), msg_Project_j4 s26 q36 s42 o26 ∧ τ26.Le τ42 ∧ ESub ρ [(1, .int .i64 a1), (2, .pointer (some ⟨b5, 0, none⟩)), (4, .pointer (some ⟨b6, 0, none⟩)), (11, v24), (12, .int .i64 (r20.length : Int)), (13, .int .i64 s26.1), (6, .pointer (some ⟨b41, 0, none⟩)), (23, .bool s42)] ∧ gs = [[(b5, .cells #[.int .i64 s26.2.1, .int .i64 s26.2.2.1, .int .i64 s26.2.2.2.1, .int .i64 s26.2.2.2.2.1, .int .i64 s26.2.2.2.2.2.1, .int .i64 s26.2.2.2.2.2.2.1, .int .i64 s26.2.2.2.2.2.2.2.1, v27, v29, .string s26.2.2.2.2.2.2.2.2.2.2.1, .string s26.2.2.2.2.2.2.2.2.2.2.2] 30 (0, 0))], [(b6, .cells #[.int .i64 0, .int .i64 0, .int .i64 0, .int .i64 0, .int .i64 0, .int .i64 0, .int .i64 0, .slice none 0 0, .slice none 0 0, .string (bstr []), .string (bstr [])] 30 (0, 0))], [(b41, .cells #[.string q36.1, .int .i64 q36.2.1, .int .i64 q36.2.2.1, .int .i64 q36.2.2.2.1, .int .i64 q36.2.2.2.2.1, .int .i64 q36.2.2.2.2.2.1, .int .i64 q36.2.2.2.2.2.2] 89 (0, 0))]]) ?_ (fun hk42 => ?_)
  ·rintro ρ42 τ42 gs42 ⟨s42, h, hl42, hρ, rfl⟩
   refine st_es hρ ?_
   refine st_if rfl h (fun h => ?_) (fun h => ?_)
   ·refine st_exit rfl ?_
    refine st_ord [0, 0] _ rfl ?_
    exact hk31 _ _ _ ⟨(s26.2.1, s26.2.2.1, s26.2.2.2.1, s26.2.2.2.2.1, s26.2.2.2.2.2.1, s26.2.2.2.2.2.2.1, s26.2.2.2.2.2.2.2.1, s26.2.2.2.2.2.2.2.2.1, s26.2.2.2.2.2.2.2.2.2.1, s26.2.2.2.2.2.2.2.2.2.2.1, s26.2.2.2.2.2.2.2.2.2.2.2), _, _, h, hl42, rfl, rfl, (hs28.up hl42), (hs30.up hl42)⟩
   ·refine ZZ 5 [0, 2] rfl rfl ?_
    obtain ⟨r43, hr44, h⟩ := h
    refine st_call (foot := []) rfl rfl rfl rfl rfl rfl (callV_fn z_en42 (msg_without_ok hr44 τ42 (hs28.up hl42) (hs30.up hl42))) ?_
    rintro vτ45 τ45 gsτ45 hl46 ⟨v47, v48, rfl, rfl, hs49, hs50⟩
    refine o_store (j := 0) (vs := [.int .i64 r43.1, .int .i64 (r43.2.1.getD 0 0), .int .i64 (r43.2.1.getD 1 0), .int .i64 (r43.2.1.getD 2 0), .int .i64 (r43.2.1.getD 3 0), .int .i64 (r43.2.1.getD 4 0), .int .i64 (r43.2.1.getD 5 0), v47, v48, .string r43.2.2.2.2.1, .string r43.2.2.2.2.2]) (cs' := [.int .i64 r43.1, .int .i64 (r43.2.1.getD 0 0), .int .i64 (r43.2.1.getD 1 0), .int .i64 (r43.2.1.getD 2 0), .int .i64 (r43.2.1.getD 3 0), .int .i64 (r43.2.1.getD 4 0), .int .i64 (r43.2.1.getD 5 0), v47, v48, .string r43.2.2.2.2.1, .string r43.2.2.2.2.2]) rfl rfl rfl z_size30 rfl rfl rfl (ones_cons rfl (ones_cons rfl (ones_cons rfl (ones_cons rfl (ones_cons rfl (ones_cons rfl (ones_cons rfl (ones_cons hs49.one' (ones_cons hs50.one' (ones_cons rfl (ones_cons rfl ones_nil))))))))))) rfl rfl rfl ?_
    refine st_gs [[(b5, .cells #[.int .i64 r43.1, .int .i64 (r43.2.1.getD 0 0), .int .i64 (r43.2.1.getD 1 0), .int .i64 (r43.2.1.getD 2 0), .int .i64 (r43.2.1.getD 3 0), .int .i64 (r43.2.1.getD 4 0), .int .i64 (r43.2.1.getD 5 0), v47, v48, .string r43.2.2.2.2.1, .string r43.2.2.2.2.2] 30 (0, 0))], [(b6, .cells #[.int .i64 0, .int .i64 0, .int .i64 0, .int .i64 0, .int .i64 0, .int .i64 0, .int .i64 0, .slice none 0 0, .slice none 0 0, .string (bstr []), .string (bstr [])] 30 (0, 0))], [(b41, .cells #[.string q36.1, .int .i64 q36.2.1, .int .i64 q36.2.2.1, .int .i64 q36.2.2.2.1, .int .i64 q36.2.2.2.2.1, .int .i64 q36.2.2.2.2.2.1, .int .i64 q36.2.2.2.2.2.2] 89 (0, 0))]] rfl ?_
    refine ZZ 7 [2] rfl rfl ?_
    refine st_if rfl h (fun h => ?_) (fun h => ?_)
    ·refine ZZ 6 [2, 2] rfl rfl ?_
     obtain ⟨hf51, hf52, h⟩ := h
     refine o_indexA rfl rfl rfl z_arr26 rfl rfl hf51 hf52 ?_
     refine o_storeV (j := 0) (q36.2.2.1.toNat) (f := (Value.int .i64)) (zz := 0) (a := q36.2.2.2.2.2.2) (l := 6) (xs := r43.2.1) [.int .i64 r43.1] [v47, v48, .string r43.2.2.2.2.1, .string r43.2.2.2.2.2] rfl rfl rfl z_size3 rfl rfl rfl rfl rfl (by simp only [List.length_cons, List.length_nil] <;> omega) (by omega) ?_
     refine st_gs [[(b5, .cells #[.int .i64 r43.1, .int .i64 ((putN 6 0 r43.2.1 q36.2.2.1.toNat q36.2.2.2.2.2.2).getD 0 0), .int .i64 ((putN 6 0 r43.2.1 q36.2.2.1.toNat q36.2.2.2.2.2.2).getD 1 0), .int .i64 ((putN 6 0 r43.2.1 q36.2.2.1.toNat q36.2.2.2.2.2.2).getD 2 0), .int .i64 ((putN 6 0 r43.2.1 q36.2.2.1.toNat q36.2.2.2.2.2.2).getD 3 0), .int .i64 ((putN 6 0 r43.2.1 q36.2.2.1.toNat q36.2.2.2.2.2.2).getD 4 0), .int .i64 ((putN 6 0 r43.2.1 q36.2.2.1.toNat q36.2.2.2.2.2.2).getD 5 0), v47, v48, .string r43.2.2.2.2.1, .string r43.2.2.2.2.2] 30 (0, 0))], [(b6, .cells #[.int .i64 0, .int .i64 0, .int .i64 0, .int .i64 0, .int .i64 0, .int .i64 0, .int .i64 0, .slice none 0 0, .slice none 0 0, .string (bstr []), .string (bstr [])] 30 (0, 0))], [(b41, .cells #[.string q36.1, .int .i64 q36.2.1, .int .i64 q36.2.2.1, .int .i64 q36.2.2.2.1, .int .i64 q36.2.2.2.2.1, .int .i64 q36.2.2.2.2.2.1, .int .i64 q36.2.2.2.2.2.2] 89 (0, 0))]] rfl ?_
     refine Z 2 rfl ?_
     refine st_ord [0, 0] _ rfl ?_
     exact hk31 _ _ _ ⟨(r43.1, ((putN 6 0 r43.2.1 q36.2.2.1.toNat q36.2.2.2.2.2.2).getD 0 0), ((putN 6 0 r43.2.1 q36.2.2.1.toNat q36.2.2.2.2.2.2).getD 1 0), ((putN 6 0 r43.2.1 q36.2.2.1.toNat q36.2.2.2.2.2.2).getD 2 0), ((putN 6 0 r43.2.1 q36.2.2.1.toNat q36.2.2.2.2.2.2).getD 3 0), ((putN 6 0 r43.2.1 q36.2.2.1.toNat q36.2.2.2.2.2.2).getD 4 0), ((putN 6 0 r43.2.1 q36.2.2.1.toNat q36.2.2.2.2.2.2).getD 5 0), r43.2.2.1, r43.2.2.2.1, r43.2.2.2.2.1, r43.2.2.2.2.2), _, _, h, (hl42.trans hl46), rfl, rfl, hs49, hs50⟩
    ·refine Z 2 rfl ?_
     refine st_ord [0, 0] _ rfl ?_
     exact hk31 _ _ _ ⟨(r43.1, (r43.2.1.getD 0 0), (r43.2.1.getD 1 0), (r43.2.1.getD 2 0), (r43.2.1.getD 3 0), (r43.2.1.getD 4 0), (r43.2.1.getD 5 0), r43.2.2.1, r43.2.2.2.1, r43.2.2.2.2.1, r43.2.2.2.2.2), _, _, h, (hl42.trans hl46), rfl, rfl, hs49, hs50⟩
  refine Z 3 rfl ?_
  refine o_mif rfl rfl rfl rfl h (fun h => ?_) (fun h => ?_)
  ·refine Z 5 rfl ?_
   refine st_ord [1, 1, 0] _ rfl ?_
   exact hk42 _ _ _ ⟨true, h, (Sto.Le.refl _), rfl, rfl⟩
  ·refine ZZ 5 [0] rfl rfl ?_
   refine st_ord [1, 1, 0] _ rfl ?_
   exact hk42 _ _ _ ⟨(decide (q36.2.2.2.2.2.1 = 1)), h, (Sto.Le.refl _), rfl, rfl⟩
 ·refine st_exit rfl ?_
  obtain rfl := he26 _ h
  replace h := hA26
  exact hk15 _ _ _ ⟨(s26.2.1, s26.2.2.1, s26.2.2.2.1, s26.2.2.2.2.1, s26.2.2.2.2.2.1, s26.2.2.2.2.2.2.1, s26.2.2.2.2.2.2.2.1, s26.2.2.2.2.2.2.2.2.1, s26.2.2.2.2.2.2.2.2.2.1, s26.2.2.2.2.2.2.2.2.2.2.1, s26.2.2.2.2.2.2.2.2.2.2.2), _, _, h, (hl23.trans hl26), rfl, rfl, hs28, hs30⟩
theorem body_Decode_ok {a0 : Int} {a1 : Int} {a2 : List Int} {v1 : Value} {r : (Int × List Int × List (Int × Int) × List Int × ByteArray × ByteArray) × Int} (h : body_Decode a0 a1 a2 r) (σ : Sto) (hs2 : Sl (kI .u8) σ v1 a2) :
    Does Tryz.prog 82 [.int .i64 a0, .int .i64 a1, v1] σ [] (fun v τ gs => ∃ (v90 : Value) (v91 : Value), gs = [] ∧ .tuple [.agg [.int .i64 r.1.1, .int .i64 (r.1.2.1.getD 0 0), .int .i64 (r.1.2.1.getD 1 0), .int .i64 (r.1.2.1.getD 2 0), .int .i64 (r.1.2.1.getD 3 0), .int .i64 (r.1.2.1.getD 4 0), .int .i64 (r.1.2.1.getD 5 0), v90, v91, .string r.1.2.2.2.2.1, .string r.1.2.2.2.2.2].toArray, .int .i64 r.2].toArray = v ∧ Sl (kP (kI .i64) (kI .i64)) τ v90 r.1.2.2.1 ∧ Sl (kI .i64) τ v91 r.1.2.2.2.1) := by
 refine call_of Tryz.func82 Tryz.ntmps82 rfl rfl (fun cs fs => ?_)
 refine Z 2 rfl ?_
 refine o_alloc rfl rfl rfl z_zero30 (fun b3 => ?_)
 refine Z 6 rfl ?_
 refine st_cut (fun ρ τ4 gs => ∃ (s4 : Bool), body_Decode_j1 a0 a1 a2 s4 r ∧ σ.Le τ4 ∧ ESub ρ [(0, .int .i64 a0), (1, .int .i64 a1), (2, v1), (6, .pointer (some ⟨b3, 0, none⟩)), (7, .int .i64 0), (12, .bool s4)] ∧ gs = [[(b3, .cells #[.int .i64 0, .int .i64 0, .int .i64 0, .int .i64 0, .int .i64 0, .int .i64 0, .int .i64 0, .slice none 0 0, .slice none 0 0, .string (bstr []), .string (bstr [])] 30 (0, 0))]]) ?_ (fun hk4 => ?_)
 ·rintro ρ4 τ4 gs4 ⟨s4, h, hl4, hρ, rfl⟩
  refine st_es hρ ?_
  refine st_cond rfl (fun hc => ?_) (fun hc => ?_)
  ·replace h := (if_pos hc).mp h
   refine ZZ 6 [0] rfl rfl ?_
   obtain rfl := Eq.symm h
   exact st_retC (gs' := []) [.agg #[.int .i64 0, .int .i64 0, .int .i64 0, .int .i64 0, .int .i64 0, .int .i64 0, .int .i64 0, .slice none 0 0, .slice none 0 0, .string (bstr []), .string (bstr [])], .int .i64 10] Tryz.func82 ⟨⟨_, _, _, _, rfl, mem_flat 0 rfl, fun w hw => cellOfN (vs := [.int .i64 0, .int .i64 0, .int .i64 0, .int .i64 0, .int .i64 0, .int .i64 0, .int .i64 0, .slice none 0 0, .slice none 0 0, .string (bstr []), .string (bstr [])]) z_agg30 rfl w hw⟩, rfl, trivial⟩ (by simp) hl4 ⟨_, _, rfl, rfl, Sl.nil, Sl.nil⟩
  ·replace h := (if_neg (ne_t hc)).mp h
   refine Z 3 rfl ?_
   obtain ⟨r5, hr6, h⟩ := h
   refine st_call (foot := []) rfl rfl rfl rfl rfl rfl (callV_fn z_en93 (field_Word_ok hr6 τ4)) ?_
   rintro vτ7 τ7 gsτ7 hl8 ⟨rfl, rfl⟩
   refine o_sbin (v := .bool (decide (r5 = (bstr [])))) rfl rfl rfl rfl (ev_str z_str19) rfl ?_
   refine Z 2 rfl ?_
   refine st_cond rfl (fun hc => ?_) (fun hc => ?_)
   ·replace h := (if_pos hc).mp h
    refine ZZ 6 [0] rfl rfl ?_
    obtain rfl := Eq.symm h
    exact st_retC (gs' := []) [.agg #[.int .i64 0, .int .i64 0, .int .i64 0, .int .i64 0, .int .i64 0, .int .i64 0, .int .i64 0, .slice none 0 0, .slice none 0 0, .string (bstr []), .string (bstr [])], .int .i64 9] Tryz.func82 ⟨⟨_, _, _, _, rfl, mem_flat 0 rfl, fun w hw => cellOfN (vs := [.int .i64 0, .int .i64 0, .int .i64 0, .int .i64 0, .int .i64 0, .int .i64 0, .int .i64 0, .slice none 0 0, .slice none 0 0, .string (bstr []), .string (bstr [])]) z_agg30 rfl w hw⟩, rfl, trivial⟩ (by simp) (hl4.trans hl8) ⟨_, _, rfl, rfl, Sl.nil, Sl.nil⟩
   ·replace h := (if_neg (ne_t hc)).mp h
    refine Z 5 rfl ?_
    obtain ⟨r9, hr10, h⟩ := h
    refine st_call (foot := []) rfl rfl rfl rfl rfl rfl (callV_fn z_en59 (lens_New_ok hr10 τ7 (hs2.up (hl4.trans hl8)))) ?_
    rintro vτ11 τ11 gsτ11 hl12 ⟨b13, v14, rfl, rfl, hs15⟩
    refine ZZ 1 [] rfl rfl ?_
    refine o_boxC rfl rfl rfl rfl rfl rfl (fun b16 => ?_)
    refine o_alloc rfl rfl rfl z_zero160 (fun b17 => ?_)
    refine ZZ 6 [0] rfl rfl ?_
    refine o_alloc rfl rfl rfl z_zero30 (fun b18 => ?_)
    refine ZZ 5 [0] rfl rfl ?_
    refine st_cut (fun ρ τ19 gs => ∃ (s19 : List Int × Int × Int × Int × Int × Int × Int × Int × Int × Int × Int × (List (Int × Int)) × List Int × ByteArray × ByteArray) (v20 : Value) (v22 : Value) (v24 : Value), body_Decode_j2 a1 s19 r ∧ τ11.Le τ19 ∧ ESub ρ [(1, .int .i64 a1), (6, .pointer (some ⟨b3, 0, none⟩)), (7, .int .i64 0), (8, .pointer (some ⟨b17, 0, none⟩)), (9, .pointer (some ⟨b18, 0, none⟩))] ∧ gs = [[(b3, .cells #[.int .i64 0, .int .i64 0, .int .i64 0, .int .i64 0, .int .i64 0, .int .i64 0, .int .i64 0, .slice none 0 0, .slice none 0 0, .string (bstr []), .string (bstr [])] 30 (0, 0))], [(b13, .cells #[v20, .int .i64 s19.2.1, .int .i64 s19.2.2.1] 137 (0, 0))], [(b16, .cells #[.pointer (some ⟨b13, 0, none⟩), .int .i64 s19.2.2.2.1] 162 (0, 0))], [(b17, .cells #[.pointer (some ⟨b16, 0, none⟩)] 160 (0, 0))], [(b18, .cells #[.int .i64 s19.2.2.2.2.1, .int .i64 s19.2.2.2.2.2.1, .int .i64 s19.2.2.2.2.2.2.1, .int .i64 s19.2.2.2.2.2.2.2.1, .int .i64 s19.2.2.2.2.2.2.2.2.1, .int .i64 s19.2.2.2.2.2.2.2.2.2.1, .int .i64 s19.2.2.2.2.2.2.2.2.2.2.1, v22, v24, .string s19.2.2.2.2.2.2.2.2.2.2.2.2.2.1, .string s19.2.2.2.2.2.2.2.2.2.2.2.2.2.2] 30 (0, 0))]] ∧ Sl (kI .u8) τ19 v20 s19.1 ∧ Sl (kP (kI .i64) (kI .i64)) τ19 v22 s19.2.2.2.2.2.2.2.2.2.2.2.1 ∧ Sl (kI .i64) τ19 v24 s19.2.2.2.2.2.2.2.2.2.2.2.2.1) ?_ (fun hk19 => ?_)
    ·rintro ρ19 τ19 gs19 ⟨s19, v20, v22, v24, h, hl19, hρ, rfl, hs21, hs23, hs25⟩
     refine st_es hρ ?_
     refine ZZ 3 [3] rfl rfl ?_
     obtain ⟨r26, hr27, h⟩ := h
     refine st_ord [2, 1, 0, 0, 0] _ rfl ?_
     refine st_call (foot := [[(b16, .cells #[.pointer (some ⟨b13, 0, none⟩), .int .i64 s19.2.2.2.1] 162 (0, 0))], [(b13, .cells #[v20, .int .i64 s19.2.1, .int .i64 s19.2.2.1] 137 (0, 0))]]) rfl rfl rfl rfl rfl rfl (callV_fn z_en95 (body_reader_err_ok hr27 τ19 hs21)) ?_
     rintro vτ28 τ28 gsτ28 hl29 ⟨rfl, rfl⟩
     refine Z 3 rfl ?_
     refine st_cut (fun ρ τ30 gs => ∃ (s30 : Int), body_Decode_j3 a1 s19 s30 r ∧ τ28.Le τ30 ∧ ESub ρ [(1, .int .i64 a1), (6, .pointer (some ⟨b3, 0, none⟩)), (7, .int .i64 0), (9, .pointer (some ⟨b18, 0, none⟩)), (11, .int .i64 s30)] ∧ gs = [[(b3, .cells #[.int .i64 0, .int .i64 0, .int .i64 0, .int .i64 0, .int .i64 0, .int .i64 0, .int .i64 0, .slice none 0 0, .slice none 0 0, .string (bstr []), .string (bstr [])] 30 (0, 0))], [(b18, .cells #[.int .i64 s19.2.2.2.2.1, .int .i64 s19.2.2.2.2.2.1, .int .i64 s19.2.2.2.2.2.2.1, .int .i64 s19.2.2.2.2.2.2.2.1, .int .i64 s19.2.2.2.2.2.2.2.2.1, .int .i64 s19.2.2.2.2.2.2.2.2.2.1, .int .i64 s19.2.2.2.2.2.2.2.2.2.2.1, v22, v24, .string s19.2.2.2.2.2.2.2.2.2.2.2.2.2.1, .string s19.2.2.2.2.2.2.2.2.2.2.2.2.2.2] 30 (0, 0))]]) ?_ (fun hk30 => ?_)
     ·rintro ρ30 τ30 gs30 ⟨s30, h, hl30, hρ, rfl⟩
      refine st_es hρ ?_
      refine Z 6 rfl ?_
      refine st_if rfl h (fun h => ?_) (fun h => ?_)
      ·refine ZZ 7 [0] rfl rfl ?_
       obtain rfl := Eq.symm h
       exact st_retC (gs' := []) [.agg #[.int .i64 0, .int .i64 0, .int .i64 0, .int .i64 0, .int .i64 0, .int .i64 0, .int .i64 0, .slice none 0 0, .slice none 0 0, .string (bstr []), .string (bstr [])], .int .i64 s30] Tryz.func82 ⟨⟨_, _, _, _, rfl, mem_flat 0 rfl, fun w hw => cellOfN (vs := [.int .i64 0, .int .i64 0, .int .i64 0, .int .i64 0, .int .i64 0, .int .i64 0, .int .i64 0, .slice none 0 0, .slice none 0 0, .string (bstr []), .string (bstr [])]) z_agg30 rfl w hw⟩, rfl, trivial⟩ (by simp) (((((hl4.trans hl8).trans hl12).trans hl19).trans hl29).trans hl30) ⟨_, _, rfl, rfl, Sl.nil, Sl.nil⟩
      ·refine ZZ 5 [1] rfl rfl ?_
       obtain ⟨r31, hr32, h⟩ := h
       refine st_call (foot := []) rfl rfl rfl rfl rfl rfl (callV_fn z_en96 (msg_Project_ok hr32 τ30 (hs23.up (hl29.trans hl30)) (hs25.up (hl29.trans hl30)))) ?_
       rintro vτ33 τ33 gsτ33 hl34 ⟨v35, v36, rfl, rfl, hs37, hs38⟩
       refine o_store (j := 0) (vs := [.int .i64 r31.1, .int .i64 (r31.2.1.getD 0 0), .int .i64 (r31.2.1.getD 1 0), .int .i64 (r31.2.1.getD 2 0), .int .i64 (r31.2.1.getD 3 0), .int .i64 (r31.2.1.getD 4 0), .int .i64 (r31.2.1.getD 5 0), v35, v36, .string r31.2.2.2.2.1, .string r31.2.2.2.2.2]) (cs' := [.int .i64 r31.1, .int .i64 (r31.2.1.getD 0 0), .int .i64 (r31.2.1.getD 1 0), .int .i64 (r31.2.1.getD 2 0), .int .i64 (r31.2.1.getD 3 0), .int .i64 (r31.2.1.getD 4 0), .int .i64 (r31.2.1.getD 5 0), v35, v36, .string r31.2.2.2.2.1, .string r31.2.2.2.2.2]) rfl rfl rfl z_size30 rfl rfl rfl (ones_cons rfl (ones_cons rfl (ones_cons rfl (ones_cons rfl (ones_cons rfl (ones_cons rfl (ones_cons rfl (ones_cons hs37.one' (ones_cons hs38.one' (ones_cons rfl (ones_cons rfl ones_nil))))))))))) rfl rfl rfl ?_
       refine st_gs [[(b3, .cells #[.int .i64 r31.1, .int .i64 (r31.2.1.getD 0 0), .int .i64 (r31.2.1.getD 1 0), .int .i64 (r31.2.1.getD 2 0), .int .i64 (r31.2.1.getD 3 0), .int .i64 (r31.2.1.getD 4 0), .int .i64 (r31.2.1.getD 5 0), v35, v36, .string r31.2.2.2.2.1, .string r31.2.2.2.2.2] 30 (0, 0))], [(b18, .cells #[.int .i64 s19.2.2.2.2.1, .int .i64 s19.2.2.2.2.2.1, .int .i64 s19.2.2.2.2.2.2.1, .int .i64 s19.2.2.2.2.2.2.2.1, .int .i64 s19.2.2.2.2.2.2.2.2.1, .int .i64 s19.2.2.2.2.2.2.2.2.2.1, .int .i64 s19.2.2.2.2.2.2.2.2.2.2.1, v22, v24, .string s19.2.2.2.2.2.2.2.2.2.2.2.2.2.1, .string s19.2.2.2.2.2.2.2.2.2.2.2.2.2.2] 30 (0, 0))]] rfl ?_
       refine Z 2 rfl ?_
       obtain rfl := Eq.symm h
       exact st_retC (gs' := []) [.agg #[.int .i64 r31.1, .int .i64 (r31.2.1.getD 0 0), .int .i64 (r31.2.1.getD 1 0), .int .i64 (r31.2.1.getD 2 0), .int .i64 (r31.2.1.getD 3 0), .int .i64 (r31.2.1.getD 4 0), .int .i64 (r31.2.1.getD 5 0), v35, v36, .string r31.2.2.2.2.1, .string r31.2.2.2.2.2], .int .i64 0] Tryz.func82 ⟨⟨_, _, _, _, rfl, mem_flat 0 rfl, fun w hw => cellOfN (vs := [.int .i64 r31.1, .int .i64 (r31.2.1.getD 0 0), .int .i64 (r31.2.1.getD 1 0), .int .i64 (r31.2.1.getD 2 0), .int .i64 (r31.2.1.getD 3 0), .int .i64 (r31.2.1.getD 4 0), .int .i64 (r31.2.1.getD 5 0), v35, v36, .string r31.2.2.2.2.1, .string r31.2.2.2.2.2]) z_agg30 rfl w hw⟩, rfl, trivial⟩ (by simp) ((((((hl4.trans hl8).trans hl12).trans hl19).trans hl29).trans hl30).trans hl34) ⟨_, _, rfl, rfl, hs37, hs38⟩
     refine Z 5 rfl ?_
     refine st_if rfl h (fun h => ?_) (fun h => ?_)
     ·refine ZZ 5 [3, 0] rfl rfl ?_
      obtain ⟨r39, hr40, h⟩ := h
      refine st_ord [1, 0, 0, 0, 0] _ rfl ?_
      refine st_call (foot := [[(b13, .cells #[v20, .int .i64 s19.2.1, .int .i64 s19.2.2.1] 137 (0, 0))]]) rfl rfl rfl rfl rfl rfl (callV_fn z_en84 (lens_Lens_End_ok hr40 τ28 (hs21.up hl29))) ?_
      rintro vτ41 τ41 gsτ41 hl42 ⟨rfl, rfl⟩
      refine Z 2 rfl ?_
      refine st_ord [2, 3] _ rfl ?_
      exact hk30 _ _ _ ⟨r39, h, hl42, rfl, rfl⟩
     ·refine st_skip ?_
      refine st_ord [2, 3] _ rfl ?_
      exact hk30 _ _ _ ⟨r26, h, (Sto.Le.refl _), rfl, rfl⟩
    refine Z 4 rfl ?_
    obtain ⟨r43, hr44, h⟩ := h
    refine st_call (foot := []) rfl rfl rfl rfl rfl rfl (callV_fn z_en89 (field_All_ok hr44 τ11)) ?_
    rintro vτ45 τ45 gsτ45 hl46 ⟨f47, q48, rfl, rfl, hit49⟩
    refine Z 2 rfl ?_
    obtain ⟨t50, w50, hR50, hA50⟩ := h
    refine st_env (ρ' := [(1, .int .i64 a1), (6, .pointer (some ⟨b3, 0, none⟩)), (7, .int .i64 0), (8, .pointer (some ⟨b17, 0, none⟩)), (9, .pointer (some ⟨b18, 0, none⟩)), (33, .func (.func f47) #[] q48)]) ⟨rfl, rfl, rfl, rfl, rfl, rfl, trivial⟩ ?_
    refine st_ord [4, 3, 2, 1, 0] _ rfl ?_
    refine st_addNil ?_
    refine st_range (B := body_Decode_l4) (s0 := (r9.1, r9.2.1, r9.2.2, 0, a0, 0, 0, 0, 0, 0, 0, [], [], (bstr []), (bstr []))) ranges_fctx rfl hit49 (Sto.Le.refl _) hR50 rfl (fun _ _ _ h => by cases h; rfl) (fun (s50 : List Int × Int × Int × Int × Int × Int × Int × Int × Int × Int × Int × (List (Int × Int)) × List Int × ByteArray × ByteArray) τ50 gs => τ45.Le τ50 ∧ ∃ (v51 : Value) (v53 : Value) (v55 : Value), gs = [[(b3, .cells #[.int .i64 0, .int .i64 0, .int .i64 0, .int .i64 0, .int .i64 0, .int .i64 0, .int .i64 0, .slice none 0 0, .slice none 0 0, .string (bstr []), .string (bstr [])] 30 (0, 0))], [(b13, .cells #[v51, .int .i64 s50.2.1, .int .i64 s50.2.2.1] 137 (0, 0))], [(b16, .cells #[.pointer (some ⟨b13, 0, none⟩), .int .i64 s50.2.2.2.1] 162 (0, 0))], [(b17, .cells #[.pointer (some ⟨b16, 0, none⟩)] 160 (0, 0))], [(b18, .cells #[.int .i64 s50.2.2.2.2.1, .int .i64 s50.2.2.2.2.2.1, .int .i64 s50.2.2.2.2.2.2.1, .int .i64 s50.2.2.2.2.2.2.2.1, .int .i64 s50.2.2.2.2.2.2.2.2.1, .int .i64 s50.2.2.2.2.2.2.2.2.2.1, .int .i64 s50.2.2.2.2.2.2.2.2.2.2.1, v53, v55, .string s50.2.2.2.2.2.2.2.2.2.2.2.2.2.1, .string s50.2.2.2.2.2.2.2.2.2.2.2.2.2.2] 30 (0, 0))]] ∧ Sl (kI .u8) τ50 v51 s50.1 ∧ Sl (kP (kI .i64) (kI .i64)) τ50 v53 s50.2.2.2.2.2.2.2.2.2.2.2.1 ∧ Sl (kI .i64) τ50 v55 s50.2.2.2.2.2.2.2.2.2.2.2.2.1) (fun (p72 : List Int × Int × Int × Int × Int × Int × Int × Int × Int × Int × Int × (List (Int × Int)) × List Int × ByteArray × ByteArray) cd τ73 gs => cd = .exit 1 ∧ τ45.Le τ73 ∧ ∃ (v75 : Value) (v77 : Value) (v79 : Value), gs = [[(b3, .cells #[.int .i64 0, .int .i64 0, .int .i64 0, .int .i64 0, .int .i64 0, .int .i64 0, .int .i64 0, .slice none 0 0, .slice none 0 0, .string (bstr []), .string (bstr [])] 30 (0, 0))], [(b13, .cells #[v75, .int .i64 p72.2.1, .int .i64 p72.2.2.1] 137 (0, 0))], [(b16, .cells #[.pointer (some ⟨b13, 0, none⟩), .int .i64 p72.2.2.2.1] 162 (0, 0))], [(b17, .cells #[.pointer (some ⟨b16, 0, none⟩)] 160 (0, 0))], [(b18, .cells #[.int .i64 p72.2.2.2.2.1, .int .i64 p72.2.2.2.2.2.1, .int .i64 p72.2.2.2.2.2.2.1, .int .i64 p72.2.2.2.2.2.2.2.1, .int .i64 p72.2.2.2.2.2.2.2.2.1, .int .i64 p72.2.2.2.2.2.2.2.2.2.1, .int .i64 p72.2.2.2.2.2.2.2.2.2.2.1, v77, v79, .string p72.2.2.2.2.2.2.2.2.2.2.2.2.2.1, .string p72.2.2.2.2.2.2.2.2.2.2.2.2.2.2] 30 (0, 0))]] ∧ Sl (kI .u8) τ73 v75 p72.1 ∧ Sl (kP (kI .i64) (kI .i64)) τ73 v77 p72.2.2.2.2.2.2.2.2.2.2.2.1 ∧ Sl (kI .i64) τ73 v79 p72.2.2.2.2.2.2.2.2.2.2.2.2.1) (fun _ _ _ _ hl ⟨hb, v51, v53, v55, hg, hs52, hs54, hs56⟩ => ⟨hb.trans hl, v51, v53, v55, hg, hs52.up hl, hs54.up hl, hs56.up hl⟩) (fun _ _ _ _ _ hl ⟨hc, hb, v75, v77, v79, hg, hs76, hs78, hs80⟩ => ⟨hc, hb.trans hl, v75, v77, v79, hg, hs76.up hl, hs78.up hl, hs80.up hl⟩) ⟨Sto.Le.refl _, _, _, _, rfl, (hs15.up hl46), Sl.nil, Sl.nil⟩ ?_ ?_ ?_
    ·rintro x50 s50 o50 τ50 gs50 vx50 hl50 h rfl ⟨hb50, v51, v53, v55, rfl, hs52, hs54, hs56⟩ l50 rc50 caller50 cs50 fs50
     refine st_region ?_
     refine o_alloc rfl rfl rfl z_zero89 (fun b57 => ?_)
     refine ZZ 2 [0] rfl rfl ?_
     refine st_begin ?_
     refine ZZ 5 [4, 0] rfl rfl ?_
     obtain ⟨r58, hr59, h⟩ := h
     refine st_ord [3, 2, 3, 0, 0, 0] _ rfl ?_
     refine st_call (foot := [[(b16, .cells #[.pointer (some ⟨b13, 0, none⟩), .int .i64 s50.2.2.2.1] 162 (0, 0))], [(b13, .cells #[v51, .int .i64 s50.2.1, .int .i64 s50.2.2.1] 137 (0, 0))], [(b18, .cells #[.int .i64 s50.2.2.2.2.1, .int .i64 s50.2.2.2.2.2.1, .int .i64 s50.2.2.2.2.2.2.1, .int .i64 s50.2.2.2.2.2.2.2.1, .int .i64 s50.2.2.2.2.2.2.2.2.1, .int .i64 s50.2.2.2.2.2.2.2.2.2.1, .int .i64 s50.2.2.2.2.2.2.2.2.2.2.1, v53, v55, .string s50.2.2.2.2.2.2.2.2.2.2.2.2.2.1, .string s50.2.2.2.2.2.2.2.2.2.2.2.2.2.2] 30 (0, 0))]]) rfl rfl rfl rfl rfl rfl (callV_fn z_en94 (body_reader_field_ok hr59 τ50 hs52 hs54 hs56)) ?_
     rintro vτ60 τ60 gsτ60 hl61 ⟨v62, v64, v65, rfl, rfl, hs63, hs66, hs67⟩
     refine ZZ 4 [5] rfl rfl ?_
     obtain ⟨r68, hr69, h⟩ := h
     refine st_call (foot := [[(b16, .cells #[.pointer (some ⟨b13, 0, none⟩), .int .i64 r58.1.2] 162 (0, 0))], [(b13, .cells #[v62, .int .i64 r58.2.1.2.1, .int .i64 r58.2.1.2.2] 137 (0, 0))]]) rfl rfl rfl rfl rfl rfl (callV_fn z_en95 (body_reader_err_ok hr69 τ60 hs63)) ?_
     rintro vτ70 τ70 gsτ70 hl71 ⟨rfl, rfl⟩
     refine Z 2 rfl ?_
     refine st_if rfl h (fun h => ?_) (fun h => ?_)
     ·refine st_ord [4, 1, 0, 2, 0] _ rfl ?_
      exact st_rexit rfl (List.Sublist.refl _) (hl61.trans hl71) ⟨_, h, rfl, ((hl50.trans hl61).trans hl71), _, _, _, rfl, (hs63.up hl71), (hs66.up hl71), (hs67.up hl71)⟩
     ·refine Z 2 rfl ?_
      refine st_ord [4, 1, 0, 2, 0] _ rfl ?_
      exact st_rend (List.Sublist.refl _) (hl61.trans hl71) ⟨_, h, ((hl50.trans hl61).trans hl71), _, _, _, rfl, (hs63.up hl71), (hs66.up hl71), (hs67.up hl71)⟩
    ·rintro p81 τ82 gs50 f50 ht hl83 ⟨hb, v84, v86, v88, rfl, hs85, hs87, hs89⟩ rfl
     subst ht
     replace h := hA50
     refine st_ord [1, 1, 1, 1, 1] _ rfl ?_
     refine st_inBlock ?_
     exact hk19 _ _ _ ⟨(p81.1, p81.2.1, p81.2.2.1, p81.2.2.2.1, p81.2.2.2.2.1, p81.2.2.2.2.2.1, p81.2.2.2.2.2.2.1, p81.2.2.2.2.2.2.2.1, p81.2.2.2.2.2.2.2.2.1, p81.2.2.2.2.2.2.2.2.2.1, p81.2.2.2.2.2.2.2.2.2.2.1, p81.2.2.2.2.2.2.2.2.2.2.2.1, p81.2.2.2.2.2.2.2.2.2.2.2.2.1, p81.2.2.2.2.2.2.2.2.2.2.2.2.2.1, p81.2.2.2.2.2.2.2.2.2.2.2.2.2.2), _, _, _, h, (hl46.trans hl83), rfl, rfl, hs85, hs87, hs89⟩
    ·rintro p72 cd50 τ73 gs50 f50 ht hl74 ⟨rfl, hb, v75, v77, v79, rfl, hs76, hs78, hs80⟩ rfl
     subst ht
     replace h := hA50
     refine st_ord [1, 1, 1, 1, 1] _ rfl ?_
     refine st_exit rfl ?_
     exact hk19 _ _ _ ⟨(p72.1, p72.2.1, p72.2.2.1, p72.2.2.2.1, p72.2.2.2.2.1, p72.2.2.2.2.2.1, p72.2.2.2.2.2.2.1, p72.2.2.2.2.2.2.2.1, p72.2.2.2.2.2.2.2.2.1, p72.2.2.2.2.2.2.2.2.2.1, p72.2.2.2.2.2.2.2.2.2.2.1, p72.2.2.2.2.2.2.2.2.2.2.2.1, p72.2.2.2.2.2.2.2.2.2.2.2.2.1, p72.2.2.2.2.2.2.2.2.2.2.2.2.2.1, p72.2.2.2.2.2.2.2.2.2.2.2.2.2.2), _, _, _, h, (hl46.trans hl74), rfl, rfl, hs76, hs78, hs80⟩
 refine Z 3 rfl ?_
 refine o_mif rfl rfl rfl rfl h (fun h => ?_) (fun h => ?_)
 ·refine Z 5 rfl ?_
  exact hk4 _ _ _ ⟨(!(decide (a1 = 2))), h, (Sto.Le.refl _), rfl, rfl⟩
 ·refine Z 5 rfl ?_
  exact hk4 _ _ _ ⟨false, h, (Sto.Le.refl _), rfl, rfl⟩
theorem log_read_ok {a0 : List Int} {v1 : Value} {r : (Int × Int × Int × Int × (Int × List Int × List (Int × Int) × List Int × ByteArray × ByteArray)) × Int} (h : log_read a0 r) (σ : Sto) (hs2 : Sl (kI .u8) σ v1 a0) :
    Does Tryz.prog 64 [v1] σ [] (fun v τ gs => ∃ (v88 : Value) (v89 : Value), gs = [] ∧ .tuple [.agg [.int .i64 r.1.1, .int .u32 r.1.2.1, .int .i64 r.1.2.2.1, .int .i64 r.1.2.2.2.1, .int .i64 r.1.2.2.2.2.1, .int .i64 (r.1.2.2.2.2.2.1.getD 0 0), .int .i64 (r.1.2.2.2.2.2.1.getD 1 0), .int .i64 (r.1.2.2.2.2.2.1.getD 2 0), .int .i64 (r.1.2.2.2.2.2.1.getD 3 0), .int .i64 (r.1.2.2.2.2.2.1.getD 4 0), .int .i64 (r.1.2.2.2.2.2.1.getD 5 0), v88, v89, .string r.1.2.2.2.2.2.2.2.2.1, .string r.1.2.2.2.2.2.2.2.2.2].toArray, .int .i64 r.2].toArray = v ∧ Sl (kP (kI .i64) (kI .i64)) τ v88 r.1.2.2.2.2.2.2.1 ∧ Sl (kI .i64) τ v89 r.1.2.2.2.2.2.2.2.1) := by
 refine call_of Tryz.func64 Tryz.ntmps64 rfl rfl (fun cs fs => ?_)
 refine Z 2 rfl ?_
 refine o_alloc rfl rfl rfl z_zero32 (fun b3 => ?_)
 refine Z 3 rfl ?_
 refine st_lcut (l := 0) rfl (fun ρ τ4 gs => ∃ (s4 : Int), log_read_j1 s4 r ∧ σ.Le τ4 ∧ ESub ρ [(2, .pointer (some ⟨b3, 0, none⟩)), (3, .int .i64 0), (5, .int .i64 s4)] ∧ gs = [[(b3, .cells #[.int .i64 0, .int .u32 0, .int .i64 0, .int .i64 0, .int .i64 0, .int .i64 0, .int .i64 0, .int .i64 0, .int .i64 0, .int .i64 0, .int .i64 0, .slice none 0 0, .slice none 0 0, .string (bstr []), .string (bstr [])] 32 (0, 0))]]) ?_ (fun hk4 => ?_)
 ·rintro ρ4 τ4 gs4 ⟨s4, h, hl4, hρ, rfl⟩
  refine st_es hρ ?_
  refine ZZ 9 [0] rfl rfl ?_
  obtain rfl := Eq.symm h
  exact st_retC (gs' := []) [.agg #[.int .i64 0, .int .u32 0, .int .i64 0, .int .i64 0, .int .i64 0, .int .i64 0, .int .i64 0, .int .i64 0, .int .i64 0, .int .i64 0, .int .i64 0, .slice none 0 0, .slice none 0 0, .string (bstr []), .string (bstr [])], .int .i64 s4] Tryz.func64 ⟨⟨_, _, _, _, rfl, mem_flat 0 rfl, fun w hw => cellOfN (vs := [.int .i64 0, .int .u32 0, .int .i64 0, .int .i64 0, .int .i64 0, .int .i64 0, .int .i64 0, .int .i64 0, .int .i64 0, .int .i64 0, .int .i64 0, .slice none 0 0, .slice none 0 0, .string (bstr []), .string (bstr [])]) z_agg32 rfl w hw⟩, rfl, trivial⟩ (by simp) hl4 ⟨_, _, rfl, rfl, Sl.nil, Sl.nil⟩
 refine Z 2 rfl ?_
 refine o_alloc rfl rfl rfl z_zero30 (fun b5 => ?_)
 refine Z 8 rfl ?_
 obtain ⟨r6, hr7, h⟩ := h
 refine st_call (foot := []) rfl rfl rfl rfl rfl rfl (callV_fn z_en59 (lens_New_ok hr7 σ hs2)) ?_
 rintro vτ8 τ8 gsτ8 hl9 ⟨b10, v11, rfl, rfl, hs12⟩
 refine Z 5 rfl ?_
 obtain ⟨r13, hr14, h⟩ := h
 refine st_call (foot := [[(b10, .cells #[v11, .int .i64 r6.2.1, .int .i64 r6.2.2] 137 (0, 0))]]) rfl rfl rfl rfl rfl rfl (callV_fn z_en80 (lens_Lens_U8_ok hr14 τ8 hs12)) ?_
 rintro vτ15 τ15 gsτ15 hl16 ⟨v17, rfl, rfl, hs18⟩
 refine Z 2 rfl ?_
 obtain ⟨r19, hr20, h⟩ := h
 refine st_call (foot := [[(b10, .cells #[v17, .int .i64 r13.2.2.1, .int .i64 r13.2.2.2] 137 (0, 0))]]) rfl rfl rfl rfl rfl rfl (callV_fn z_en81 (lens_Lens_U32_ok hr20 τ15 hs18)) ?_
 rintro vτ21 τ21 gsτ21 hl22 ⟨v23, rfl, rfl, hs24⟩
 refine ZZ 1 [] rfl rfl ?_
 refine o_alloc rfl rfl rfl z_zero32 (fun b25 => ?_)
 refine ZZ 6 [0] rfl rfl ?_
 obtain ⟨r26, hr27, h⟩ := h
 refine st_ord [1, 0, 0, 0] _ rfl ?_
 refine st_call (foot := [[(b10, .cells #[v23, .int .i64 r19.2.2.1, .int .i64 r19.2.2.2] 137 (0, 0))]]) rfl rfl rfl rfl rfl rfl (callV_fn z_en63 (lens_Lens_Err_ok hr27 τ21 hs24)) ?_
 rintro vτ28 τ28 gsτ28 hl29 ⟨rfl, rfl⟩
 refine Z 2 rfl ?_
 refine st_if rfl h (fun h => ?_) (fun h => ?_)
 ·refine st_goto rfl ?_
  refine st_ord [3] _ rfl ?_
  exact hk4 _ _ _ ⟨13, h, (((hl9.trans hl16).trans hl22).trans hl29), rfl, rfl⟩
 ·refine Z 2 rfl ?_
  refine st_cut (fun ρ τ30 gs => ∃ (s30 : Int × List Int × Int × Int × Int × Int × Int × Int × Int × Int × Int × Int × Int × (List (Int × Int)) × List Int × ByteArray × ByteArray) (v31 : Value) (v33 : Value) (v35 : Value), log_read_j2 r13 r19 s30 r ∧ τ28.Le τ30 ∧ ESub ρ [(2, .pointer (some ⟨b3, 0, none⟩)), (3, .int .i64 0), (5, .int .i64 s30.1), (6, .pointer (some ⟨b10, 0, none⟩)), (7, .pointer (some ⟨b25, 0, none⟩))] ∧ gs = [[(b3, .cells #[.int .i64 0, .int .u32 0, .int .i64 0, .int .i64 0, .int .i64 0, .int .i64 0, .int .i64 0, .int .i64 0, .int .i64 0, .int .i64 0, .int .i64 0, .slice none 0 0, .slice none 0 0, .string (bstr []), .string (bstr [])] 32 (0, 0))], [(b10, .cells #[v31, .int .i64 s30.2.2.1, .int .i64 s30.2.2.2.1] 137 (0, 0))], [(b25, .cells #[.int .i64 (IntKind.i64.wrap r13.1), .int .u32 r19.1, .int .i64 s30.2.2.2.2.1, .int .i64 s30.2.2.2.2.2.1, .int .i64 s30.2.2.2.2.2.2.1, .int .i64 s30.2.2.2.2.2.2.2.1, .int .i64 s30.2.2.2.2.2.2.2.2.1, .int .i64 s30.2.2.2.2.2.2.2.2.2.1, .int .i64 s30.2.2.2.2.2.2.2.2.2.2.1, .int .i64 s30.2.2.2.2.2.2.2.2.2.2.2.1, .int .i64 s30.2.2.2.2.2.2.2.2.2.2.2.2.1, v33, v35, .string s30.2.2.2.2.2.2.2.2.2.2.2.2.2.2.2.1, .string s30.2.2.2.2.2.2.2.2.2.2.2.2.2.2.2.2] 32 (0, 0))]] ∧ Sl (kI .u8) τ30 v31 s30.2.1 ∧ Sl (kP (kI .i64) (kI .i64)) τ30 v33 s30.2.2.2.2.2.2.2.2.2.2.2.2.2.1 ∧ Sl (kI .i64) τ30 v35 s30.2.2.2.2.2.2.2.2.2.2.2.2.2.2.1) ?_ (fun hk30 => ?_)
  ·rintro ρ30 τ30 gs30 ⟨s30, v31, v33, v35, h, hl30, hρ, rfl, hs32, hs34, hs36⟩
   refine st_es hρ ?_
   refine Z 4 rfl ?_
   obtain ⟨r37, hr38, h⟩ := h
   refine st_ord [1, 0, 0] _ rfl ?_
   refine st_call (foot := [[(b10, .cells #[v31, .int .i64 s30.2.2.1, .int .i64 s30.2.2.2.1] 137 (0, 0))]]) rfl rfl rfl rfl rfl rfl (callV_fn z_en84 (lens_Lens_End_ok hr38 τ30 hs32)) ?_
   rintro vτ39 τ39 gsτ39 hl40 ⟨rfl, rfl⟩
   refine Z 7 rfl ?_
   refine st_if rfl h (fun h => ?_) (fun h => ?_)
   ·refine st_goto rfl ?_
    refine st_ord [1] _ rfl ?_
    exact hk4 _ _ _ ⟨r37, h, (((((hl9.trans hl16).trans hl22).trans hl29).trans hl30).trans hl40), rfl, rfl⟩
   ·refine ZZ 5 [2] rfl rfl ?_
    refine o_store (j := 1) (vs := [.int .i64 (IntKind.i64.wrap r13.1), .int .u32 r19.1, .int .i64 s30.2.2.2.2.1, .int .i64 s30.2.2.2.2.2.1, .int .i64 s30.2.2.2.2.2.2.1, .int .i64 s30.2.2.2.2.2.2.2.1, .int .i64 s30.2.2.2.2.2.2.2.2.1, .int .i64 s30.2.2.2.2.2.2.2.2.2.1, .int .i64 s30.2.2.2.2.2.2.2.2.2.2.1, .int .i64 s30.2.2.2.2.2.2.2.2.2.2.2.1, .int .i64 s30.2.2.2.2.2.2.2.2.2.2.2.2.1, v33, v35, .string s30.2.2.2.2.2.2.2.2.2.2.2.2.2.2.2.1, .string s30.2.2.2.2.2.2.2.2.2.2.2.2.2.2.2.2]) (cs' := [.int .i64 (IntKind.i64.wrap r13.1), .int .u32 r19.1, .int .i64 s30.2.2.2.2.1, .int .i64 s30.2.2.2.2.2.1, .int .i64 s30.2.2.2.2.2.2.1, .int .i64 s30.2.2.2.2.2.2.2.1, .int .i64 s30.2.2.2.2.2.2.2.2.1, .int .i64 s30.2.2.2.2.2.2.2.2.2.1, .int .i64 s30.2.2.2.2.2.2.2.2.2.2.1, .int .i64 s30.2.2.2.2.2.2.2.2.2.2.2.1, .int .i64 s30.2.2.2.2.2.2.2.2.2.2.2.2.1, v33, v35, .string s30.2.2.2.2.2.2.2.2.2.2.2.2.2.2.2.1, .string s30.2.2.2.2.2.2.2.2.2.2.2.2.2.2.2.2]) rfl rfl rfl z_size32 rfl rfl rfl (ones_cons rfl (ones_cons rfl (ones_cons rfl (ones_cons rfl (ones_cons rfl (ones_cons rfl (ones_cons rfl (ones_cons rfl (ones_cons rfl (ones_cons rfl (ones_cons rfl (ones_cons (hs34.up hl40).one' (ones_cons (hs36.up hl40).one' (ones_cons rfl (ones_cons rfl ones_nil))))))))))))))) rfl rfl rfl ?_
    refine st_gs [[(b10, .cells #[v31, .int .i64 s30.2.2.1, .int .i64 s30.2.2.2.1] 137 (0, 0))], [(b3, .cells #[.int .i64 (IntKind.i64.wrap r13.1), .int .u32 r19.1, .int .i64 s30.2.2.2.2.1, .int .i64 s30.2.2.2.2.2.1, .int .i64 s30.2.2.2.2.2.2.1, .int .i64 s30.2.2.2.2.2.2.2.1, .int .i64 s30.2.2.2.2.2.2.2.2.1, .int .i64 s30.2.2.2.2.2.2.2.2.2.1, .int .i64 s30.2.2.2.2.2.2.2.2.2.2.1, .int .i64 s30.2.2.2.2.2.2.2.2.2.2.2.1, .int .i64 s30.2.2.2.2.2.2.2.2.2.2.2.2.1, v33, v35, .string s30.2.2.2.2.2.2.2.2.2.2.2.2.2.2.2.1, .string s30.2.2.2.2.2.2.2.2.2.2.2.2.2.2.2.2] 32 (0, 0))], [(b25, .cells #[.int .i64 (IntKind.i64.wrap r13.1), .int .u32 r19.1, .int .i64 s30.2.2.2.2.1, .int .i64 s30.2.2.2.2.2.1, .int .i64 s30.2.2.2.2.2.2.1, .int .i64 s30.2.2.2.2.2.2.2.1, .int .i64 s30.2.2.2.2.2.2.2.2.1, .int .i64 s30.2.2.2.2.2.2.2.2.2.1, .int .i64 s30.2.2.2.2.2.2.2.2.2.2.1, .int .i64 s30.2.2.2.2.2.2.2.2.2.2.2.1, .int .i64 s30.2.2.2.2.2.2.2.2.2.2.2.2.1, v33, v35, .string s30.2.2.2.2.2.2.2.2.2.2.2.2.2.2.2.1, .string s30.2.2.2.2.2.2.2.2.2.2.2.2.2.2.2.2] 32 (0, 0))]] rfl ?_
    refine Z 2 rfl ?_
    obtain rfl := Eq.symm h
    exact st_retC (gs' := []) [.agg #[.int .i64 (IntKind.i64.wrap r13.1), .int .u32 r19.1, .int .i64 s30.2.2.2.2.1, .int .i64 s30.2.2.2.2.2.1, .int .i64 s30.2.2.2.2.2.2.1, .int .i64 s30.2.2.2.2.2.2.2.1, .int .i64 s30.2.2.2.2.2.2.2.2.1, .int .i64 s30.2.2.2.2.2.2.2.2.2.1, .int .i64 s30.2.2.2.2.2.2.2.2.2.2.1, .int .i64 s30.2.2.2.2.2.2.2.2.2.2.2.1, .int .i64 s30.2.2.2.2.2.2.2.2.2.2.2.2.1, v33, v35, .string s30.2.2.2.2.2.2.2.2.2.2.2.2.2.2.2.1, .string s30.2.2.2.2.2.2.2.2.2.2.2.2.2.2.2.2], .int .i64 0] Tryz.func64 ⟨⟨_, _, _, _, rfl, mem_flat 1 rfl, fun w hw => cellOfN (vs := [.int .i64 (IntKind.i64.wrap r13.1), .int .u32 r19.1, .int .i64 s30.2.2.2.2.1, .int .i64 s30.2.2.2.2.2.1, .int .i64 s30.2.2.2.2.2.2.1, .int .i64 s30.2.2.2.2.2.2.2.1, .int .i64 s30.2.2.2.2.2.2.2.2.1, .int .i64 s30.2.2.2.2.2.2.2.2.2.1, .int .i64 s30.2.2.2.2.2.2.2.2.2.2.1, .int .i64 s30.2.2.2.2.2.2.2.2.2.2.2.1, .int .i64 s30.2.2.2.2.2.2.2.2.2.2.2.2.1, v33, v35, .string s30.2.2.2.2.2.2.2.2.2.2.2.2.2.2.2.1, .string s30.2.2.2.2.2.2.2.2.2.2.2.2.2.2.2.2]) z_agg32 rfl w hw⟩, rfl, trivial⟩ (by simp) (((((hl9.trans hl16).trans hl22).trans hl29).trans hl30).trans hl40) ⟨_, _, rfl, rfl, (hs34.up hl40), (hs36.up hl40)⟩
  refine ZZ 11 [1] rfl rfl ?_
  refine st_if rfl h (fun h => ?_) (fun h => ?_)
  ·refine Z 7 rfl ?_
   obtain ⟨r41, hr42, h⟩ := h
   refine st_call (foot := [[(b10, .cells #[v23, .int .i64 r19.2.2.1, .int .i64 r19.2.2.2] 137 (0, 0))]]) rfl rfl rfl rfl rfl rfl (callV_fn z_en80 (lens_Lens_U8_ok hr42 τ28 (hs24.up hl29))) ?_
   rintro vτ43 τ43 gsτ43 hl44 ⟨v45, rfl, rfl, hs46⟩
   refine Z 2 rfl ?_
   obtain ⟨r47, hr48, h⟩ := h
   refine st_call (foot := [[(b10, .cells #[v45, .int .i64 r41.2.2.1, .int .i64 r41.2.2.2] 137 (0, 0))]]) rfl rfl rfl rfl rfl rfl (callV_fn z_en80 (lens_Lens_U8_ok hr48 τ43 hs46)) ?_
   rintro vτ49 τ49 gsτ49 hl50 ⟨v51, rfl, rfl, hs52⟩
   refine ZZ 9 [1] rfl rfl ?_
   obtain ⟨r53, hr54, h⟩ := h
   refine st_call (foot := [[(b10, .cells #[v51, .int .i64 r47.2.2.1, .int .i64 r47.2.2.2] 137 (0, 0))]]) rfl rfl rfl rfl rfl rfl (callV_fn z_en63 (lens_Lens_Err_ok hr54 τ49 hs52)) ?_
   rintro vτ55 τ55 gsτ55 hl56 ⟨rfl, rfl⟩
   refine Z 2 rfl ?_
   refine st_if rfl h (fun h => ?_) (fun h => ?_)
   ·refine st_goto rfl ?_
    refine st_ord [3] _ rfl ?_
    exact hk4 _ _ _ ⟨13, h, ((((((hl9.trans hl16).trans hl22).trans hl29).trans hl44).trans hl50).trans hl56), rfl, rfl⟩
   ·refine Z 7 rfl ?_
    refine st_cut (fun ρ τ57 gs => ∃ (s57 : Bool), log_read_j3 r13 r19 r41 r47 s57 r ∧ τ55.Le τ57 ∧ ESub ρ [(2, .pointer (some ⟨b3, 0, none⟩)), (3, .int .i64 0), (4, .pointer (some ⟨b5, 0, none⟩)), (5, .int .i64 10), (6, .pointer (some ⟨b10, 0, none⟩)), (7, .pointer (some ⟨b25, 0, none⟩)), (8, .int .i64 (IntKind.i64.wrap r47.1)), (41, .bool s57)] ∧ gs = [[(b3, .cells #[.int .i64 0, .int .u32 0, .int .i64 0, .int .i64 0, .int .i64 0, .int .i64 0, .int .i64 0, .int .i64 0, .int .i64 0, .int .i64 0, .int .i64 0, .slice none 0 0, .slice none 0 0, .string (bstr []), .string (bstr [])] 32 (0, 0))], [(b5, .cells #[.int .i64 0, .int .i64 0, .int .i64 0, .int .i64 0, .int .i64 0, .int .i64 0, .int .i64 0, .slice none 0 0, .slice none 0 0, .string (bstr []), .string (bstr [])] 30 (0, 0))], [(b10, .cells #[v51, .int .i64 r47.2.2.1, .int .i64 r47.2.2.2] 137 (0, 0))], [(b25, .cells #[.int .i64 (IntKind.i64.wrap r13.1), .int .u32 r19.1, .int .i64 (IntKind.i64.wrap r41.1), .int .i64 0, .int .i64 0, .int .i64 0, .int .i64 0, .int .i64 0, .int .i64 0, .int .i64 0, .int .i64 0, .slice none 0 0, .slice none 0 0, .string (bstr []), .string (bstr [])] 32 (0, 0))]]) ?_ (fun hk57 => ?_)
    ·rintro ρ57 τ57 gs57 ⟨s57, h, hl57, hρ, rfl⟩
     refine st_es hρ ?_
     refine st_if rfl h (fun h => ?_) (fun h => ?_)
     ·refine st_goto rfl ?_
      refine st_ord [0] _ rfl ?_
      exact hk4 _ _ _ ⟨10, h, (((((((hl9.trans hl16).trans hl22).trans hl29).trans hl44).trans hl50).trans hl56).trans hl57), rfl, rfl⟩
     ·refine Z 6 rfl ?_
      obtain ⟨r58, hr59, h⟩ := h
      refine st_ord [2, 0, 0, 0] _ rfl ?_
      refine st_call (foot := [[(b10, .cells #[v51, .int .i64 r47.2.2.1, .int .i64 r47.2.2.2] 137 (0, 0))]]) rfl rfl rfl rfl rfl rfl (callV_fn z_en83 (lens_Lens_Rest_ok hr59 τ57 (hs52.up (hl56.trans hl57)))) ?_
      rintro vτ60 τ60 gsτ60 hl61 ⟨v62, v64, rfl, rfl, hs63, hs65⟩
      obtain ⟨r66, hr67, h⟩ := h
      refine st_call (foot := []) rfl rfl rfl rfl rfl rfl (callV_fn z_en82 (body_Decode_ok hr67 τ60 hs63)) ?_
      rintro vτ68 τ68 gsτ68 hl69 ⟨v70, v71, rfl, rfl, hs72, hs73⟩
      refine Z 3 rfl ?_
      refine o_store (j := 2) (vs := [.int .i64 r66.1.1, .int .i64 (r66.1.2.1.getD 0 0), .int .i64 (r66.1.2.1.getD 1 0), .int .i64 (r66.1.2.1.getD 2 0), .int .i64 (r66.1.2.1.getD 3 0), .int .i64 (r66.1.2.1.getD 4 0), .int .i64 (r66.1.2.1.getD 5 0), v70, v71, .string r66.1.2.2.2.2.1, .string r66.1.2.2.2.2.2]) (cs' := [.int .i64 r66.1.1, .int .i64 (r66.1.2.1.getD 0 0), .int .i64 (r66.1.2.1.getD 1 0), .int .i64 (r66.1.2.1.getD 2 0), .int .i64 (r66.1.2.1.getD 3 0), .int .i64 (r66.1.2.1.getD 4 0), .int .i64 (r66.1.2.1.getD 5 0), v70, v71, .string r66.1.2.2.2.2.1, .string r66.1.2.2.2.2.2]) rfl rfl rfl z_size30 rfl rfl rfl (ones_cons rfl (ones_cons rfl (ones_cons rfl (ones_cons rfl (ones_cons rfl (ones_cons rfl (ones_cons rfl (ones_cons hs72.one' (ones_cons hs73.one' (ones_cons rfl (ones_cons rfl ones_nil))))))))))) rfl rfl rfl ?_
      refine st_gs [[(b10, .cells #[v64, .int .i64 r58.2.2.1, .int .i64 r58.2.2.2] 137 (0, 0))], [(b3, .cells #[.int .i64 0, .int .u32 0, .int .i64 0, .int .i64 0, .int .i64 0, .int .i64 0, .int .i64 0, .int .i64 0, .int .i64 0, .int .i64 0, .int .i64 0, .slice none 0 0, .slice none 0 0, .string (bstr []), .string (bstr [])] 32 (0, 0))], [(b5, .cells #[.int .i64 r66.1.1, .int .i64 (r66.1.2.1.getD 0 0), .int .i64 (r66.1.2.1.getD 1 0), .int .i64 (r66.1.2.1.getD 2 0), .int .i64 (r66.1.2.1.getD 3 0), .int .i64 (r66.1.2.1.getD 4 0), .int .i64 (r66.1.2.1.getD 5 0), v70, v71, .string r66.1.2.2.2.2.1, .string r66.1.2.2.2.2.2] 30 (0, 0))], [(b25, .cells #[.int .i64 (IntKind.i64.wrap r13.1), .int .u32 r19.1, .int .i64 (IntKind.i64.wrap r41.1), .int .i64 0, .int .i64 0, .int .i64 0, .int .i64 0, .int .i64 0, .int .i64 0, .int .i64 0, .int .i64 0, .slice none 0 0, .slice none 0 0, .string (bstr []), .string (bstr [])] 32 (0, 0))]] rfl ?_
      refine Z 7 rfl ?_
      refine st_if rfl h (fun h => ?_) (fun h => ?_)
      ·refine st_goto rfl ?_
       refine st_ord [1] _ rfl ?_
       exact hk4 _ _ _ ⟨r66.2, h, (((((((((hl9.trans hl16).trans hl22).trans hl29).trans hl44).trans hl50).trans hl56).trans hl57).trans hl61).trans hl69), rfl, rfl⟩
      ·refine ZZ 4 [2] rfl rfl ?_
       refine o_store (j := 3) (vs := [.int .i64 r66.1.1, .int .i64 (r66.1.2.1.getD 0 0), .int .i64 (r66.1.2.1.getD 1 0), .int .i64 (r66.1.2.1.getD 2 0), .int .i64 (r66.1.2.1.getD 3 0), .int .i64 (r66.1.2.1.getD 4 0), .int .i64 (r66.1.2.1.getD 5 0), v70, v71, .string r66.1.2.2.2.2.1, .string r66.1.2.2.2.2.2]) (cs' := [.int .i64 (IntKind.i64.wrap r13.1), .int .u32 r19.1, .int .i64 (IntKind.i64.wrap r41.1), .int .i64 0, .int .i64 r66.1.1, .int .i64 (r66.1.2.1.getD 0 0), .int .i64 (r66.1.2.1.getD 1 0), .int .i64 (r66.1.2.1.getD 2 0), .int .i64 (r66.1.2.1.getD 3 0), .int .i64 (r66.1.2.1.getD 4 0), .int .i64 (r66.1.2.1.getD 5 0), v70, v71, .string r66.1.2.2.2.2.1, .string r66.1.2.2.2.2.2]) rfl rfl rfl z_size30 rfl rfl rfl (ones_cons rfl (ones_cons rfl (ones_cons rfl (ones_cons rfl (ones_cons rfl (ones_cons rfl (ones_cons rfl (ones_cons hs72.one' (ones_cons hs73.one' (ones_cons rfl (ones_cons rfl ones_nil))))))))))) rfl rfl rfl ?_
       refine st_gs [[(b10, .cells #[v64, .int .i64 r58.2.2.1, .int .i64 r58.2.2.2] 137 (0, 0))], [(b3, .cells #[.int .i64 0, .int .u32 0, .int .i64 0, .int .i64 0, .int .i64 0, .int .i64 0, .int .i64 0, .int .i64 0, .int .i64 0, .int .i64 0, .int .i64 0, .slice none 0 0, .slice none 0 0, .string (bstr []), .string (bstr [])] 32 (0, 0))], [(b5, .cells #[.int .i64 r66.1.1, .int .i64 (r66.1.2.1.getD 0 0), .int .i64 (r66.1.2.1.getD 1 0), .int .i64 (r66.1.2.1.getD 2 0), .int .i64 (r66.1.2.1.getD 3 0), .int .i64 (r66.1.2.1.getD 4 0), .int .i64 (r66.1.2.1.getD 5 0), v70, v71, .string r66.1.2.2.2.2.1, .string r66.1.2.2.2.2.2] 30 (0, 0))], [(b25, .cells #[.int .i64 (IntKind.i64.wrap r13.1), .int .u32 r19.1, .int .i64 (IntKind.i64.wrap r41.1), .int .i64 0, .int .i64 r66.1.1, .int .i64 (r66.1.2.1.getD 0 0), .int .i64 (r66.1.2.1.getD 1 0), .int .i64 (r66.1.2.1.getD 2 0), .int .i64 (r66.1.2.1.getD 3 0), .int .i64 (r66.1.2.1.getD 4 0), .int .i64 (r66.1.2.1.getD 5 0), v70, v71, .string r66.1.2.2.2.2.1, .string r66.1.2.2.2.2.2] 32 (0, 0))]] rfl ?_
       refine Z 2 rfl ?_
       refine st_ord [1, 0, 1] _ rfl ?_
       exact hk30 _ _ _ ⟨(r66.2, r58.2.1, r58.2.2.1, r58.2.2.2, (IntKind.i64.wrap r41.1), 0, r66.1.1, (r66.1.2.1.getD 0 0), (r66.1.2.1.getD 1 0), (r66.1.2.1.getD 2 0), (r66.1.2.1.getD 3 0), (r66.1.2.1.getD 4 0), (r66.1.2.1.getD 5 0), r66.1.2.2.1, r66.1.2.2.2.1, r66.1.2.2.2.2.1, r66.1.2.2.2.2.2), _, _, _, h, (((((hl44.trans hl50).trans hl56).trans hl57).trans hl61).trans hl69), rfl, rfl, (hs65.up hl69), hs72, hs73⟩
    refine ZZ 4 [1] rfl rfl ?_
    refine o_mif rfl rfl rfl rfl h (fun h => ?_) (fun h => ?_)
    ·refine ZZ 5 [1] rfl rfl ?_
     refine st_ord [3, 2, 0, 0] _ rfl ?_
     exact hk57 _ _ _ ⟨(!(decide ((IntKind.i64.wrap r41.1) = 2))), h, (Sto.Le.refl _), rfl, rfl⟩
    ·refine Z 5 rfl ?_
     refine st_ord [3, 2, 0, 0] _ rfl ?_
     exact hk57 _ _ _ ⟨false, h, (Sto.Le.refl _), rfl, rfl⟩
  ·refine Z 5 rfl ?_
   refine st_if rfl h (fun h => ?_) (fun h => ?_)
   ·refine Z 3 rfl ?_
    obtain ⟨r74, hr75, h⟩ := h
    refine st_call (foot := [[(b10, .cells #[v23, .int .i64 r19.2.2.1, .int .i64 r19.2.2.2] 137 (0, 0))]]) rfl rfl rfl rfl rfl rfl (callV_fn z_en80 (lens_Lens_U8_ok hr75 τ28 (hs24.up hl29))) ?_
    rintro vτ76 τ76 gsτ76 hl77 ⟨v78, rfl, rfl, hs79⟩
    refine ZZ 8 [1] rfl rfl ?_
    obtain ⟨r80, hr81, h⟩ := h
    refine st_call (foot := [[(b10, .cells #[v78, .int .i64 r74.2.2.1, .int .i64 r74.2.2.2] 137 (0, 0))]]) rfl rfl rfl rfl rfl rfl (callV_fn z_en63 (lens_Lens_Err_ok hr81 τ76 hs79)) ?_
    rintro vτ82 τ82 gsτ82 hl83 ⟨rfl, rfl⟩
    refine Z 2 rfl ?_
    refine st_if rfl h (fun h => ?_) (fun h => ?_)
    ·refine st_goto rfl ?_
     refine st_ord [3] _ rfl ?_
     exact hk4 _ _ _ ⟨13, h, (((((hl9.trans hl16).trans hl22).trans hl29).trans hl77).trans hl83), rfl, rfl⟩
    ·refine ZZ 9 [1] rfl rfl ?_
     obtain ⟨r84, hr85, h⟩ := h
     refine st_call (foot := []) rfl rfl rfl rfl rfl rfl (callV_fn z_en23 (event_Word_ok hr85 τ82)) ?_
     rintro vτ86 τ86 gsτ86 hl87 ⟨rfl, rfl⟩
     refine o_sbin (v := .bool (decide (r84 = (bstr [])))) rfl rfl rfl rfl (ev_str z_str19) rfl ?_
     refine st_end ?_
     refine st_if rfl h (fun h => ?_) (fun h => ?_)
     ·refine st_goto rfl ?_
      refine st_ord [3] _ rfl ?_
      exact hk4 _ _ _ ⟨7, h, ((((((hl9.trans hl16).trans hl22).trans hl29).trans hl77).trans hl83).trans hl87), rfl, rfl⟩
     ·refine Z 2 rfl ?_
      refine st_ord [3, 0, 0] _ rfl ?_
      exact hk30 _ _ _ ⟨(7, r74.2.1, r74.2.2.1, r74.2.2.2, 0, (IntKind.i64.wrap r74.1), 0, 0, 0, 0, 0, 0, 0, [], [], (bstr []), (bstr [])), _, _, _, h, ((hl77.trans hl83).trans hl87), rfl, rfl, (hs79.up (hl83.trans hl87)), Sl.nil, Sl.nil⟩
   ·refine Z 5 rfl ?_
    refine st_if rfl h (fun h => ?_) (fun h => ?_)
    ·refine Z 2 rfl ?_
     refine st_ord [3, 0, 0] _ rfl ?_
     exact hk30 _ _ _ ⟨(13, r19.2.1, r19.2.2.1, r19.2.2.2, 0, 0, 0, 0, 0, 0, 0, 0, 0, [], [], (bstr []), (bstr [])), _, _, _, h, (Sto.Le.refl _), rfl, rfl, (hs24.up hl29), Sl.nil, Sl.nil⟩
    ·refine Z 4 rfl ?_
     refine st_goto rfl ?_
     refine st_ord [3] _ rfl ?_
     exact hk4 _ _ _ ⟨9, h, (((hl9.trans hl16).trans hl22).trans hl29), rfl, rfl⟩
theorem log_Parse_1_ok {a0 : Int} {a1 : Int} {a2 : Int × Int × Int × Int × (Int × List Int × List (Int × Int) × List Int × ByteArray × ByteArray)} {c0 : List (Int × Int × Int × Int × (Int × List Int × List (Int × Int) × List Int × ByteArray × ByteArray))} {v1 : Value} {v2 : Value} {bc0 : Nat} {v5 : Value} {g6 : Grp} {r : Bool × (List (Int × Int × Int × Int × (Int × List Int × List (Int × Int) × List Int × ByteArray × ByteArray)))} (h : log_Parse_1 a0 a1 a2 c0 r) (σ : Sto) (hs3 : Sl (kP (kI .i64) (kI .i64)) σ v1 a2.2.2.2.2.2.2.1) (hs4 : Sl (kI .i64) σ v2 a2.2.2.2.2.2.2.2.1) (ho7 : Ow (kP (kI .i64) (kP (kI .u32) (kP (kI .i64) (kP (kI .i64) (kP (kI .i64) (kP (kA .i64 6) (kP (kSl (kP (kI .i64) (kI .i64))) (kP (kSl (kI .i64)) (kP kS kS))))))))) 32 σ v5 c0 g6) :
    Does Tryz.prog 34 [.int .i64 a0, .int .i64 a1, .agg [.int .i64 a2.1, .int .u32 a2.2.1, .int .i64 a2.2.2.1, .int .i64 a2.2.2.2.1, .int .i64 a2.2.2.2.2.1, .int .i64 (a2.2.2.2.2.2.1.getD 0 0), .int .i64 (a2.2.2.2.2.2.1.getD 1 0), .int .i64 (a2.2.2.2.2.2.1.getD 2 0), .int .i64 (a2.2.2.2.2.2.1.getD 3 0), .int .i64 (a2.2.2.2.2.2.1.getD 4 0), .int .i64 (a2.2.2.2.2.2.1.getD 5 0), v1, v2, .string a2.2.2.2.2.2.2.2.2.1, .string a2.2.2.2.2.2.2.2.2.2].toArray, .pointer (some ⟨bc0, 0, none⟩)] σ [[(bc0, .cells [v5].toArray 22 (0, 0))], g6] (fun v τ gs => ∃ (v17 : Value) (g18 : Grp), gs = [[(bc0, .cells [v17].toArray 22 (0, 0))], g18] ∧ .bool r.1 = v ∧ Ow (kP (kI .i64) (kP (kI .u32) (kP (kI .i64) (kP (kI .i64) (kP (kI .i64) (kP (kA .i64 6) (kP (kSl (kP (kI .i64) (kI .i64))) (kP (kSl (kI .i64)) (kP kS kS))))))))) 32 τ v17 r.2 g18) := by
 refine call_of Tryz.func34 Tryz.ntmps34 rfl rfl (fun cs fs => ?_)
 refine Z 2 rfl ?_
 refine o_box (cs := [.int .i64 a2.1, .int .u32 a2.2.1, .int .i64 a2.2.2.1, .int .i64 a2.2.2.2.1, .int .i64 a2.2.2.2.2.1, .int .i64 (a2.2.2.2.2.2.1.getD 0 0), .int .i64 (a2.2.2.2.2.2.1.getD 1 0), .int .i64 (a2.2.2.2.2.2.1.getD 2 0), .int .i64 (a2.2.2.2.2.2.1.getD 3 0), .int .i64 (a2.2.2.2.2.2.1.getD 4 0), .int .i64 (a2.2.2.2.2.2.1.getD 5 0), v1, v2, .string a2.2.2.2.2.2.2.2.2.1, .string a2.2.2.2.2.2.2.2.2.2]) rfl rfl rfl rfl rfl (fun b8 => ?_)
 refine ZZ 6 [1, 0] rfl rfl ?_
 refine o_lit (dk := (kP (kI .i64) (kP (kI .u32) (kP (kI .i64) (kP (kI .i64) (kP (kI .i64) (kP (kA .i64 6) (kP (kSl (kP (kI .i64) (kI .i64))) (kP (kSl (kI .i64)) (kP kS kS)))))))))) (xs := [a2]) (ps := [(0, [.int .i64 a2.1, .int .u32 a2.2.1, .int .i64 a2.2.2.1, .int .i64 a2.2.2.2.1, .int .i64 a2.2.2.2.2.1, .int .i64 (a2.2.2.2.2.2.1.getD 0 0), .int .i64 (a2.2.2.2.2.2.1.getD 1 0), .int .i64 (a2.2.2.2.2.2.1.getD 2 0), .int .i64 (a2.2.2.2.2.2.1.getD 3 0), .int .i64 (a2.2.2.2.2.2.1.getD 4 0), .int .i64 (a2.2.2.2.2.2.1.getD 5 0), v1, v2, .string a2.2.2.2.2.2.2.2.2.1, .string a2.2.2.2.2.2.2.2.2.2])]) (cs := [.int .i64 a2.1, .int .u32 a2.2.1, .int .i64 a2.2.2.1, .int .i64 a2.2.2.2.1, .int .i64 a2.2.2.2.2.1, .int .i64 (a2.2.2.2.2.2.1.getD 0 0), .int .i64 (a2.2.2.2.2.2.1.getD 1 0), .int .i64 (a2.2.2.2.2.2.1.getD 2 0), .int .i64 (a2.2.2.2.2.2.1.getD 3 0), .int .i64 (a2.2.2.2.2.2.1.getD 4 0), .int .i64 (a2.2.2.2.2.2.1.getD 5 0), v1, v2, .string a2.2.2.2.2.2.2.2.2.1, .string a2.2.2.2.2.2.2.2.2.2]) rfl rfl rfl z_slT22 z_zero32 ⟨rfl, ⟨_, rfl, rfl⟩, trivial⟩ rfl rfl rfl rfl (Kd.Many.cons (d := (kP (kI .i64) (kP (kI .u32) (kP (kI .i64) (kP (kI .i64) (kP (kI .i64) (kP (kA .i64 6) (kP (kSl (kP (kI .i64) (kI .i64))) (kP (kSl (kI .i64)) (kP kS kS)))))))))) (x := a2) (a := [.int .i64 a2.1, .int .u32 a2.2.1, .int .i64 a2.2.2.1, .int .i64 a2.2.2.2.1, .int .i64 a2.2.2.2.2.1, .int .i64 (a2.2.2.2.2.2.1.getD 0 0), .int .i64 (a2.2.2.2.2.2.1.getD 1 0), .int .i64 (a2.2.2.2.2.2.1.getD 2 0), .int .i64 (a2.2.2.2.2.2.1.getD 3 0), .int .i64 (a2.2.2.2.2.2.1.getD 4 0), .int .i64 (a2.2.2.2.2.2.1.getD 5 0), v1, v2, .string a2.2.2.2.2.2.2.2.2.1, .string a2.2.2.2.2.2.2.2.2.2]) ⟨[.int .i64 a2.1], _, rfl, rfl, ⟨[.int .u32 a2.2.1], _, rfl, rfl, ⟨[.int .i64 a2.2.2.1], _, rfl, rfl, ⟨[.int .i64 a2.2.2.2.1], _, rfl, rfl, ⟨[.int .i64 a2.2.2.2.2.1], _, rfl, rfl, ⟨[.int .i64 (a2.2.2.2.2.2.1.getD 0 0), .int .i64 (a2.2.2.2.2.2.1.getD 1 0), .int .i64 (a2.2.2.2.2.2.1.getD 2 0), .int .i64 (a2.2.2.2.2.2.1.getD 3 0), .int .i64 (a2.2.2.2.2.2.1.getD 4 0), .int .i64 (a2.2.2.2.2.2.1.getD 5 0)], _, rfl, rfl, ⟨[v1], _, rfl, ⟨_, rfl, hs3⟩, ⟨[v2], _, rfl, ⟨_, rfl, hs4⟩, ⟨[.string a2.2.2.2.2.2.2.2.2.1], _, rfl, rfl, rfl⟩⟩⟩⟩⟩⟩⟩⟩⟩ Kd.Many.nil) (fun v9 g10 ho11 => ?_)
 obtain ⟨hf15, hf16, h⟩ := h
 refine st_ord [3, 0, 0, 0] _ rfl ?_
 refine o_append (dk := (kP (kI .i64) (kP (kI .u32) (kP (kI .i64) (kP (kI .i64) (kP (kI .i64) (kP (kA .i64 6) (kP (kSl (kP (kI .i64) (kI .i64))) (kP (kSl (kI .i64)) (kP kS kS)))))))))) (xs := c0) (ys := [a2]) rfl rfl rfl rfl z_slT22 rfl ho7 rfl (Ow.src (j := 1) ho11 rfl) hf15 hf16 (fun v12 g13 ho14 => ?_)
 refine o_store (j := 3) (vs := [v12]) (cs' := [v12]) rfl rfl rfl z_size22 rfl rfl (oneL_ow ho14) (ones_cons ho14.one' ones_nil) rfl rfl rfl ?_
 refine st_gs [g13, g10, [(b8, .cells #[.int .i64 a2.1, .int .u32 a2.2.1, .int .i64 a2.2.2.1, .int .i64 a2.2.2.2.1, .int .i64 a2.2.2.2.2.1, .int .i64 (a2.2.2.2.2.2.1.getD 0 0), .int .i64 (a2.2.2.2.2.2.1.getD 1 0), .int .i64 (a2.2.2.2.2.2.1.getD 2 0), .int .i64 (a2.2.2.2.2.2.1.getD 3 0), .int .i64 (a2.2.2.2.2.2.1.getD 4 0), .int .i64 (a2.2.2.2.2.2.1.getD 5 0), v1, v2, .string a2.2.2.2.2.2.2.2.2.1, .string a2.2.2.2.2.2.2.2.2.2] 32 (0, 0))], [(bc0, .cells #[v12] 22 (0, 0))]] rfl ?_
 refine Z 5 rfl ?_
 refine st_ord [3, 0] _ rfl ?_
 obtain rfl := Eq.symm h
 exact st_ret (gs' := [[(bc0, .cells #[v12] 22 (0, 0))], g13]) Tryz.func34 rfl (List.Sublist.refl _) (Sto.Le.refl _) ⟨_, _, rfl, rfl, ho14⟩
theorem log_each__log_Parse_1_ok {a0 : List Int} {a1_0 : List (Int × Int × Int × Int × (Int × List Int × List (Int × Int) × List Int × ByteArray × ByteArray))} {v1 : Value} {ba1_0 : Nat} {v3 : Value} {g4 : Grp} {r : Int × (List (Int × Int × Int × Int × (Int × List Int × List (Int × Int) × List Int × ByteArray × ByteArray)))} (h : log_each__log_Parse_1 a0 a1_0 r) (σ : Sto) (hs2 : Sl (kI .u8) σ v1 a0) (ho5 : Ow (kP (kI .i64) (kP (kI .u32) (kP (kI .i64) (kP (kI .i64) (kP (kI .i64) (kP (kA .i64 6) (kP (kSl (kP (kI .i64) (kI .i64))) (kP (kSl (kI .i64)) (kP kS kS))))))))) 32 σ v3 a1_0 g4) :
    Does Tryz.prog 33 [v1, .func (.func 34) #[] [.pointer (some ⟨ba1_0, 0, none⟩)].toArray] σ [[(ba1_0, .cells [v3].toArray 22 (0, 0))], g4] (fun v τ gs => ∃ (v73 : Value) (g74 : Grp), gs = [[(ba1_0, .cells [v73].toArray 22 (0, 0))], g74] ∧ .int .i64 r.1 = v ∧ Ow (kP (kI .i64) (kP (kI .u32) (kP (kI .i64) (kP (kI .i64) (kP (kI .i64) (kP (kA .i64 6) (kP (kSl (kP (kI .i64) (kI .i64))) (kP (kSl (kI .i64)) (kP kS kS))))))))) 32 τ v73 r.2 g74) := by
 refine call_of Tryz.func33 Tryz.ntmps33 rfl rfl (fun cs fs => ?_)
 refine Z 8 rfl ?_
 obtain ⟨r6, hr7, h⟩ := h
 refine st_call (foot := []) rfl rfl rfl rfl rfl rfl (callV_fn z_en59 (lens_New_ok hr7 σ hs2)) ?_
 rintro vτ8 τ8 gsτ8 hl9 ⟨b10, v11, rfl, rfl, hs12⟩
 refine Z 5 rfl ?_
 refine st_cut (fun ρ τ13 gs => ∃ (s13 : (List (Int × Int × Int × Int × (Int × List Int × List (Int × Int) × List Int × ByteArray × ByteArray)))) (v14 : Value) (g15 : Grp), log_each__log_Parse_1_j1 s13 r ∧ τ8.Le τ13 ∧ ESub ρ [(4, .int .i64 0)] ∧ gs = [[(ba1_0, .cells #[v14] 22 (0, 0))], g15] ∧ Ow (kP (kI .i64) (kP (kI .u32) (kP (kI .i64) (kP (kI .i64) (kP (kI .i64) (kP (kA .i64 6) (kP (kSl (kP (kI .i64) (kI .i64))) (kP (kSl (kI .i64)) (kP kS kS))))))))) 32 τ13 v14 s13 g15) ?_ (fun hk13 => ?_)
 ·rintro ρ13 τ13 gs13 ⟨s13, v14, g15, h, hl13, hρ, rfl, ho16⟩
  refine st_es hρ ?_
  refine Z 4 rfl ?_
  obtain rfl := Eq.symm h
  exact st_ret (gs' := [[(ba1_0, .cells #[v14] 22 (0, 0))], g15]) Tryz.func33 rfl (List.Sublist.refl _) (hl9.trans hl13) ⟨_, _, rfl, rfl, ho16⟩
 obtain ⟨e17, hL17, hA17⟩ := h
 refine st_ord [1, 0, 0] _ rfl ?_
 refine st_loop hL17 (fun (s17 : (List (Int × Int × Int × Int × (Int × List Int × List (Int × Int) × List Int × ByteArray × ByteArray))) × List Int × Int × Int) ρ τ17 gs => τ8.Le τ17 ∧ ∃ (v18 : Value) (g19 : Grp) (v21 : Value), ESub ρ [(1, .func (.func 34) #[] #[.pointer (some ⟨ba1_0, 0, none⟩)]), (4, .int .i64 0), (5, .pointer (some ⟨b10, 0, none⟩))] ∧ gs = [[(ba1_0, .cells #[v18] 22 (0, 0))], [(b10, .cells #[v21, .int .i64 s17.2.2.1, .int .i64 s17.2.2.2] 137 (0, 0))], g19] ∧ Ow (kP (kI .i64) (kP (kI .u32) (kP (kI .i64) (kP (kI .i64) (kP (kI .i64) (kP (kA .i64 6) (kP (kSl (kP (kI .i64) (kI .i64))) (kP (kSl (kI .i64)) (kP kS kS))))))))) 32 τ17 v18 s17.1 g19 ∧ Sl (kI .u8) τ17 v21 s17.2.1) ⟨Sto.Le.refl _, _, _, _, rfl, rfl, (ho5.up hl9), hs12⟩ ?_
 rintro s17 o17 h he17 ρ17 τ17 gs17 ⟨hl17, v18, g19, v21, hρ, rfl, ho20, hs22⟩ hn17
 refine st_es hρ ?_
 refine Z 4 rfl ?_
 obtain ⟨r23, hr24, h⟩ := h
 refine st_ord [1, 0, 0] _ rfl ?_
 refine st_call (foot := [[(b10, .cells #[v21, .int .i64 s17.2.2.1, .int .i64 s17.2.2.2] 137 (0, 0))]]) rfl rfl rfl rfl rfl rfl (callV_fn z_en60 (lens_Lens_Left_ok hr24 τ17 hs22)) ?_
 rintro vτ25 τ25 gsτ25 hl26 ⟨rfl, rfl⟩
 refine Z 2 rfl ?_
 refine st_if rfl h (fun h => ?_) (fun h => ?_)
 ·refine Z 5 rfl ?_
  obtain ⟨r27, hr28, h⟩ := h
  refine st_call (foot := [[(b10, .cells #[v21, .int .i64 s17.2.2.1, .int .i64 s17.2.2.2] 137 (0, 0))]]) rfl rfl rfl rfl rfl rfl (callV_fn z_en61 (lens_Lens_Place_ok hr28 τ25 (hs22.up hl26))) ?_
  rintro vτ29 τ29 gsτ29 hl30 ⟨rfl, rfl⟩
  refine Z 5 rfl ?_
  obtain ⟨r31, hr32, h⟩ := h
  refine st_call (foot := [[(b10, .cells #[v21, .int .i64 s17.2.2.1, .int .i64 s17.2.2.2] 137 (0, 0))]]) rfl rfl rfl rfl rfl rfl (callV_fn z_en62 (lens_Lens_Field_ok hr32 τ29 (hs22.up (hl26.trans hl30)))) ?_
  rintro vτ33 τ33 gsτ33 hl34 ⟨v35, v37, rfl, rfl, hs36, hs38⟩
  refine Z 6 rfl ?_
  obtain ⟨r39, hr40, h⟩ := h
  refine st_call (foot := [[(b10, .cells #[v37, .int .i64 r31.2.2.1, .int .i64 r31.2.2.2] 137 (0, 0))]]) rfl rfl rfl rfl rfl rfl (callV_fn z_en63 (lens_Lens_Err_ok hr40 τ33 hs38)) ?_
  rintro vτ41 τ41 gsτ41 hl42 ⟨rfl, rfl⟩
  refine Z 2 rfl ?_
  refine st_if rfl h (fun h => ?_) (fun h => ?_)
  ·refine Z 3 rfl ?_
   obtain ⟨r43, hr44, h⟩ := h
   refine st_call (foot := [[(b10, .cells #[v37, .int .i64 r31.2.2.1, .int .i64 r31.2.2.2] 137 (0, 0))]]) rfl rfl rfl rfl rfl rfl (callV_fn z_en63 (lens_Lens_Err_ok hr44 τ41 (hs38.up hl42))) ?_
   rintro vτ45 τ45 gsτ45 hl46 ⟨rfl, rfl⟩
   refine Z 2 rfl ?_
   refine st_ord [1, 1] _ rfl ?_
   obtain rfl := he17 _ h
   replace h := hA17
   obtain rfl := Eq.symm h
   exact st_ret (gs' := [[(ba1_0, .cells #[v18] 22 (0, 0))], g19]) Tryz.func33 rfl (List.Sublist.refl _) ((((((hl9.trans hl17).trans hl26).trans hl30).trans hl34).trans hl42).trans hl46) ⟨_, _, rfl, rfl, (ho20.up ((((hl26.trans hl30).trans hl34).trans hl42).trans hl46))⟩
  ·refine Z 4 rfl ?_
   obtain ⟨r47, hr48, h⟩ := h
   refine st_call (foot := []) rfl rfl rfl rfl rfl rfl (callV_fn z_en64 (log_read_ok hr48 τ41 (hs36.up hl42))) ?_
   rintro vτ49 τ49 gsτ49 hl50 ⟨v51, v52, rfl, rfl, hs53, hs54⟩
   refine Z 3 rfl ?_
   refine o_alloc rfl rfl rfl z_zero32 (fun b55 => ?_)
   refine o_store (j := 0) (vs := [.int .i64 r47.1.1, .int .u32 r47.1.2.1, .int .i64 r47.1.2.2.1, .int .i64 r47.1.2.2.2.1, .int .i64 r47.1.2.2.2.2.1, .int .i64 (r47.1.2.2.2.2.2.1.getD 0 0), .int .i64 (r47.1.2.2.2.2.2.1.getD 1 0), .int .i64 (r47.1.2.2.2.2.2.1.getD 2 0), .int .i64 (r47.1.2.2.2.2.2.1.getD 3 0), .int .i64 (r47.1.2.2.2.2.2.1.getD 4 0), .int .i64 (r47.1.2.2.2.2.2.1.getD 5 0), v51, v52, .string r47.1.2.2.2.2.2.2.2.2.1, .string r47.1.2.2.2.2.2.2.2.2.2]) (cs' := [.int .i64 r47.1.1, .int .u32 r47.1.2.1, .int .i64 r47.1.2.2.1, .int .i64 r47.1.2.2.2.1, .int .i64 r47.1.2.2.2.2.1, .int .i64 (r47.1.2.2.2.2.2.1.getD 0 0), .int .i64 (r47.1.2.2.2.2.2.1.getD 1 0), .int .i64 (r47.1.2.2.2.2.2.1.getD 2 0), .int .i64 (r47.1.2.2.2.2.2.1.getD 3 0), .int .i64 (r47.1.2.2.2.2.2.1.getD 4 0), .int .i64 (r47.1.2.2.2.2.2.1.getD 5 0), v51, v52, .string r47.1.2.2.2.2.2.2.2.2.1, .string r47.1.2.2.2.2.2.2.2.2.2]) rfl rfl rfl z_size32 rfl rfl rfl (ones_cons rfl (ones_cons rfl (ones_cons rfl (ones_cons rfl (ones_cons rfl (ones_cons rfl (ones_cons rfl (ones_cons rfl (ones_cons rfl (ones_cons rfl (ones_cons rfl (ones_cons hs53.one' (ones_cons hs54.one' (ones_cons rfl (ones_cons rfl ones_nil))))))))))))))) rfl rfl rfl ?_
   refine st_gs [[(b55, .cells #[.int .i64 r47.1.1, .int .u32 r47.1.2.1, .int .i64 r47.1.2.2.1, .int .i64 r47.1.2.2.2.1, .int .i64 r47.1.2.2.2.2.1, .int .i64 (r47.1.2.2.2.2.2.1.getD 0 0), .int .i64 (r47.1.2.2.2.2.2.1.getD 1 0), .int .i64 (r47.1.2.2.2.2.2.1.getD 2 0), .int .i64 (r47.1.2.2.2.2.2.1.getD 3 0), .int .i64 (r47.1.2.2.2.2.2.1.getD 4 0), .int .i64 (r47.1.2.2.2.2.2.1.getD 5 0), v51, v52, .string r47.1.2.2.2.2.2.2.2.2.1, .string r47.1.2.2.2.2.2.2.2.2.2] 32 (0, 0))], [(b10, .cells #[v37, .int .i64 r31.2.2.1, .int .i64 r31.2.2.2] 137 (0, 0))], [(ba1_0, .cells #[v18] 22 (0, 0))], g19] rfl ?_
   refine Z 8 rfl ?_
   refine st_if rfl h (fun h => ?_) (fun h => ?_)
   ·refine Z 5 rfl ?_
    refine st_ord [2, 2] _ rfl ?_
    obtain rfl := he17 _ h
    replace h := hA17
    obtain rfl := Eq.symm h
    exact st_ret (gs' := [[(ba1_0, .cells #[v18] 22 (0, 0))], g19]) Tryz.func33 rfl (List.Sublist.refl _) ((((((hl9.trans hl17).trans hl26).trans hl30).trans hl34).trans hl42).trans hl50) ⟨_, _, rfl, rfl, (ho20.up ((((hl26.trans hl30).trans hl34).trans hl42).trans hl50))⟩
   ·refine Z 2 rfl ?_
    obtain ⟨r56, hr57, r60, hr61, h⟩ := h
    refine st_d41 [[(b55, .cells #[.int .i64 r47.1.1, .int .u32 r47.1.2.1, .int .i64 r47.1.2.2.1, .int .i64 r47.1.2.2.2.1, .int .i64 r47.1.2.2.2.2.1, .int .i64 (r47.1.2.2.2.2.2.1.getD 0 0), .int .i64 (r47.1.2.2.2.2.2.1.getD 1 0), .int .i64 (r47.1.2.2.2.2.2.1.getD 2 0), .int .i64 (r47.1.2.2.2.2.2.1.getD 3 0), .int .i64 (r47.1.2.2.2.2.2.1.getD 4 0), .int .i64 (r47.1.2.2.2.2.2.1.getD 5 0), v51, v52, .string r47.1.2.2.2.2.2.2.2.2.1, .string r47.1.2.2.2.2.2.2.2.2.2] 32 (0, 0))], [(b10, .cells #[v37, .int .i64 r31.2.2.1, .int .i64 r31.2.2.2] 137 (0, 0))]] [[(ba1_0, .cells #[v18] 22 (0, 0))], g19] 7 1 [none, none, none, none, none, some (0, 0), none] [none, none, none, none, none, none, none] [[none, some 37]] [.v (.func (.func 34) #[] #[.pointer (some ⟨ba1_0, 0, none⟩)]), .v (.int .i64 r27), .v (.pointer (some ⟨b10, 0, none⟩)), .v (.int .i64 r56), .v (.agg #[.int .i64 r47.1.1, .int .u32 r47.1.2.1, .int .i64 r47.1.2.2.1, .int .i64 r47.1.2.2.2.1, .int .i64 r47.1.2.2.2.2.1, .int .i64 (r47.1.2.2.2.2.2.1.getD 0 0), .int .i64 (r47.1.2.2.2.2.2.1.getD 1 0), .int .i64 (r47.1.2.2.2.2.2.1.getD 2 0), .int .i64 (r47.1.2.2.2.2.2.1.getD 3 0), .int .i64 (r47.1.2.2.2.2.2.1.getD 4 0), .int .i64 (r47.1.2.2.2.2.2.1.getD 5 0), v51, v52, .string r47.1.2.2.2.2.2.2.2.2.1, .string r47.1.2.2.2.2.2.2.2.2.2]), .v (.bool r60.1), .v (.bool (!r60.1))] [[fun τ u F => F = [[(ba1_0, .cells #[v18] 22 (0, 0))], g19], fun τ u F => ∃ (v67 : Value) (g68 : Grp), F = [[(ba1_0, .cells #[v67] 22 (0, 0))], g68] ∧ Ow (kP (kI .i64) (kP (kI .u32) (kP (kI .i64) (kP (kI .i64) (kP (kI .i64) (kP (kA .i64 6) (kP (kSl (kP (kI .i64) (kI .i64))) (kP (kSl (kI .i64)) (kP kS kS))))))))) 32 τ v67 r60.2 g68]] rfl z_mix rfl trivial ⟨⟨fun _ _ _ _ hl h => h, ⟨fun _ _ _ _ hl h => (let ⟨v67, g68, hF, ho69⟩ := h; ⟨v67, g68, hF, ho69.up hl⟩), trivial⟩⟩, trivial⟩ rfl rfl ?_ (allB_cons (allB_cons (allB_cons (allB_cons (allB_cons (allB_cons (allB_cons allB_nil (p4 dA)) (p4 dA)) (p4 dA)) ?_) ?_) ?_) (p4 dA)) ?_
    ·exact rfl
    ·intro ρ' τ pool rs hl hd hout hw hk
     obtain ⟨_, e2, rfl⟩ := hd 2 rfl _ rfl
     refine st_ord [1, 0, 0] _ rfl ?_
     refine st_call (foot := [[(b10, .cells #[v37, .int .i64 r31.2.2.1, .int .i64 r31.2.2.2] 137 (0, 0))]]) rfl rfl rfl rfl (evs_cons e2 rfl) rfl (callV_fn z_en61 (lens_Lens_Place_ok hr57 τ (hs38.up ((hl42.trans hl50).trans hl)))) ?_
     rintro vτ58 τ58 gsτ58 hl59 ⟨rfl, rfl⟩
     refine st_ord [1, 0, 0] _ rfl ?_
     exact hk _ _ hl59 rfl
    ·intro ρ' τ pool rs hl hd hout hw hk
     refine o_loadN (j := 0) (vs := [.int .i64 r47.1.1, .int .u32 r47.1.2.1, .int .i64 r47.1.2.2.1, .int .i64 r47.1.2.2.2.1, .int .i64 r47.1.2.2.2.2.1, .int .i64 (r47.1.2.2.2.2.2.1.getD 0 0), .int .i64 (r47.1.2.2.2.2.2.1.getD 1 0), .int .i64 (r47.1.2.2.2.2.2.1.getD 2 0), .int .i64 (r47.1.2.2.2.2.2.1.getD 3 0), .int .i64 (r47.1.2.2.2.2.2.1.getD 4 0), .int .i64 (r47.1.2.2.2.2.2.1.getD 5 0), v51, v52, .string r47.1.2.2.2.2.2.2.2.2.1, .string r47.1.2.2.2.2.2.2.2.2.2]) rfl rfl rfl z_agg32 ((hout 8 rfl).trans rfl) rfl rfl ?_
     exact hk _ _ (Sto.Le.refl _) rfl
    ·intro ρ' τ u Fv pool rs hl hI hu hd hout hw hk
     obtain ⟨_, e0, rfl⟩ := hd 0 rfl _ rfl
     obtain ⟨_, e1, rfl⟩ := hd 1 rfl _ rfl
     obtain ⟨_, e3, rfl⟩ := hd 3 rfl _ rfl
     obtain ⟨_, e4, rfl⟩ := hd 4 rfl _ rfl
     have hI0 := hI
     obtain rfl := hI
     refine st_gs [[(b55, .cells #[.int .i64 r47.1.1, .int .u32 r47.1.2.1, .int .i64 r47.1.2.2.1, .int .i64 r47.1.2.2.2.1, .int .i64 r47.1.2.2.2.2.1, .int .i64 (r47.1.2.2.2.2.2.1.getD 0 0), .int .i64 (r47.1.2.2.2.2.2.1.getD 1 0), .int .i64 (r47.1.2.2.2.2.2.1.getD 2 0), .int .i64 (r47.1.2.2.2.2.2.1.getD 3 0), .int .i64 (r47.1.2.2.2.2.2.1.getD 4 0), .int .i64 (r47.1.2.2.2.2.2.1.getD 5 0), v51, v52, .string r47.1.2.2.2.2.2.2.2.2.1, .string r47.1.2.2.2.2.2.2.2.2.2] 32 (0, 0))], [(b10, .cells #[v37, .int .i64 r31.2.2.1, .int .i64 r31.2.2.2] 137 (0, 0))], [(ba1_0, .cells #[v18] 22 (0, 0))], g19, pool] rfl ?_
     refine st_ord [2, 2, 0, 0, 0] _ rfl ?_
     refine st_call (foot := [[(ba1_0, .cells #[v18] 22 (0, 0))], g19]) rfl rfl rfl e0 (evs_cons e1 (evs_cons e3 (evs_cons e4 rfl))) rfl (callV_of2 (caps := [.pointer (some ⟨ba1_0, 0, none⟩)]) z_en34 (log_Parse_1_ok hr61 τ (hs53.up hl) (hs54.up hl) (ho20.up (((((hl26.trans hl30).trans hl34).trans hl42).trans hl50).trans hl))) rfl) ?_
     rintro vτ62 τ62 gsτ62 hl63 ⟨v64, g65, rfl, rfl, ho66⟩
     refine st_ord [2, 2, 0, 0, 0] _ rfl ?_
     exact hk _ _ [[(ba1_0, .cells #[v64] 22 (0, 0))], g65] hl63 rfl (by exact ⟨v64, g65, rfl, ho66⟩)
    intro ρ' τ70 vals u Fv hl70 hI hu hv hout
    obtain ⟨v67, g68, rfl, ho69⟩ := hI
    refine st_gs [[(b55, .cells #[.int .i64 r47.1.1, .int .u32 r47.1.2.1, .int .i64 r47.1.2.2.1, .int .i64 r47.1.2.2.2.1, .int .i64 r47.1.2.2.2.2.1, .int .i64 (r47.1.2.2.2.2.2.1.getD 0 0), .int .i64 (r47.1.2.2.2.2.2.1.getD 1 0), .int .i64 (r47.1.2.2.2.2.2.1.getD 2 0), .int .i64 (r47.1.2.2.2.2.2.1.getD 3 0), .int .i64 (r47.1.2.2.2.2.2.1.getD 4 0), .int .i64 (r47.1.2.2.2.2.2.1.getD 5 0), v51, v52, .string r47.1.2.2.2.2.2.2.2.2.1, .string r47.1.2.2.2.2.2.2.2.2.2] 32 (0, 0))], [(b10, .cells #[v37, .int .i64 r31.2.2.1, .int .i64 r31.2.2.2] 137 (0, 0))], [(ba1_0, .cells #[v67] 22 (0, 0))], g68] rfl ?_
    refine st_env (ρ' := [(38, .bool (!r60.1)), (1, .func (.func 34) #[] #[.pointer (some ⟨ba1_0, 0, none⟩)]), (4, .int .i64 0), (5, .pointer (some ⟨b10, 0, none⟩))]) ⟨(lv4 hv 6 rfl rfl rfl), (hout 1 rfl).trans rfl, (hout 4 rfl).trans rfl, (hout 5 rfl).trans rfl, trivial⟩ ?_
    refine st_end ?_
    refine st_if rfl h (fun h => ?_) (fun h => ?_)
    ·refine st_exit rfl ?_
     obtain rfl := he17 _ h
     replace h := hA17
     refine st_ord [2, 2] _ rfl ?_
     exact hk13 _ _ _ ⟨r60.2, _, _, h, ((((((hl17.trans hl26).trans hl30).trans hl34).trans hl42).trans hl50).trans hl70), rfl, rfl, ho69⟩
    ·refine Z 2 rfl ?_
     refine st_ord [2, 1, 1] _ rfl ?_
     exact hn17 _ _ _ _ h ⟨((((((hl17.trans hl26).trans hl30).trans hl34).trans hl42).trans hl50).trans hl70), _, _, _, rfl, rfl, ho69, (hs38.up ((hl42.trans hl50).trans hl70))⟩
 ·refine st_exit rfl ?_
  obtain rfl := he17 _ h
  replace h := hA17
  refine st_ord [1, 1] _ rfl ?_
  exact hk13 _ _ _ ⟨s17.1, _, _, h, (hl17.trans hl26), rfl, rfl, (ho20.up hl26)⟩
theorem log_Parse_ok {a0 : List Int} {v1 : Value} {r : (List (Int × Int × Int × Int × (Int × List Int × List (Int × Int) × List Int × ByteArray × ByteArray))) × Int} (h : log_Parse a0 r) (σ : Sto) (hs2 : Sl (kI .u8) σ v1 a0) :
    Does Tryz.prog 13 [v1] σ [] (fun v τ gs => ∃ (v17 : Value), gs = [] ∧ .tuple [v17, .int .i64 r.2].toArray = v ∧ Sl (kP (kI .i64) (kP (kI .u32) (kP (kI .i64) (kP (kI .i64) (kP (kI .i64) (kP (kA .i64 6) (kP (kSl (kP (kI .i64) (kI .i64))) (kP (kSl (kI .i64)) (kP kS kS))))))))) τ v17 r.1) := by
 refine call_of Tryz.func13 Tryz.ntmps13 rfl rfl (fun cs fs => ?_)
 refine Z 7 rfl ?_
 refine o_alloc rfl rfl rfl z_zero22 (fun b3 => ?_)
 refine Z 5 rfl ?_
 obtain ⟨r4, hr5, h⟩ := h
 refine st_addNil ?_
 refine st_ord [1, 0] _ rfl ?_
 refine st_call (foot := [[(b3, .cells #[.slice none 0 0] 22 (0, 0))], []]) rfl rfl rfl rfl rfl rfl (callV_fn z_en33 (log_each__log_Parse_1_ok hr5 σ hs2 Ow.nil)) ?_
 rintro vτ6 τ6 gsτ6 hl7 ⟨v8, g9, rfl, rfl, ho10⟩
 refine Z 8 rfl ?_
 refine st_if rfl h (fun h => ?_) (fun h => ?_)
 ·refine Z 6 rfl ?_
  refine st_ord [] _ rfl ?_
  obtain rfl := Eq.symm h
  exact st_ret (gs' := []) Tryz.func13 rfl (List.Sublist.refl _) hl7 ⟨_, rfl, rfl, Sl.nil⟩
 ·refine ZZ 7 [0] rfl rfl ?_
  refine st_ord [1, 0] _ rfl ?_
  refine st_freeze (fun τ11 hl12 hg13 => ?_)
  have hs14 := ho10.freeze hl12 hg13
  refine st_ord [] _ rfl ?_
  obtain rfl := Eq.symm h
  exact st_ret (gs' := []) Tryz.func13 rfl (List.Sublist.refl _) (hl7.trans hl12) ⟨_, rfl, rfl, hs14⟩
theorem ref23_Same_ok {a0 : Int × Int × Int × Int × (Int × List Int × List (List Int) × List Int × ByteArray × ByteArray)} {a1 : Int × Int × Int × Int × (Int × List Int × List (List Int) × List Int × ByteArray × ByteArray)} {v1 : Value} {v2 : Value} {v5 : Value} {v6 : Value} {r : Bool} (h : ref23_Same a0 a1 r) (σ : Sto) (hs3 : Sl (kA .i64 2) σ v1 a0.2.2.2.2.2.2.1) (hs4 : Sl (kI .i64) σ v2 a0.2.2.2.2.2.2.2.1) (hs7 : Sl (kA .i64 2) σ v5 a1.2.2.2.2.2.2.1) (hs8 : Sl (kI .i64) σ v6 a1.2.2.2.2.2.2.2.1) :
    Does Tryz.prog 17 [.agg [.int .i64 a0.1, .int .u32 a0.2.1, .int .i64 a0.2.2.1, .int .i64 a0.2.2.2.1, .int .i64 a0.2.2.2.2.1, .int .i64 (a0.2.2.2.2.2.1.getD 0 0), .int .i64 (a0.2.2.2.2.2.1.getD 1 0), .int .i64 (a0.2.2.2.2.2.1.getD 2 0), .int .i64 (a0.2.2.2.2.2.1.getD 3 0), .int .i64 (a0.2.2.2.2.2.1.getD 4 0), .int .i64 (a0.2.2.2.2.2.1.getD 5 0), v1, v2, .string a0.2.2.2.2.2.2.2.2.1, .string a0.2.2.2.2.2.2.2.2.2].toArray, .agg [.int .i64 a1.1, .int .u32 a1.2.1, .int .i64 a1.2.2.1, .int .i64 a1.2.2.2.1, .int .i64 a1.2.2.2.2.1, .int .i64 (a1.2.2.2.2.2.1.getD 0 0), .int .i64 (a1.2.2.2.2.2.1.getD 1 0), .int .i64 (a1.2.2.2.2.2.1.getD 2 0), .int .i64 (a1.2.2.2.2.2.1.getD 3 0), .int .i64 (a1.2.2.2.2.2.1.getD 4 0), .int .i64 (a1.2.2.2.2.2.1.getD 5 0), v5, v6, .string a1.2.2.2.2.2.2.2.2.1, .string a1.2.2.2.2.2.2.2.2.2].toArray] σ [] (fun v τ gs => gs = [] ∧ .bool r = v) := by
 refine call_of Tryz.func17 Tryz.ntmps17 rfl rfl (fun cs fs => ?_)
 refine Z 2 rfl ?_
 refine o_box (cs := [.int .i64 a0.1, .int .u32 a0.2.1, .int .i64 a0.2.2.1, .int .i64 a0.2.2.2.1, .int .i64 a0.2.2.2.2.1, .int .i64 (a0.2.2.2.2.2.1.getD 0 0), .int .i64 (a0.2.2.2.2.2.1.getD 1 0), .int .i64 (a0.2.2.2.2.2.1.getD 2 0), .int .i64 (a0.2.2.2.2.2.1.getD 3 0), .int .i64 (a0.2.2.2.2.2.1.getD 4 0), .int .i64 (a0.2.2.2.2.2.1.getD 5 0), v1, v2, .string a0.2.2.2.2.2.2.2.2.1, .string a0.2.2.2.2.2.2.2.2.2]) rfl rfl rfl rfl rfl (fun b9 => ?_)
 refine o_box (cs := [.int .i64 a1.1, .int .u32 a1.2.1, .int .i64 a1.2.2.1, .int .i64 a1.2.2.2.1, .int .i64 a1.2.2.2.2.1, .int .i64 (a1.2.2.2.2.2.1.getD 0 0), .int .i64 (a1.2.2.2.2.2.1.getD 1 0), .int .i64 (a1.2.2.2.2.2.1.getD 2 0), .int .i64 (a1.2.2.2.2.2.1.getD 3 0), .int .i64 (a1.2.2.2.2.2.1.getD 4 0), .int .i64 (a1.2.2.2.2.2.1.getD 5 0), v5, v6, .string a1.2.2.2.2.2.2.2.2.1, .string a1.2.2.2.2.2.2.2.2.2]) rfl rfl rfl rfl rfl (fun b10 => ?_)
 refine Z 3 rfl ?_
 refine st_cut (fun ρ τ11 gs => ∃ (s11 : Bool), ref23_Same_j1 s11 r ∧ σ.Le τ11 ∧ ESub ρ [(4, .bool s11)] ∧ gs = []) ?_ (fun hk11 => ?_)
 ·rintro ρ11 τ11 gs11 ⟨s11, h, hl11, hρ, rfl⟩
  refine st_es hρ ?_
  obtain rfl := Eq.symm h
  exact st_ret (gs' := []) Tryz.func17 rfl (List.Sublist.refl _) hl11 ⟨rfl, rfl⟩
 refine ZZ 6 [1, 0] rfl rfl ?_
 refine o_mif rfl rfl rfl rfl h (fun h => ?_) (fun h => ?_)
 ·refine ZZ 6 [1, 0] rfl rfl ?_
  refine o_mif rfl rfl rfl rfl h (fun h => ?_) (fun h => ?_)
  ·refine ZZ 6 [1, 0] rfl rfl ?_
   refine o_mif rfl rfl rfl rfl h (fun h => ?_) (fun h => ?_)
   ·refine ZZ 6 [1, 0] rfl rfl ?_
    refine o_mif rfl rfl rfl rfl h (fun h => ?_) (fun h => ?_)
    ·refine ZZ 4 [1, 0] rfl rfl ?_
     obtain ⟨r12, hr13, h⟩ := h
     refine st_call (foot := []) rfl rfl rfl rfl rfl rfl (callV_fn z_en25 (ref17_Same_ok hr13 σ hs3 hs4 hs7 hs8)) ?_
     rintro vτ14 τ14 gsτ14 hl15 ⟨rfl, rfl⟩
     refine Z 3 rfl ?_
     refine st_ord [] _ rfl ?_
     exact hk11 _ _ _ ⟨r12, h, hl15, rfl, rfl⟩
    ·refine Z 8 rfl ?_
     refine st_ord [] _ rfl ?_
     exact hk11 _ _ _ ⟨false, h, (Sto.Le.refl _), rfl, rfl⟩
   ·refine Z 15 rfl ?_
    refine st_ord [] _ rfl ?_
    exact hk11 _ _ _ ⟨false, h, (Sto.Le.refl _), rfl, rfl⟩
  ·refine Z 22 rfl ?_
   refine st_ord [] _ rfl ?_
   exact hk11 _ _ _ ⟨false, h, (Sto.Le.refl _), rfl, rfl⟩
 ·refine Z 29 rfl ?_
  refine st_ord [] _ rfl ?_
  exact hk11 _ _ _ ⟨false, h, (Sto.Le.refl _), rfl, rfl⟩
theorem law24_Same_ok {a0 : List (Int × Int × Int × Int × (Int × List Int × List (Int × Int) × List Int × ByteArray × ByteArray))} {a1 : List (Int × Int × Int × Int × (Int × List Int × List (List Int) × List Int × ByteArray × ByteArray))} {a2 : Int} {v1 : Value} {v3 : Value} {r : Bool} (h : law24_Same a0 a1 a2 r) (σ : Sto) (hs2 : Sl (kP (kI .i64) (kP (kI .u32) (kP (kI .i64) (kP (kI .i64) (kP (kI .i64) (kP (kA .i64 6) (kP (kSl (kP (kI .i64) (kI .i64))) (kP (kSl (kI .i64)) (kP kS kS))))))))) σ v1 a0) (hs4 : Sl (kP (kI .i64) (kP (kI .u32) (kP (kI .i64) (kP (kI .i64) (kP (kI .i64) (kP (kA .i64 6) (kP (kSl (kA .i64 2)) (kP (kSl (kI .i64)) (kP kS kS))))))))) σ v3 a1) :
    Does Tryz.prog 14 [v1, v3, .int .i64 a2] σ [] (fun v τ gs => gs = [] ∧ .bool r = v) := by
 refine call_of Tryz.func14 Tryz.ntmps14 rfl rfl (fun cs fs => ?_)
 refine Z 8 rfl ?_
 refine o_lenI rfl rfl rfl z_slT22 rfl hs2 ?_
 refine o_move rfl rfl rfl rfl ?_
 refine o_lenI rfl rfl rfl z_slT23 rfl hs4 ?_
 refine Z 4 rfl ?_
 refine st_if rfl h (fun h => ?_) (fun h => ?_)
 ·refine Z 4 rfl ?_
  obtain rfl := Eq.symm h
  exact st_ret (gs' := []) Tryz.func14 rfl (List.Sublist.refl _) (Sto.Le.refl _) ⟨rfl, rfl⟩
 ·refine Z 2 rfl ?_
  refine st_cut (fun ρ τ5 gs => ∃ (s5 : Unit), law24_Same_j1 s5 r ∧ σ.Le τ5 ∧ ESub ρ [(6, .bool false)] ∧ gs = []) ?_ (fun hk5 => ?_)
  ·rintro ρ5 τ5 gs5 ⟨s5, h, hl5, hρ, rfl⟩
   refine st_es hρ ?_
   refine Z 4 rfl ?_
   obtain rfl := Eq.symm h
   exact st_ret (gs' := []) Tryz.func14 rfl (List.Sublist.refl _) hl5 ⟨rfl, rfl⟩
  refine Z 4 rfl ?_
  obtain ⟨e6, hL6, hA6⟩ := h
  refine st_loop hL6 (fun (s6 : Int) ρ τ6 gs => σ.Le τ6 ∧ ESub ρ [(0, v1), (1, v3), (2, .int .i64 a2), (6, .bool false), (7, .int .i64 s6)] ∧ gs = []) ⟨Sto.Le.refl _, rfl, rfl⟩ ?_
  rintro s6 o6 h he6 ρ6 τ6 gs6 ⟨hl6, hρ, rfl⟩ hn6
  refine st_es hρ ?_
  refine Z 5 rfl ?_
  refine o_lenI rfl rfl rfl z_slT22 rfl (hs2.up hl6) ?_
  refine Z 2 rfl ?_
  refine st_if rfl h (fun h => ?_) (fun h => ?_)
  ·refine Z 4 rfl ?_
   obtain ⟨q7, hf8, r18, hr19, q26, hf27, r37, hr38, h⟩ := h
   refine st_draw 13 (dl [.v (v1), .v (.int .i64 s6), .t fun τ v => ∃ (b9 : Nat) (of10 : Nat) (vsb9 : List Value), (.pointer (some ⟨b9, of10, none⟩) : Value) = v ∧ CelN τ ⟨b9, of10, none⟩ vsb9 ∧ (kP (kI .i64) (kP (kI .u32) (kP (kI .i64) (kP (kI .i64) (kP (kI .i64) (kP (kA .i64 6) (kP (kSl (kP (kI .i64) (kI .i64))) (kP (kSl (kI .i64)) (kP kS kS))))))))).rep τ vsb9 q7, .t fun τ v => ∃ (v11 : Value) (v12 : Value), (.agg #[.int .i64 q7.1, .int .u32 q7.2.1, .int .i64 q7.2.2.1, .int .i64 q7.2.2.2.1, .int .i64 q7.2.2.2.2.1, .int .i64 (q7.2.2.2.2.2.1.getD 0 0), .int .i64 (q7.2.2.2.2.2.1.getD 1 0), .int .i64 (q7.2.2.2.2.2.1.getD 2 0), .int .i64 (q7.2.2.2.2.2.1.getD 3 0), .int .i64 (q7.2.2.2.2.2.1.getD 4 0), .int .i64 (q7.2.2.2.2.2.1.getD 5 0), v11, v12, .string q7.2.2.2.2.2.2.2.2.1, .string q7.2.2.2.2.2.2.2.2.2] : Value) = v ∧ Sl (kP (kI .i64) (kI .i64)) τ v11 q7.2.2.2.2.2.2.1 ∧ Sl (kI .i64) τ v12 q7.2.2.2.2.2.2.2.1, .t fun τ v => ∃ (v22 : Value) (v23 : Value), (.agg #[.int .i64 r18.1, .int .u32 r18.2.1, .int .i64 r18.2.2.1, .int .i64 r18.2.2.2.1, .int .i64 r18.2.2.2.2.1, .int .i64 (r18.2.2.2.2.2.1.getD 0 0), .int .i64 (r18.2.2.2.2.2.1.getD 1 0), .int .i64 (r18.2.2.2.2.2.1.getD 2 0), .int .i64 (r18.2.2.2.2.2.1.getD 3 0), .int .i64 (r18.2.2.2.2.2.1.getD 4 0), .int .i64 (r18.2.2.2.2.2.1.getD 5 0), v22, v23, .string r18.2.2.2.2.2.2.2.2.1, .string r18.2.2.2.2.2.2.2.2.2] : Value) = v ∧ Sl (kA .i64 2) τ v22 r18.2.2.2.2.2.2.1 ∧ Sl (kI .i64) τ v23 r18.2.2.2.2.2.2.2.1, .v (v3), .v (.int .i64 a2), .v (.int .i64 s6), .v (.int .i64 (IntKind.i64.wrap (a2 + s6))), .t fun τ v => ∃ (b28 : Nat) (of29 : Nat) (vsb28 : List Value), (.pointer (some ⟨b28, of29, none⟩) : Value) = v ∧ CelN τ ⟨b28, of29, none⟩ vsb28 ∧ (kP (kI .i64) (kP (kI .u32) (kP (kI .i64) (kP (kI .i64) (kP (kI .i64) (kP (kA .i64 6) (kP (kSl (kA .i64 2)) (kP (kSl (kI .i64)) (kP kS kS))))))))).rep τ vsb28 q26, .t fun τ v => ∃ (v30 : Value) (v31 : Value), (.agg #[.int .i64 q26.1, .int .u32 q26.2.1, .int .i64 q26.2.2.1, .int .i64 q26.2.2.2.1, .int .i64 q26.2.2.2.2.1, .int .i64 (q26.2.2.2.2.2.1.getD 0 0), .int .i64 (q26.2.2.2.2.2.1.getD 1 0), .int .i64 (q26.2.2.2.2.2.1.getD 2 0), .int .i64 (q26.2.2.2.2.2.1.getD 3 0), .int .i64 (q26.2.2.2.2.2.1.getD 4 0), .int .i64 (q26.2.2.2.2.2.1.getD 5 0), v30, v31, .string q26.2.2.2.2.2.2.2.2.1, .string q26.2.2.2.2.2.2.2.2.2] : Value) = v ∧ Sl (kA .i64 2) τ v30 q26.2.2.2.2.2.2.1 ∧ Sl (kI .i64) τ v31 q26.2.2.2.2.2.2.2.1, .v (.bool r37), .v (.bool (!r37))]) (fun _ _ => []) z_mix rfl (dl_mono ⟨fun _ _ _ hl ⟨b9, of10, vsb9, hv, hc13, hrepb9⟩ => ⟨b9, of10, vsb9, hv, hc13.up hl, Kd.mono _ hl hrepb9⟩, ⟨fun _ _ _ hl ⟨v11, v12, hv, hs16, hs17⟩ => ⟨v11, v12, hv, hs16.up hl, hs17.up hl⟩, ⟨fun _ _ _ hl ⟨v22, v23, hv, hs24, hs25⟩ => ⟨v22, v23, hv, hs24.up hl, hs25.up hl⟩, ⟨fun _ _ _ hl ⟨b28, of29, vsb28, hv, hc32, hrepb28⟩ => ⟨b28, of29, vsb28, hv, hc32.up hl, Kd.mono _ hl hrepb28⟩, ⟨fun _ _ _ hl ⟨v30, v31, hv, hs35, hs36⟩ => ⟨v30, v31, hv, hs35.up hl, hs36.up hl⟩, trivial⟩⟩⟩⟩⟩) (allB_cons (allB_cons (allB_cons (allB_cons (allB_cons (allB_cons (allB_cons (allB_cons (allB_cons (allB_cons (allB_cons (allB_cons (allB_cons allB_nil (p1 dA)) (p1 dA)) ?_) ?_) ?_) (p1 dA)) (p1 dA)) (p1 dA)) (p1 dA)) ?_) ?_) ?_) (p1 dA)) ?_
   ·intro ρ' τ pool rs hl hd hout hk
    obtain ⟨_, e0, rfl⟩ := hd 0 rfl
    obtain ⟨_, e1, rfl⟩ := hd 1 rfl
    refine o_index rfl rfl rfl z_slT22 rfl e0 (hs2.up (hl6.trans hl)) e1 hf8 (fun b9 of10 vsb9 hc13 hrepb9 => ?_)
    exact st_addNil (hk _ _ (Sto.Le.refl _) ⟨b9, of10, _, rfl, hc13, hrepb9⟩)
   ·intro ρ' τ pool rs hl hd hout hk
    obtain ⟨_, e2, b9, of10, vsb9, rfl, hc13, hrepb9⟩ := hd 2 rfl
    have hrepb9 := hrepb9
    obtain ⟨_, _, rfl, rfl, ⟨_, _, rfl, rfl, ⟨_, _, rfl, rfl, ⟨_, _, rfl, rfl, ⟨_, _, rfl, rfl, ⟨_, _, rfl, rfl, ⟨_, _, rfl, ⟨v11, rfl, hs16⟩, ⟨_, _, rfl, ⟨v12, rfl, hs17⟩, ⟨_, _, rfl, rfl, rfl⟩⟩⟩⟩⟩⟩⟩⟩⟩ := hrepb9
    refine o_loadIN (vs := [.int .i64 q7.1, .int .u32 q7.2.1, .int .i64 q7.2.2.1, .int .i64 q7.2.2.2.1, .int .i64 q7.2.2.2.2.1, .int .i64 (q7.2.2.2.2.2.1.getD 0 0), .int .i64 (q7.2.2.2.2.2.1.getD 1 0), .int .i64 (q7.2.2.2.2.2.1.getD 2 0), .int .i64 (q7.2.2.2.2.2.1.getD 3 0), .int .i64 (q7.2.2.2.2.2.1.getD 4 0), .int .i64 (q7.2.2.2.2.2.1.getD 5 0), v11, v12, .string q7.2.2.2.2.2.2.2.2.1, .string q7.2.2.2.2.2.2.2.2.2]) rfl rfl rfl z_agg32 e2 rfl (celn_part 0 rfl hc13) ?_
    exact st_addNil (hk _ _ (Sto.Le.refl _) ⟨v11, v12, rfl, hs16, hs17⟩)
   ·intro ρ' τ pool rs hl hd hout hk
    obtain ⟨_, e3, v11, v12, rfl, hs16, hs17⟩ := hd 3 rfl
    refine st_call (foot := []) rfl rfl rfl rfl (evs_cons e3 rfl) rfl (callV_fn z_en6 (law23_Of_ok hr19 τ hs16 hs17)) ?_
    rintro vτ20 τ20 gsτ20 hl21 ⟨v22, v23, rfl, rfl, hs24, hs25⟩
    exact st_addNil (hk _ _ hl21 ⟨v22, v23, rfl, hs24, hs25⟩)
   ·intro ρ' τ pool rs hl hd hout hk
    obtain ⟨_, e5, rfl⟩ := hd 5 rfl
    obtain ⟨_, e8, rfl⟩ := hd 8 rfl
    refine o_index rfl rfl rfl z_slT23 rfl e5 (hs4.up (hl6.trans hl)) e8 hf27 (fun b28 of29 vsb28 hc32 hrepb28 => ?_)
    exact st_addNil (hk _ _ (Sto.Le.refl _) ⟨b28, of29, _, rfl, hc32, hrepb28⟩)
   ·intro ρ' τ pool rs hl hd hout hk
    obtain ⟨_, e9, b28, of29, vsb28, rfl, hc32, hrepb28⟩ := hd 9 rfl
    have hrepb28 := hrepb28
    obtain ⟨_, _, rfl, rfl, ⟨_, _, rfl, rfl, ⟨_, _, rfl, rfl, ⟨_, _, rfl, rfl, ⟨_, _, rfl, rfl, ⟨_, _, rfl, rfl, ⟨_, _, rfl, ⟨v30, rfl, hs35⟩, ⟨_, _, rfl, ⟨v31, rfl, hs36⟩, ⟨_, _, rfl, rfl, rfl⟩⟩⟩⟩⟩⟩⟩⟩⟩ := hrepb28
    refine o_loadIN (vs := [.int .i64 q26.1, .int .u32 q26.2.1, .int .i64 q26.2.2.1, .int .i64 q26.2.2.2.1, .int .i64 q26.2.2.2.2.1, .int .i64 (q26.2.2.2.2.2.1.getD 0 0), .int .i64 (q26.2.2.2.2.2.1.getD 1 0), .int .i64 (q26.2.2.2.2.2.1.getD 2 0), .int .i64 (q26.2.2.2.2.2.1.getD 3 0), .int .i64 (q26.2.2.2.2.2.1.getD 4 0), .int .i64 (q26.2.2.2.2.2.1.getD 5 0), v30, v31, .string q26.2.2.2.2.2.2.2.2.1, .string q26.2.2.2.2.2.2.2.2.2]) rfl rfl rfl z_agg38 e9 rfl (celn_part 0 rfl hc32) ?_
    exact st_addNil (hk _ _ (Sto.Le.refl _) ⟨v30, v31, rfl, hs35, hs36⟩)
   ·intro ρ' τ pool rs hl hd hout hk
    obtain ⟨_, e4, v22, v23, rfl, hs24, hs25⟩ := hd 4 rfl
    obtain ⟨_, e10, v30, v31, rfl, hs35, hs36⟩ := hd 10 rfl
    refine st_call (foot := []) rfl rfl rfl rfl (evs_cons e4 (evs_cons e10 rfl)) rfl (callV_fn z_en17 (ref23_Same_ok hr38 τ hs24 hs25 hs35 hs36)) ?_
    rintro vτ39 τ39 gsτ39 hl40 ⟨rfl, rfl⟩
    exact st_addNil (hk _ _ hl40 rfl)
   intro ρ' τ41 vals hl41 hv hout
   refine st_ord [] _ rfl ?_
   refine st_env (ρ' := [(33, .bool (!r37)), (0, v1), (1, v3), (2, .int .i64 a2), (6, .bool false), (7, .int .i64 s6)]) ⟨(lv1 hv 12 rfl rfl), (hout 0 rfl).trans rfl, (hout 1 rfl).trans rfl, (hout 2 rfl).trans rfl, (hout 6 rfl).trans rfl, (hout 7 rfl).trans rfl, trivial⟩ ?_
   refine st_end ?_
   refine st_if rfl h (fun h => ?_) (fun h => ?_)
   ·refine Z 4 rfl ?_
    obtain rfl := he6 _ h
    replace h := hA6
    obtain rfl := Eq.symm h
    exact st_ret (gs' := []) Tryz.func14 rfl (List.Sublist.refl _) (hl6.trans hl41) ⟨rfl, rfl⟩
   ·refine Z 7 rfl ?_
    exact hn6 _ _ _ _ h ⟨(hl6.trans hl41), rfl, rfl⟩
  ·refine st_exit rfl ?_
   obtain rfl := he6 _ h
   replace h := hA6
   exact hk5 _ _ _ ⟨(), h, hl6, rfl, rfl⟩
theorem law34_LogTells_ok {a0 : List (Int × Int × Int × Int × (Int × List Int × List (Int × Int) × List Int × ByteArray × ByteArray))} {v1 : Value} {r : Bool} (h : law34_LogTells a0 r) (σ : Sto) (hs2 : Sl (kP (kI .i64) (kP (kI .u32) (kP (kI .i64) (kP (kI .i64) (kP (kI .i64) (kP (kA .i64 6) (kP (kSl (kP (kI .i64) (kI .i64))) (kP (kSl (kI .i64)) (kP kS kS))))))))) σ v1 a0) :
    Does Tryz.prog 3 [v1] σ [] (fun v τ gs => gs = [] ∧ .bool r = v) := by
 refine call_of Tryz.func3 Tryz.ntmps3 rfl rfl (fun cs fs => ?_)
 refine Z 13 rfl ?_
 refine st_cut (fun ρ τ3 gs => ∃ (s3 : (List (Int × Int × Int × Int × (Int × List Int × List (Int × Int) × List Int × ByteArray × ByteArray))) × (List (Int × Int × Int × Int × (Int × List Int × List (List Int) × List Int × ByteArray × ByteArray)))) (v4 : Value) (g5 : Grp) (v7 : Value) (g8 : Grp), law34_LogTells_j1 s3 r ∧ σ.Le τ3 ∧ ESub ρ [(2, .bool false), (3, v4), (4, v7)] ∧ gs = [g5, g8] ∧ Ow (kP (kI .i64) (kP (kI .u32) (kP (kI .i64) (kP (kI .i64) (kP (kI .i64) (kP (kA .i64 6) (kP (kSl (kP (kI .i64) (kI .i64))) (kP (kSl (kI .i64)) (kP kS kS))))))))) 32 τ3 v4 s3.1 g5 ∧ Ow (kP (kI .i64) (kP (kI .u32) (kP (kI .i64) (kP (kI .i64) (kP (kI .i64) (kP (kA .i64 6) (kP (kSl (kA .i64 2)) (kP (kSl (kI .i64)) (kP kS kS))))))))) 38 τ3 v7 s3.2 g8) ?_ (fun hk3 => ?_)
 ·rintro ρ3 τ3 gs3 ⟨s3, v4, g5, v7, g8, h, hl3, hρ, rfl, ho6, ho9⟩
  refine st_es hρ ?_
  refine Z 3 rfl ?_
  obtain ⟨r15, hr16, h⟩ := h
  refine st_freeze (fun τ10 hl11 hg12 => ?_)
  have hs13 := ho6.freeze hl11 hg12
  refine st_call (foot := []) rfl rfl rfl rfl rfl rfl (callV_fn z_en9 (log_Bytes_ok hr16 τ10 hs13)) ?_
  rintro vτ17 τ17 gsτ17 hl18 ⟨v19, rfl, rfl, hs20⟩
  refine Z 9 rfl ?_
  obtain ⟨r26, hr27, h⟩ := h
  refine st_freeze (fun τ21 hl22 hg23 => ?_)
  have hs24 := ho9.freeze ((hl11.trans hl18).trans hl22) hg23
  refine st_call (foot := []) rfl rfl rfl rfl rfl rfl (callV_fn z_en10 (ref34_Bytes_ok hr27 τ21 hs24)) ?_
  rintro vτ28 τ28 gsτ28 hl29 ⟨v30, rfl, rfl, hs31⟩
  refine Z 8 rfl ?_
  refine st_cut (fun ρ τ32 gs => ∃ (s32 : Bool), law34_LogTells_j2 s3 r15 r26 s32 r ∧ τ28.Le τ32 ∧ ESub ρ [(2, .bool false), (4, v7), (7, v19), (10, .int .i64 r26.2), (61, .bool s32)] ∧ gs = []) ?_ (fun hk32 => ?_)
  ·rintro ρ32 τ32 gs32 ⟨s32, h, hl32, hρ, rfl⟩
   refine st_es hρ ?_
   refine st_if rfl h (fun h => ?_) (fun h => ?_)
   ·refine Z 4 rfl ?_
    obtain rfl := Eq.symm h
    exact st_ret (gs' := []) Tryz.func3 rfl (List.Sublist.refl _) (((((hl3.trans hl11).trans hl18).trans hl22).trans hl29).trans hl32) ⟨rfl, rfl⟩
   ·refine Z 7 rfl ?_
    refine st_if rfl h (fun h => ?_) (fun h => ?_)
    ·refine st_seq ?_
     refine st_cut (fun ρ τ33 gs => ∃ (s33 : Bool), law34_LogTells_j3 s33 r ∧ τ32.Le τ33 ∧ ESub ρ [(2, .bool s33), (4, v7), (7, v19)] ∧ gs = []) ?_ (fun hk33 => ?_)
     ·rintro ρ33 τ33 gs33 ⟨s33, h, hl33, hρ, rfl⟩
      refine st_es hρ ?_
      obtain rfl := Eq.symm h
      exact st_ret (gs' := []) Tryz.func3 rfl (List.Sublist.refl _) ((((((hl3.trans hl11).trans hl18).trans hl22).trans hl29).trans hl32).trans hl33) ⟨rfl, rfl⟩
     refine st_region ?_
     obtain ⟨r34, hr35, h⟩ := h
     refine st_call (foot := []) rfl rfl rfl rfl rfl rfl (callV_fn z_en12 (law34_known_ok hr35 τ32)) ?_
     rintro vτ36 τ36 gsτ36 hl37 ⟨rfl, rfl⟩
     refine o_mif rfl rfl rfl rfl h (fun h => ?_) (fun h => ?_)
     ·refine o_move rfl rfl rfl rfl ?_
      refine o_lenI rfl rfl rfl z_slT42 rfl (hs20.up (((hl22.trans hl29).trans hl32).trans hl37)) ?_
      refine Z 4 rfl ?_
      exact hk33 _ _ _ ⟨(decide ((r15.1.length : Int) = 0)), h, hl37, rfl, rfl⟩
     ·refine Z 6 rfl ?_
      exact hk33 _ _ _ ⟨false, h, hl37, rfl, rfl⟩
    ·refine Z 4 rfl ?_
     obtain ⟨r38, hr39, h⟩ := h
     refine st_call (foot := []) rfl rfl rfl rfl rfl rfl (callV_fn z_en13 (log_Parse_ok hr39 τ32 (hs20.up ((hl22.trans hl29).trans hl32)))) ?_
     rintro vτ40 τ40 gsτ40 hl41 ⟨v42, rfl, rfl, hs43⟩
     refine Z 7 rfl ?_
     refine st_cut (fun ρ τ44 gs => ∃ (s44 : Bool), law34_LogTells_j4 s44 r ∧ τ40.Le τ44 ∧ ESub ρ [(2, .bool s44)] ∧ gs = []) ?_ (fun hk44 => ?_)
     ·rintro ρ44 τ44 gs44 ⟨s44, h, hl44, hρ, rfl⟩
      refine st_es hρ ?_
      obtain rfl := Eq.symm h
      exact st_ret (gs' := []) Tryz.func3 rfl (List.Sublist.refl _) (((((((hl3.trans hl11).trans hl18).trans hl22).trans hl29).trans hl32).trans hl41).trans hl44) ⟨rfl, rfl⟩
     refine st_region ?_
     obtain ⟨r45, hr46, h⟩ := h
     refine st_call (foot := []) rfl rfl rfl rfl rfl rfl (callV_fn z_en12 (law34_known_ok hr46 τ40)) ?_
     rintro vτ47 τ47 gsτ47 hl48 ⟨rfl, rfl⟩
     refine o_mif rfl rfl rfl rfl h (fun h => ?_) (fun h => ?_)
     ·refine Z 3 rfl ?_
      refine o_mif rfl rfl rfl rfl h (fun h => ?_) (fun h => ?_)
      ·refine Z 2 rfl ?_
       obtain ⟨r49, hr50, h⟩ := h
       refine st_call (foot := []) rfl rfl rfl rfl rfl rfl (callV_fn z_en14 (law24_Same_ok hr50 τ47 (hs43.up hl48) (hs24.up (((hl29.trans hl32).trans hl41).trans hl48)))) ?_
       rintro vτ51 τ51 gsτ51 hl52 ⟨rfl, rfl⟩
       refine Z 3 rfl ?_
       exact hk44 _ _ _ ⟨r49, h, (hl48.trans hl52), rfl, rfl⟩
      ·refine Z 6 rfl ?_
       exact hk44 _ _ _ ⟨false, h, hl48, rfl, rfl⟩
     ·refine Z 10 rfl ?_
      exact hk44 _ _ _ ⟨false, h, hl48, rfl, rfl⟩
  refine Z 4 rfl ?_
  refine o_mif rfl rfl rfl rfl h (fun h => ?_) (fun h => ?_)
  ·refine Z 6 rfl ?_
   exact hk32 _ _ _ ⟨true, h, (Sto.Le.refl _), rfl, rfl⟩
  ·refine Z 2 rfl ?_
   obtain ⟨r53, hr54, h⟩ := h
   refine st_call (foot := []) rfl rfl rfl rfl rfl rfl (callV_fn z_en11 (ref01_Same_ok hr54 τ28 (hs20.up (hl22.trans hl29)) hs31)) ?_
   rintro vτ55 τ55 gsτ55 hl56 ⟨rfl, rfl⟩
   refine Z 3 rfl ?_
   exact hk32 _ _ _ ⟨(!r53), h, hl56, rfl, rfl⟩
 refine Z 4 rfl ?_
 obtain ⟨e57, hL57, hA57⟩ := h
 refine st_addNil ?_
 refine st_addNil ?_
 refine st_loop hL57 (fun (s57 : (List (Int × Int × Int × Int × (Int × List Int × List (Int × Int) × List Int × ByteArray × ByteArray))) × (List (Int × Int × Int × Int × (Int × List Int × List (List Int) × List Int × ByteArray × ByteArray))) × Int) ρ τ57 gs => σ.Le τ57 ∧ ∃ (v58 : Value) (g59 : Grp) (v61 : Value) (g62 : Grp), ESub ρ [(0, v1), (2, .bool false), (3, v58), (4, v61), (5, .int .i64 s57.2.2)] ∧ gs = [g59, g62] ∧ Ow (kP (kI .i64) (kP (kI .u32) (kP (kI .i64) (kP (kI .i64) (kP (kI .i64) (kP (kA .i64 6) (kP (kSl (kP (kI .i64) (kI .i64))) (kP (kSl (kI .i64)) (kP kS kS))))))))) 32 τ57 v58 s57.1 g59 ∧ Ow (kP (kI .i64) (kP (kI .u32) (kP (kI .i64) (kP (kI .i64) (kP (kI .i64) (kP (kA .i64 6) (kP (kSl (kA .i64 2)) (kP (kSl (kI .i64)) (kP kS kS))))))))) 38 τ57 v61 s57.2.1 g62) ⟨Sto.Le.refl _, _, _, _, _, rfl, rfl, Ow.nil, Ow.nil⟩ ?_
 rintro s57 o57 h he57 ρ57 τ57 gs57 ⟨hl57, v58, g59, v61, g62, hρ, rfl, ho60, ho63⟩ hn57
 refine st_es hρ ?_
 refine Z 2 rfl ?_
 refine st_cut (fun ρ τ64 gs => ∃ (s64 : Bool), law34_LogTells_j6 a0 s57 s64 o57 ∧ τ57.Le τ64 ∧ ESub ρ [(0, v1), (2, .bool false), (3, v58), (4, v61), (5, .int .i64 s57.2.2), (20, .bool s64)] ∧ gs = [g59, g62]) ?_ (fun hk64 => ?_)
 ·rintro ρ64 τ64 gs64 ⟨s64, h, hl64, hρ, rfl⟩
  refine st_es hρ ?_
  refine st_if rfl h (fun h => ?_) (fun h => ?_)
  ·refine Z 7 rfl ?_
   obtain ⟨q65, hf66, h⟩ := h
   refine o_index rfl rfl rfl z_slT22 rfl rfl (hs2.up (hl57.trans hl64)) rfl hf66 (fun b67 of68 vs hc71 hrep => ?_)
   obtain ⟨_, _, rfl, rfl, ⟨_, _, rfl, rfl, ⟨_, _, rfl, rfl, ⟨_, _, rfl, rfl, ⟨_, _, rfl, rfl, ⟨_, _, rfl, rfl, ⟨_, _, rfl, ⟨v69, rfl, hs72⟩, ⟨_, _, rfl, ⟨v70, rfl, hs73⟩, ⟨_, _, rfl, rfl, rfl⟩⟩⟩⟩⟩⟩⟩⟩⟩ := hrep
   refine o_loadIN (vs := [.int .i64 q65.1, .int .u32 q65.2.1, .int .i64 q65.2.2.1, .int .i64 q65.2.2.2.1, .int .i64 q65.2.2.2.2.1, .int .i64 (q65.2.2.2.2.2.1.getD 0 0), .int .i64 (q65.2.2.2.2.2.1.getD 1 0), .int .i64 (q65.2.2.2.2.2.1.getD 2 0), .int .i64 (q65.2.2.2.2.2.1.getD 3 0), .int .i64 (q65.2.2.2.2.2.1.getD 4 0), .int .i64 (q65.2.2.2.2.2.1.getD 5 0), v69, v70, .string q65.2.2.2.2.2.2.2.2.1, .string q65.2.2.2.2.2.2.2.2.2]) rfl rfl rfl z_agg32 rfl rfl (celn_part 0 rfl hc71) ?_
   obtain ⟨r74, hr75, h⟩ := h
   refine st_call (foot := []) rfl rfl rfl rfl rfl rfl (callV_fn z_en5 (law23_Cut_ok hr75 τ64 hs72 hs73)) ?_
   rintro vτ76 τ76 gsτ76 hl77 ⟨v78, v79, rfl, rfl, hs80, hs81⟩
   refine o_alloc rfl rfl rfl z_zero32 (fun b82 => ?_)
   refine o_store (j := 0) (vs := [.int .i64 r74.1, .int .u32 r74.2.1, .int .i64 r74.2.2.1, .int .i64 r74.2.2.2.1, .int .i64 r74.2.2.2.2.1, .int .i64 (r74.2.2.2.2.2.1.getD 0 0), .int .i64 (r74.2.2.2.2.2.1.getD 1 0), .int .i64 (r74.2.2.2.2.2.1.getD 2 0), .int .i64 (r74.2.2.2.2.2.1.getD 3 0), .int .i64 (r74.2.2.2.2.2.1.getD 4 0), .int .i64 (r74.2.2.2.2.2.1.getD 5 0), v78, v79, .string r74.2.2.2.2.2.2.2.2.1, .string r74.2.2.2.2.2.2.2.2.2]) (cs' := [.int .i64 r74.1, .int .u32 r74.2.1, .int .i64 r74.2.2.1, .int .i64 r74.2.2.2.1, .int .i64 r74.2.2.2.2.1, .int .i64 (r74.2.2.2.2.2.1.getD 0 0), .int .i64 (r74.2.2.2.2.2.1.getD 1 0), .int .i64 (r74.2.2.2.2.2.1.getD 2 0), .int .i64 (r74.2.2.2.2.2.1.getD 3 0), .int .i64 (r74.2.2.2.2.2.1.getD 4 0), .int .i64 (r74.2.2.2.2.2.1.getD 5 0), v78, v79, .string r74.2.2.2.2.2.2.2.2.1, .string r74.2.2.2.2.2.2.2.2.2]) rfl rfl rfl z_size32 rfl rfl rfl (ones_cons rfl (ones_cons rfl (ones_cons rfl (ones_cons rfl (ones_cons rfl (ones_cons rfl (ones_cons rfl (ones_cons rfl (ones_cons rfl (ones_cons rfl (ones_cons rfl (ones_cons hs80.one' (ones_cons hs81.one' (ones_cons rfl (ones_cons rfl ones_nil))))))))))))))) rfl rfl rfl ?_
   refine st_gs [[(b82, .cells #[.int .i64 r74.1, .int .u32 r74.2.1, .int .i64 r74.2.2.1, .int .i64 r74.2.2.2.1, .int .i64 r74.2.2.2.2.1, .int .i64 (r74.2.2.2.2.2.1.getD 0 0), .int .i64 (r74.2.2.2.2.2.1.getD 1 0), .int .i64 (r74.2.2.2.2.2.1.getD 2 0), .int .i64 (r74.2.2.2.2.2.1.getD 3 0), .int .i64 (r74.2.2.2.2.2.1.getD 4 0), .int .i64 (r74.2.2.2.2.2.1.getD 5 0), v78, v79, .string r74.2.2.2.2.2.2.2.2.1, .string r74.2.2.2.2.2.2.2.2.2] 32 (0, 0))], g59, g62] rfl ?_
   refine ZZ 5 [0] rfl rfl ?_
   refine o_lit (dk := (kP (kI .i64) (kP (kI .u32) (kP (kI .i64) (kP (kI .i64) (kP (kI .i64) (kP (kA .i64 6) (kP (kSl (kP (kI .i64) (kI .i64))) (kP (kSl (kI .i64)) (kP kS kS)))))))))) (xs := [r74]) (ps := [(0, [.int .i64 r74.1, .int .u32 r74.2.1, .int .i64 r74.2.2.1, .int .i64 r74.2.2.2.1, .int .i64 r74.2.2.2.2.1, .int .i64 (r74.2.2.2.2.2.1.getD 0 0), .int .i64 (r74.2.2.2.2.2.1.getD 1 0), .int .i64 (r74.2.2.2.2.2.1.getD 2 0), .int .i64 (r74.2.2.2.2.2.1.getD 3 0), .int .i64 (r74.2.2.2.2.2.1.getD 4 0), .int .i64 (r74.2.2.2.2.2.1.getD 5 0), v78, v79, .string r74.2.2.2.2.2.2.2.2.1, .string r74.2.2.2.2.2.2.2.2.2])]) (cs := [.int .i64 r74.1, .int .u32 r74.2.1, .int .i64 r74.2.2.1, .int .i64 r74.2.2.2.1, .int .i64 r74.2.2.2.2.1, .int .i64 (r74.2.2.2.2.2.1.getD 0 0), .int .i64 (r74.2.2.2.2.2.1.getD 1 0), .int .i64 (r74.2.2.2.2.2.1.getD 2 0), .int .i64 (r74.2.2.2.2.2.1.getD 3 0), .int .i64 (r74.2.2.2.2.2.1.getD 4 0), .int .i64 (r74.2.2.2.2.2.1.getD 5 0), v78, v79, .string r74.2.2.2.2.2.2.2.2.1, .string r74.2.2.2.2.2.2.2.2.2]) rfl rfl rfl z_slT22 z_zero32 ⟨rfl, ⟨_, rfl, rfl⟩, trivial⟩ rfl rfl rfl rfl (Kd.Many.cons (d := (kP (kI .i64) (kP (kI .u32) (kP (kI .i64) (kP (kI .i64) (kP (kI .i64) (kP (kA .i64 6) (kP (kSl (kP (kI .i64) (kI .i64))) (kP (kSl (kI .i64)) (kP kS kS)))))))))) (x := r74) (a := [.int .i64 r74.1, .int .u32 r74.2.1, .int .i64 r74.2.2.1, .int .i64 r74.2.2.2.1, .int .i64 r74.2.2.2.2.1, .int .i64 (r74.2.2.2.2.2.1.getD 0 0), .int .i64 (r74.2.2.2.2.2.1.getD 1 0), .int .i64 (r74.2.2.2.2.2.1.getD 2 0), .int .i64 (r74.2.2.2.2.2.1.getD 3 0), .int .i64 (r74.2.2.2.2.2.1.getD 4 0), .int .i64 (r74.2.2.2.2.2.1.getD 5 0), v78, v79, .string r74.2.2.2.2.2.2.2.2.1, .string r74.2.2.2.2.2.2.2.2.2]) ⟨[.int .i64 r74.1], _, rfl, rfl, ⟨[.int .u32 r74.2.1], _, rfl, rfl, ⟨[.int .i64 r74.2.2.1], _, rfl, rfl, ⟨[.int .i64 r74.2.2.2.1], _, rfl, rfl, ⟨[.int .i64 r74.2.2.2.2.1], _, rfl, rfl, ⟨[.int .i64 (r74.2.2.2.2.2.1.getD 0 0), .int .i64 (r74.2.2.2.2.2.1.getD 1 0), .int .i64 (r74.2.2.2.2.2.1.getD 2 0), .int .i64 (r74.2.2.2.2.2.1.getD 3 0), .int .i64 (r74.2.2.2.2.2.1.getD 4 0), .int .i64 (r74.2.2.2.2.2.1.getD 5 0)], _, rfl, rfl, ⟨[v78], _, rfl, ⟨_, rfl, hs80⟩, ⟨[v79], _, rfl, ⟨_, rfl, hs81⟩, ⟨[.string r74.2.2.2.2.2.2.2.2.1], _, rfl, rfl, rfl⟩⟩⟩⟩⟩⟩⟩⟩⟩ Kd.Many.nil) (fun v83 g84 ho85 => ?_)
   obtain ⟨hf89, hf90, h⟩ := h
   refine st_ord [2, 0, 0, 0] _ rfl ?_
   refine o_append (dk := (kP (kI .i64) (kP (kI .u32) (kP (kI .i64) (kP (kI .i64) (kP (kI .i64) (kP (kA .i64 6) (kP (kSl (kP (kI .i64) (kI .i64))) (kP (kSl (kI .i64)) (kP kS kS)))))))))) (xs := s57.1) (ys := [r74]) rfl rfl rfl rfl z_slT22 rfl (ho60.up (hl64.trans hl77)) rfl (Ow.src (j := 1) ho85 rfl) hf89 hf90 (fun v86 g87 ho88 => ?_)
   refine ZZ 6 [2] rfl rfl ?_
   obtain ⟨r91, hr92, h⟩ := h
   refine st_call (foot := []) rfl rfl rfl rfl rfl rfl (callV_fn z_en6 (law23_Of_ok hr92 τ76 hs80 hs81)) ?_
   rintro vτ93 τ93 gsτ93 hl94 ⟨v95, v96, rfl, rfl, hs97, hs98⟩
   refine o_lit (dk := (kP (kI .i64) (kP (kI .u32) (kP (kI .i64) (kP (kI .i64) (kP (kI .i64) (kP (kA .i64 6) (kP (kSl (kA .i64 2)) (kP (kSl (kI .i64)) (kP kS kS)))))))))) (xs := [r91]) (ps := [(0, [.int .i64 r91.1, .int .u32 r91.2.1, .int .i64 r91.2.2.1, .int .i64 r91.2.2.2.1, .int .i64 r91.2.2.2.2.1, .int .i64 (r91.2.2.2.2.2.1.getD 0 0), .int .i64 (r91.2.2.2.2.2.1.getD 1 0), .int .i64 (r91.2.2.2.2.2.1.getD 2 0), .int .i64 (r91.2.2.2.2.2.1.getD 3 0), .int .i64 (r91.2.2.2.2.2.1.getD 4 0), .int .i64 (r91.2.2.2.2.2.1.getD 5 0), v95, v96, .string r91.2.2.2.2.2.2.2.2.1, .string r91.2.2.2.2.2.2.2.2.2])]) (cs := [.int .i64 r91.1, .int .u32 r91.2.1, .int .i64 r91.2.2.1, .int .i64 r91.2.2.2.1, .int .i64 r91.2.2.2.2.1, .int .i64 (r91.2.2.2.2.2.1.getD 0 0), .int .i64 (r91.2.2.2.2.2.1.getD 1 0), .int .i64 (r91.2.2.2.2.2.1.getD 2 0), .int .i64 (r91.2.2.2.2.2.1.getD 3 0), .int .i64 (r91.2.2.2.2.2.1.getD 4 0), .int .i64 (r91.2.2.2.2.2.1.getD 5 0), v95, v96, .string r91.2.2.2.2.2.2.2.2.1, .string r91.2.2.2.2.2.2.2.2.2]) rfl rfl rfl z_slT23 z_zero38 ⟨rfl, ⟨_, rfl, rfl⟩, trivial⟩ rfl rfl rfl rfl (Kd.Many.cons (d := (kP (kI .i64) (kP (kI .u32) (kP (kI .i64) (kP (kI .i64) (kP (kI .i64) (kP (kA .i64 6) (kP (kSl (kA .i64 2)) (kP (kSl (kI .i64)) (kP kS kS)))))))))) (x := r91) (a := [.int .i64 r91.1, .int .u32 r91.2.1, .int .i64 r91.2.2.1, .int .i64 r91.2.2.2.1, .int .i64 r91.2.2.2.2.1, .int .i64 (r91.2.2.2.2.2.1.getD 0 0), .int .i64 (r91.2.2.2.2.2.1.getD 1 0), .int .i64 (r91.2.2.2.2.2.1.getD 2 0), .int .i64 (r91.2.2.2.2.2.1.getD 3 0), .int .i64 (r91.2.2.2.2.2.1.getD 4 0), .int .i64 (r91.2.2.2.2.2.1.getD 5 0), v95, v96, .string r91.2.2.2.2.2.2.2.2.1, .string r91.2.2.2.2.2.2.2.2.2]) ⟨[.int .i64 r91.1], _, rfl, rfl, ⟨[.int .u32 r91.2.1], _, rfl, rfl, ⟨[.int .i64 r91.2.2.1], _, rfl, rfl, ⟨[.int .i64 r91.2.2.2.1], _, rfl, rfl, ⟨[.int .i64 r91.2.2.2.2.1], _, rfl, rfl, ⟨[.int .i64 (r91.2.2.2.2.2.1.getD 0 0), .int .i64 (r91.2.2.2.2.2.1.getD 1 0), .int .i64 (r91.2.2.2.2.2.1.getD 2 0), .int .i64 (r91.2.2.2.2.2.1.getD 3 0), .int .i64 (r91.2.2.2.2.2.1.getD 4 0), .int .i64 (r91.2.2.2.2.2.1.getD 5 0)], _, rfl, rfl, ⟨[v95], _, rfl, ⟨_, rfl, hs97⟩, ⟨[v96], _, rfl, ⟨_, rfl, hs98⟩, ⟨[.string r91.2.2.2.2.2.2.2.2.1], _, rfl, rfl, rfl⟩⟩⟩⟩⟩⟩⟩⟩⟩ Kd.Many.nil) (fun v99 g100 ho101 => ?_)
   obtain ⟨hf105, hf106, h⟩ := h
   refine st_ord [4, 0, 0, 0, 0] _ rfl ?_
   refine o_append (dk := (kP (kI .i64) (kP (kI .u32) (kP (kI .i64) (kP (kI .i64) (kP (kI .i64) (kP (kA .i64 6) (kP (kSl (kA .i64 2)) (kP (kSl (kI .i64)) (kP kS kS)))))))))) (xs := s57.2.1) (ys := [r91]) rfl rfl rfl rfl z_slT23 rfl (ho63.up ((hl64.trans hl77).trans hl94)) rfl (Ow.src (j := 1) ho101 rfl) hf105 hf106 (fun v102 g103 ho104 => ?_)
   refine Z 3 rfl ?_
   obtain ⟨r107, hr108, r111, hr112, r119, hr120, h⟩ := h
   refine st_draw 6 (dl [.v (.agg #[.int .i64 r74.1, .int .u32 r74.2.1, .int .i64 r74.2.2.1, .int .i64 r74.2.2.2.1, .int .i64 r74.2.2.2.2.1, .int .i64 (r74.2.2.2.2.2.1.getD 0 0), .int .i64 (r74.2.2.2.2.2.1.getD 1 0), .int .i64 (r74.2.2.2.2.2.1.getD 2 0), .int .i64 (r74.2.2.2.2.2.1.getD 3 0), .int .i64 (r74.2.2.2.2.2.1.getD 4 0), .int .i64 (r74.2.2.2.2.2.1.getD 5 0), v78, v79, .string r74.2.2.2.2.2.2.2.2.1, .string r74.2.2.2.2.2.2.2.2.2]), .v (.int .i64 r107), .v (.agg #[.int .i64 r74.1, .int .u32 r74.2.1, .int .i64 r74.2.2.1, .int .i64 r74.2.2.2.1, .int .i64 r74.2.2.2.2.1, .int .i64 (r74.2.2.2.2.2.1.getD 0 0), .int .i64 (r74.2.2.2.2.2.1.getD 1 0), .int .i64 (r74.2.2.2.2.2.1.getD 2 0), .int .i64 (r74.2.2.2.2.2.1.getD 3 0), .int .i64 (r74.2.2.2.2.2.1.getD 4 0), .int .i64 (r74.2.2.2.2.2.1.getD 5 0), v78, v79, .string r74.2.2.2.2.2.2.2.2.1, .string r74.2.2.2.2.2.2.2.2.2]), .t fun τ v => ∃ (v115 : Value) (v116 : Value), (.agg #[.int .i64 r111.1, .int .u32 r111.2.1, .int .i64 r111.2.2.1, .int .i64 r111.2.2.2.1, .int .i64 r111.2.2.2.2.1, .int .i64 (r111.2.2.2.2.2.1.getD 0 0), .int .i64 (r111.2.2.2.2.2.1.getD 1 0), .int .i64 (r111.2.2.2.2.2.1.getD 2 0), .int .i64 (r111.2.2.2.2.2.1.getD 3 0), .int .i64 (r111.2.2.2.2.2.1.getD 4 0), .int .i64 (r111.2.2.2.2.2.1.getD 5 0), v115, v116, .string r111.2.2.2.2.2.2.2.2.1, .string r111.2.2.2.2.2.2.2.2.2] : Value) = v ∧ Sl (kA .i64 2) τ v115 r111.2.2.2.2.2.2.1 ∧ Sl (kI .i64) τ v116 r111.2.2.2.2.2.2.2.1, .v (.int .i64 r119), .v (.bool (!(decide (r107 = r119))))]) (fun _ _ => []) z_mix rfl (dl_mono ⟨fun _ _ _ hl ⟨v115, v116, hv, hs117, hs118⟩ => ⟨v115, v116, hv, hs117.up hl, hs118.up hl⟩, trivial⟩) (allB_cons (allB_cons (allB_cons (allB_cons (allB_cons (allB_cons allB_nil ?_) ?_) ?_) ?_) ?_) (p1 dA)) ?_
   ·intro ρ' τ pool rs hl hd hout hk
    refine o_loadN (j := 4) (vs := [.int .i64 r74.1, .int .u32 r74.2.1, .int .i64 r74.2.2.1, .int .i64 r74.2.2.2.1, .int .i64 r74.2.2.2.2.1, .int .i64 (r74.2.2.2.2.2.1.getD 0 0), .int .i64 (r74.2.2.2.2.2.1.getD 1 0), .int .i64 (r74.2.2.2.2.2.1.getD 2 0), .int .i64 (r74.2.2.2.2.2.1.getD 3 0), .int .i64 (r74.2.2.2.2.2.1.getD 4 0), .int .i64 (r74.2.2.2.2.2.1.getD 5 0), v78, v79, .string r74.2.2.2.2.2.2.2.2.1, .string r74.2.2.2.2.2.2.2.2.2]) rfl rfl rfl z_agg32 ((hout 6 rfl).trans rfl) rfl rfl ?_
    exact st_addNil (hk _ _ (Sto.Le.refl _) rfl)
   ·intro ρ' τ pool rs hl hd hout hk
    obtain ⟨_, e0, rfl⟩ := hd 0 rfl
    refine st_call (foot := []) rfl rfl rfl rfl (evs_cons e0 rfl) rfl (callV_fn z_en7 (log_Check_ok hr108 τ (hs80.up (hl94.trans hl)) (hs81.up (hl94.trans hl)))) ?_
    rintro vτ109 τ109 gsτ109 hl110 ⟨rfl, rfl⟩
    exact st_addNil (hk _ _ hl110 rfl)
   ·intro ρ' τ pool rs hl hd hout hk
    refine o_loadN (j := 4) (vs := [.int .i64 r74.1, .int .u32 r74.2.1, .int .i64 r74.2.2.1, .int .i64 r74.2.2.2.1, .int .i64 r74.2.2.2.2.1, .int .i64 (r74.2.2.2.2.2.1.getD 0 0), .int .i64 (r74.2.2.2.2.2.1.getD 1 0), .int .i64 (r74.2.2.2.2.2.1.getD 2 0), .int .i64 (r74.2.2.2.2.2.1.getD 3 0), .int .i64 (r74.2.2.2.2.2.1.getD 4 0), .int .i64 (r74.2.2.2.2.2.1.getD 5 0), v78, v79, .string r74.2.2.2.2.2.2.2.2.1, .string r74.2.2.2.2.2.2.2.2.2]) rfl rfl rfl z_agg32 ((hout 6 rfl).trans rfl) rfl rfl ?_
    exact st_addNil (hk _ _ (Sto.Le.refl _) rfl)
   ·intro ρ' τ pool rs hl hd hout hk
    obtain ⟨_, e2, rfl⟩ := hd 2 rfl
    refine st_call (foot := []) rfl rfl rfl rfl (evs_cons e2 rfl) rfl (callV_fn z_en6 (law23_Of_ok hr112 τ (hs80.up (hl94.trans hl)) (hs81.up (hl94.trans hl)))) ?_
    rintro vτ113 τ113 gsτ113 hl114 ⟨v115, v116, rfl, rfl, hs117, hs118⟩
    exact st_addNil (hk _ _ hl114 ⟨v115, v116, rfl, hs117, hs118⟩)
   ·intro ρ' τ pool rs hl hd hout hk
    obtain ⟨_, e3, v115, v116, rfl, hs117, hs118⟩ := hd 3 rfl
    refine st_call (foot := []) rfl rfl rfl rfl (evs_cons e3 rfl) rfl (callV_fn z_en8 (ref34_Check_ok hr120 τ hs117 hs118)) ?_
    rintro vτ121 τ121 gsτ121 hl122 ⟨rfl, rfl⟩
    exact st_addNil (hk _ _ hl122 rfl)
   intro ρ' τ123 vals hl123 hv hout
   refine st_ord [0, 0, 0, 0, 0] _ rfl ?_
   refine st_env (ρ' := [(42, .bool (!(decide (r107 = r119)))), (0, v1), (2, .bool false), (3, v86), (4, v102), (5, .int .i64 s57.2.2)]) ⟨(lv1 hv 5 rfl rfl), (hout 0 rfl).trans rfl, (hout 2 rfl).trans rfl, (hout 3 rfl).trans rfl, (hout 4 rfl).trans rfl, (hout 5 rfl).trans rfl, trivial⟩ ?_
   refine st_end ?_
   refine st_if rfl h (fun h => ?_) (fun h => ?_)
   ·refine Z 4 rfl ?_
    refine st_ord [] _ rfl ?_
    obtain rfl := he57 _ h
    replace h := hA57
    obtain rfl := Eq.symm h
    exact st_ret (gs' := []) Tryz.func3 rfl (List.Sublist.refl _) ((((hl57.trans hl64).trans hl77).trans hl94).trans hl123) ⟨rfl, rfl⟩
   ·refine Z 7 rfl ?_
    refine st_ord [2, 0] _ rfl ?_
    exact hn57 _ _ _ _ h ⟨((((hl57.trans hl64).trans hl77).trans hl94).trans hl123), _, _, _, _, rfl, rfl, (ho88.up (hl94.trans hl123)), (ho104.up hl123)⟩
  ·refine st_exit rfl ?_
   obtain rfl := he57 _ h
   replace h := hA57
   exact hk3 _ _ _ ⟨(s57.1, s57.2.1), _, _, _, _, h, (hl57.trans hl64), rfl, rfl, (ho60.up hl64), (ho63.up hl64)⟩
 refine Z 3 rfl ?_
 refine o_lenI rfl rfl rfl z_slT22 rfl (hs2.up hl57) ?_
 refine o_ibin (v := .bool (decide (s57.2.2 < (a0.length : Int)))) rfl rfl rfl rfl rfl rfl ?_
 refine o_mif rfl rfl rfl rfl h (fun h => ?_) (fun h => ?_)
 ·refine Z 4 rfl ?_
  exact hk64 _ _ _ ⟨(decide (s57.2.2 < 20)), h, (Sto.Le.refl _), rfl, rfl⟩
 ·refine Z 4 rfl ?_
  exact hk64 _ _ _ ⟨false, h, (Sto.Le.refl _), rfl, rfl⟩
end Go.Rel
