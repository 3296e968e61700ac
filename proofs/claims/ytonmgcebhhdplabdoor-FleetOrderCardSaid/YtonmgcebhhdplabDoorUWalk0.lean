import Derived.Test.YtonmgcebhhdplabDoorURel
import Derived.Test.YtonmgcebhhdplabDoorUFacts
/-! The walks. -/
set_option linter.unusedVariables false
set_option linter.unusedSimpArgs false
set_option maxRecDepth 4000
set_option maxHeartbeats 4000000
namespace Go.Rel
open Go Go.Eng Go.Proofs
theorem law17_Cut_ok {a0 : Int × List Int × List (Int × Int) × List Int × ByteArray × ByteArray} {v1 : Value} {v2 : Value} {r : (Int × List Int × List (Int × Int) × List Int × ByteArray × ByteArray)} (h : law17_Cut a0 r) (σ : Sto) (hs3 : Sl (kP (kI .i64) (kI .i64)) σ v1 a0.2.2.1) (hs4 : Sl (kI .i64) σ v2 a0.2.2.2.1) :
    Does Tryd.prog 16 [.agg [.int .i64 a0.1, .int .i64 (a0.2.1.getD 0 0), .int .i64 (a0.2.1.getD 1 0), .int .i64 (a0.2.1.getD 2 0), .int .i64 (a0.2.1.getD 3 0), .int .i64 (a0.2.1.getD 4 0), .int .i64 (a0.2.1.getD 5 0), v1, v2, .string a0.2.2.2.2.1, .string a0.2.2.2.2.2].toArray] σ [] (fun v τ gs => ∃ (v23 : Value) (v24 : Value), gs = [] ∧ .agg [.int .i64 r.1, .int .i64 (r.2.1.getD 0 0), .int .i64 (r.2.1.getD 1 0), .int .i64 (r.2.1.getD 2 0), .int .i64 (r.2.1.getD 3 0), .int .i64 (r.2.1.getD 4 0), .int .i64 (r.2.1.getD 5 0), v23, v24, .string r.2.2.2.2.1, .string r.2.2.2.2.2].toArray = v ∧ Sl (kP (kI .i64) (kI .i64)) τ v23 r.2.2.1 ∧ Sl (kI .i64) τ v24 r.2.2.2.1) := by
 refine call_of Tryd.func16 Tryd.ntmps16 rfl rfl (fun cs fs => ?_)
 refine Z 2 rfl ?_
 refine o_box (cs := [.int .i64 a0.1, .int .i64 (a0.2.1.getD 0 0), .int .i64 (a0.2.1.getD 1 0), .int .i64 (a0.2.1.getD 2 0), .int .i64 (a0.2.1.getD 3 0), .int .i64 (a0.2.1.getD 4 0), .int .i64 (a0.2.1.getD 5 0), v1, v2, .string a0.2.2.2.2.1, .string a0.2.2.2.2.2]) rfl rfl rfl rfl rfl (fun b5 => ?_)
 refine o_alloc rfl rfl rfl z_zero39 (fun b6 => ?_)
 refine Z 2 rfl ?_
 obtain ⟨hf7, hf8, hf11, hf12, h⟩ := h
 refine st_d41 [[(b6, .cells #[.int .i64 0, .int .i64 0, .int .i64 0, .int .i64 0, .int .i64 0, .int .i64 0, .int .i64 0, .slice none 0 0, .slice none 0 0, .string (bstr []), .string (bstr [])] 39 (0, 0))]] [[(b5, .cells #[.int .i64 a0.1, .int .i64 (a0.2.1.getD 0 0), .int .i64 (a0.2.1.getD 1 0), .int .i64 (a0.2.1.getD 2 0), .int .i64 (a0.2.1.getD 3 0), .int .i64 (a0.2.1.getD 4 0), .int .i64 (a0.2.1.getD 5 0), v1, v2, .string a0.2.2.2.2.1, .string a0.2.2.2.2.2] 39 (0, 0))]] 16 1 [none, none, none, none, none, none, none, none, none, none, none, none, none, none, none, some (0, 0)] [none, some (0, 0), none, some (0, 0), none, none, none, none, some (0, 0), none, some (0, 0), none, none, none, none, none] [[none, none]] [.v (.pointer (some ⟨b5, 7, none⟩)), .v (v1), .v (.pointer (some ⟨b5, 7, none⟩)), .v (v1), .v (.int .i64 (a0.2.2.1.length : Int)), .v (.int .i64 (min (a0.2.2.1.length : Int) 40)), .t fun τ v => ∃ (v9 : Value), (v9 : Value) = v ∧ Sl (kP (kI .i64) (kI .i64)) τ v9 ((a0.2.2.1.drop (0 : Int).toNat).take (((min (a0.2.2.1.length : Int) 40) : Int) - 0).toNat), .v (.pointer (some ⟨b5, 8, none⟩)), .v (v2), .v (.pointer (some ⟨b5, 8, none⟩)), .v (v2), .v (.int .i64 (a0.2.2.2.1.length : Int)), .v (.int .i64 (min (a0.2.2.2.1.length : Int) 40)), .t fun τ v => ∃ (v13 : Value), (v13 : Value) = v ∧ Sl (kI .i64) τ v13 ((a0.2.2.2.1.drop (0 : Int).toNat).take (((min (a0.2.2.2.1.length : Int) 40) : Int) - 0).toNat), .v (.pointer (some ⟨b5, 7, none⟩)), .t fun _ _ => True] [[fun τ u F => F = [[(b5, .cells #[.int .i64 a0.1, .int .i64 (a0.2.1.getD 0 0), .int .i64 (a0.2.1.getD 1 0), .int .i64 (a0.2.1.getD 2 0), .int .i64 (a0.2.1.getD 3 0), .int .i64 (a0.2.1.getD 4 0), .int .i64 (a0.2.1.getD 5 0), v1, v2, .string a0.2.2.2.2.1, .string a0.2.2.2.2.2] 39 (0, 0))]], fun τ u F => ∃ (v15 : Value), F = [[(b5, .cells #[.int .i64 a0.1, .int .i64 (a0.2.1.getD 0 0), .int .i64 (a0.2.1.getD 1 0), .int .i64 (a0.2.1.getD 2 0), .int .i64 (a0.2.1.getD 3 0), .int .i64 (a0.2.1.getD 4 0), .int .i64 (a0.2.1.getD 5 0), v15, v2, .string a0.2.2.2.2.1, .string a0.2.2.2.2.2] 39 (0, 0))]] ∧ Sl (kP (kI .i64) (kI .i64)) τ v15 ((a0.2.2.1.drop (0 : Int).toNat).take (((min (a0.2.2.1.length : Int) 40) : Int) - 0).toNat)]] rfl z_mix rfl ⟨fun _ _ _ hl ⟨v9, hv, hs10⟩ => ⟨v9, hv, hs10.up hl⟩, ⟨fun _ _ _ hl ⟨v13, hv, hs14⟩ => ⟨v13, hv, hs14.up hl⟩, ⟨fun _ _ _ _ _ => trivial, trivial⟩⟩⟩ ⟨⟨fun _ _ _ _ hl h => h, ⟨fun _ _ _ _ hl h => (let ⟨v15, hF, hs16⟩ := h; ⟨v15, hF, hs16.up hl⟩), trivial⟩⟩, trivial⟩ rfl rfl ?_ (allB_cons (allB_cons (allB_cons (allB_cons (allB_cons (allB_cons (allB_cons (allB_cons (allB_cons (allB_cons (allB_cons (allB_cons (allB_cons (allB_cons (allB_cons (allB_cons allB_nil (p4 dA)) ?_) (p4 dA)) ?_) ?_) (p4 dA)) ?_) (p4 dA)) ?_) (p4 dA)) ?_) ?_) (p4 dA)) ?_) (p4 dA)) ?_) ?_
 ·exact rfl
 ·intro ρ' τ u Fv pool rs hl hI hu hd hout hw hk
  obtain ⟨_, e0, rfl⟩ := hd 0 rfl _ rfl
  have hI0 := hI
  obtain rfl := hI
  refine st_gs [[(b6, .cells #[.int .i64 0, .int .i64 0, .int .i64 0, .int .i64 0, .int .i64 0, .int .i64 0, .int .i64 0, .slice none 0 0, .slice none 0 0, .string (bstr []), .string (bstr [])] 39 (0, 0))], [(b5, .cells #[.int .i64 a0.1, .int .i64 (a0.2.1.getD 0 0), .int .i64 (a0.2.1.getD 1 0), .int .i64 (a0.2.1.getD 2 0), .int .i64 (a0.2.1.getD 3 0), .int .i64 (a0.2.1.getD 4 0), .int .i64 (a0.2.1.getD 5 0), v1, v2, .string a0.2.2.2.2.1, .string a0.2.2.2.2.2] 39 (0, 0))], pool] rfl ?_
  refine o_load (j := 1) (v := v1) rfl rfl rfl z_sc36 e0 rfl rfl ?_
  exact hk _ _ (Sto.Le.refl _) rfl
 ·intro ρ' τ u Fv pool rs hl hI hu hd hout hw hk
  obtain ⟨_, e2, rfl⟩ := hd 2 rfl _ rfl
  have hI0 := hI
  obtain rfl := hI
  refine st_gs [[(b6, .cells #[.int .i64 0, .int .i64 0, .int .i64 0, .int .i64 0, .int .i64 0, .int .i64 0, .int .i64 0, .slice none 0 0, .slice none 0 0, .string (bstr []), .string (bstr [])] 39 (0, 0))], [(b5, .cells #[.int .i64 a0.1, .int .i64 (a0.2.1.getD 0 0), .int .i64 (a0.2.1.getD 1 0), .int .i64 (a0.2.1.getD 2 0), .int .i64 (a0.2.1.getD 3 0), .int .i64 (a0.2.1.getD 4 0), .int .i64 (a0.2.1.getD 5 0), v1, v2, .string a0.2.2.2.2.1, .string a0.2.2.2.2.2] 39 (0, 0))], pool] rfl ?_
  refine o_load (j := 1) (v := v1) rfl rfl rfl z_sc36 e2 rfl rfl ?_
  exact hk _ _ (Sto.Le.refl _) rfl
 ·intro ρ' τ pool rs hl hd hout hw hk
  obtain ⟨_, e3, rfl⟩ := hd 3 rfl _ rfl
  refine o_lenI rfl rfl rfl z_slT36 e3 (hs3.up hl) ?_
  exact hk _ _ (Sto.Le.refl _) rfl
 ·intro ρ' τ pool rs hl hd hout hw hk
  obtain ⟨_, e1, rfl⟩ := hd 1 rfl _ rfl
  obtain ⟨_, e5, rfl⟩ := hd 5 rfl _ rfl
  refine o_slice (L := 0) (H := (min (a0.2.2.1.length : Int) 40)) rfl rfl rfl z_slT36 rfl e1 (hs3.up hl) rfl ⟨_, e5⟩ (by decide) hf7 hf8 trivial (by simp) (fun v9 hs10 => ?_)
  exact hk _ _ (Sto.Le.refl _) ⟨v9, rfl, hs10⟩
 ·intro ρ' τ u Fv pool rs hl hI hu hd hout hw hk
  obtain ⟨_, e7, rfl⟩ := hd 7 rfl _ rfl
  have hI0 := hI
  obtain rfl := hI
  refine st_gs [[(b6, .cells #[.int .i64 0, .int .i64 0, .int .i64 0, .int .i64 0, .int .i64 0, .int .i64 0, .int .i64 0, .slice none 0 0, .slice none 0 0, .string (bstr []), .string (bstr [])] 39 (0, 0))], [(b5, .cells #[.int .i64 a0.1, .int .i64 (a0.2.1.getD 0 0), .int .i64 (a0.2.1.getD 1 0), .int .i64 (a0.2.1.getD 2 0), .int .i64 (a0.2.1.getD 3 0), .int .i64 (a0.2.1.getD 4 0), .int .i64 (a0.2.1.getD 5 0), v1, v2, .string a0.2.2.2.2.1, .string a0.2.2.2.2.2] 39 (0, 0))], pool] rfl ?_
  refine o_load (j := 1) (v := v2) rfl rfl rfl z_sc37 e7 rfl rfl ?_
  exact hk _ _ (Sto.Le.refl _) rfl
 ·intro ρ' τ u Fv pool rs hl hI hu hd hout hw hk
  obtain ⟨_, e9, rfl⟩ := hd 9 rfl _ rfl
  have hI0 := hI
  obtain rfl := hI
  refine st_gs [[(b6, .cells #[.int .i64 0, .int .i64 0, .int .i64 0, .int .i64 0, .int .i64 0, .int .i64 0, .int .i64 0, .slice none 0 0, .slice none 0 0, .string (bstr []), .string (bstr [])] 39 (0, 0))], [(b5, .cells #[.int .i64 a0.1, .int .i64 (a0.2.1.getD 0 0), .int .i64 (a0.2.1.getD 1 0), .int .i64 (a0.2.1.getD 2 0), .int .i64 (a0.2.1.getD 3 0), .int .i64 (a0.2.1.getD 4 0), .int .i64 (a0.2.1.getD 5 0), v1, v2, .string a0.2.2.2.2.1, .string a0.2.2.2.2.2] 39 (0, 0))], pool] rfl ?_
  refine o_load (j := 1) (v := v2) rfl rfl rfl z_sc37 e9 rfl rfl ?_
  exact hk _ _ (Sto.Le.refl _) rfl
 ·intro ρ' τ pool rs hl hd hout hw hk
  obtain ⟨_, e10, rfl⟩ := hd 10 rfl _ rfl
  refine o_lenI rfl rfl rfl z_slT37 e10 (hs4.up hl) ?_
  exact hk _ _ (Sto.Le.refl _) rfl
 ·intro ρ' τ pool rs hl hd hout hw hk
  obtain ⟨_, e8, rfl⟩ := hd 8 rfl _ rfl
  obtain ⟨_, e12, rfl⟩ := hd 12 rfl _ rfl
  refine o_slice (L := 0) (H := (min (a0.2.2.2.1.length : Int) 40)) rfl rfl rfl z_slT37 rfl e8 (hs4.up hl) rfl ⟨_, e12⟩ (by decide) hf11 hf12 trivial (by simp) (fun v13 hs14 => ?_)
  exact hk _ _ (Sto.Le.refl _) ⟨v13, rfl, hs14⟩
 ·intro ρ' τ u Fv pool rs hl hI hu hd hout hw hk
  obtain ⟨_, e6, v9, rfl, hs10⟩ := hd 6 rfl _ rfl
  obtain ⟨_, e14, rfl⟩ := hd 14 rfl _ rfl
  have hI0 := hI
  obtain rfl := hI
  refine st_gs [[(b6, .cells #[.int .i64 0, .int .i64 0, .int .i64 0, .int .i64 0, .int .i64 0, .int .i64 0, .int .i64 0, .slice none 0 0, .slice none 0 0, .string (bstr []), .string (bstr [])] 39 (0, 0))], [(b5, .cells #[.int .i64 a0.1, .int .i64 (a0.2.1.getD 0 0), .int .i64 (a0.2.1.getD 1 0), .int .i64 (a0.2.1.getD 2 0), .int .i64 (a0.2.1.getD 3 0), .int .i64 (a0.2.1.getD 4 0), .int .i64 (a0.2.1.getD 5 0), v1, v2, .string a0.2.2.2.2.1, .string a0.2.2.2.2.2] 39 (0, 0))], pool] rfl ?_
  refine o_store (j := 1) (vs := [v9]) (cs' := [.int .i64 a0.1, .int .i64 (a0.2.1.getD 0 0), .int .i64 (a0.2.1.getD 1 0), .int .i64 (a0.2.1.getD 2 0), .int .i64 (a0.2.1.getD 3 0), .int .i64 (a0.2.1.getD 4 0), .int .i64 (a0.2.1.getD 5 0), v9, v2, .string a0.2.2.2.2.1, .string a0.2.2.2.2.2]) rfl rfl rfl z_size36 e14 e6 (oneL_sl hs10) (ones_cons hs10.one' ones_nil) rfl rfl rfl ?_
  refine st_gs [[(b6, .cells #[.int .i64 0, .int .i64 0, .int .i64 0, .int .i64 0, .int .i64 0, .int .i64 0, .int .i64 0, .slice none 0 0, .slice none 0 0, .string (bstr []), .string (bstr [])] 39 (0, 0))], [(b5, .cells #[.int .i64 a0.1, .int .i64 (a0.2.1.getD 0 0), .int .i64 (a0.2.1.getD 1 0), .int .i64 (a0.2.1.getD 2 0), .int .i64 (a0.2.1.getD 3 0), .int .i64 (a0.2.1.getD 4 0), .int .i64 (a0.2.1.getD 5 0), v9, v2, .string a0.2.2.2.2.1, .string a0.2.2.2.2.2] 39 (0, 0))], pool] rfl ?_
  exact hk _ _ [[(b5, .cells #[.int .i64 a0.1, .int .i64 (a0.2.1.getD 0 0), .int .i64 (a0.2.1.getD 1 0), .int .i64 (a0.2.1.getD 2 0), .int .i64 (a0.2.1.getD 3 0), .int .i64 (a0.2.1.getD 4 0), .int .i64 (a0.2.1.getD 5 0), v9, v2, .string a0.2.2.2.2.1, .string a0.2.2.2.2.2] 39 (0, 0))]] (Sto.Le.refl _) trivial (by exact ⟨v9, rfl, hs10⟩)
 intro ρ' τ17 vals u Fv hl17 hI hu hv hout
 obtain ⟨l13, v13, t13, hs14⟩ := hv 13 (by decide)
 replace l13 := l13 _ rfl
 replace l13 : Eng.look ρ' 16 = some (v13) := l13.trans (congrArg some (Eq.symm t13))
 obtain ⟨v15, rfl, hs16⟩ := hI
 refine st_gs [[(b6, .cells #[.int .i64 0, .int .i64 0, .int .i64 0, .int .i64 0, .int .i64 0, .int .i64 0, .int .i64 0, .slice none 0 0, .slice none 0 0, .string (bstr []), .string (bstr [])] 39 (0, 0))], [(b5, .cells #[.int .i64 a0.1, .int .i64 (a0.2.1.getD 0 0), .int .i64 (a0.2.1.getD 1 0), .int .i64 (a0.2.1.getD 2 0), .int .i64 (a0.2.1.getD 3 0), .int .i64 (a0.2.1.getD 4 0), .int .i64 (a0.2.1.getD 5 0), v15, v2, .string a0.2.2.2.2.1, .string a0.2.2.2.2.2] 39 (0, 0))]] rfl ?_
 refine st_env (ρ' := [(16, v13), (1, .pointer (some ⟨b5, 0, none⟩)), (2, .pointer (some ⟨b6, 0, none⟩))]) ⟨l13, (hout 1 rfl).trans rfl, (hout 2 rfl).trans rfl, trivial⟩ ?_
 refine o_fieldAddr rfl rfl rfl z_field39_3 rfl ?_
 refine o_store (j := 1) (vs := [v13]) (cs' := [.int .i64 a0.1, .int .i64 (a0.2.1.getD 0 0), .int .i64 (a0.2.1.getD 1 0), .int .i64 (a0.2.1.getD 2 0), .int .i64 (a0.2.1.getD 3 0), .int .i64 (a0.2.1.getD 4 0), .int .i64 (a0.2.1.getD 5 0), v15, v13, .string a0.2.2.2.2.1, .string a0.2.2.2.2.2]) rfl rfl rfl z_size37 rfl rfl (oneL_sl hs14) (ones_cons hs14.one' ones_nil) rfl rfl rfl ?_
 refine st_gs [[(b6, .cells #[.int .i64 0, .int .i64 0, .int .i64 0, .int .i64 0, .int .i64 0, .int .i64 0, .int .i64 0, .slice none 0 0, .slice none 0 0, .string (bstr []), .string (bstr [])] 39 (0, 0))], [(b5, .cells #[.int .i64 a0.1, .int .i64 (a0.2.1.getD 0 0), .int .i64 (a0.2.1.getD 1 0), .int .i64 (a0.2.1.getD 2 0), .int .i64 (a0.2.1.getD 3 0), .int .i64 (a0.2.1.getD 4 0), .int .i64 (a0.2.1.getD 5 0), v15, v13, .string a0.2.2.2.2.1, .string a0.2.2.2.2.2] 39 (0, 0))]] rfl ?_
 refine Z 2 rfl ?_
 obtain ⟨hf18, hf19, hf20, hf21, h⟩ := h
 refine st_d41 [[(b6, .cells #[.int .i64 0, .int .i64 0, .int .i64 0, .int .i64 0, .int .i64 0, .int .i64 0, .int .i64 0, .slice none 0 0, .slice none 0 0, .string (bstr []), .string (bstr [])] 39 (0, 0))]] [[(b5, .cells #[.int .i64 a0.1, .int .i64 (a0.2.1.getD 0 0), .int .i64 (a0.2.1.getD 1 0), .int .i64 (a0.2.1.getD 2 0), .int .i64 (a0.2.1.getD 3 0), .int .i64 (a0.2.1.getD 4 0), .int .i64 (a0.2.1.getD 5 0), v15, v13, .string a0.2.2.2.2.1, .string a0.2.2.2.2.2] 39 (0, 0))]] 16 1 [none, none, none, none, none, none, none, none, none, none, none, none, none, none, none, some (0, 0)] [none, some (0, 0), none, some (0, 0), none, none, none, none, some (0, 0), none, some (0, 0), none, none, none, none, none] [[none, none]] [.v (.pointer (some ⟨b5, 9, none⟩)), .v (.string a0.2.2.2.2.1), .v (.pointer (some ⟨b5, 9, none⟩)), .v (.string a0.2.2.2.2.1), .v (.int .i64 (a0.2.2.2.2.1.size : Int)), .v (.int .i64 (min (a0.2.2.2.2.1.size : Int) 80)), .v (.string (a0.2.2.2.2.1.extract 0 (min (a0.2.2.2.2.1.size : Int) 80).toNat)), .v (.pointer (some ⟨b5, 10, none⟩)), .v (.string a0.2.2.2.2.2), .v (.pointer (some ⟨b5, 10, none⟩)), .v (.string a0.2.2.2.2.2), .v (.int .i64 (a0.2.2.2.2.2.size : Int)), .v (.int .i64 (min (a0.2.2.2.2.2.size : Int) 80)), .v (.string (a0.2.2.2.2.2.extract 0 (min (a0.2.2.2.2.2.size : Int) 80).toNat)), .v (.pointer (some ⟨b5, 9, none⟩)), .t fun _ _ => True] [[fun τ u F => F = [[(b5, .cells #[.int .i64 a0.1, .int .i64 (a0.2.1.getD 0 0), .int .i64 (a0.2.1.getD 1 0), .int .i64 (a0.2.1.getD 2 0), .int .i64 (a0.2.1.getD 3 0), .int .i64 (a0.2.1.getD 4 0), .int .i64 (a0.2.1.getD 5 0), v15, v13, .string a0.2.2.2.2.1, .string a0.2.2.2.2.2] 39 (0, 0))]], fun τ u F => F = [[(b5, .cells #[.int .i64 a0.1, .int .i64 (a0.2.1.getD 0 0), .int .i64 (a0.2.1.getD 1 0), .int .i64 (a0.2.1.getD 2 0), .int .i64 (a0.2.1.getD 3 0), .int .i64 (a0.2.1.getD 4 0), .int .i64 (a0.2.1.getD 5 0), v15, v13, .string (a0.2.2.2.2.1.extract 0 (min (a0.2.2.2.2.1.size : Int) 80).toNat), .string a0.2.2.2.2.2] 39 (0, 0))]]]] rfl z_mix rfl ⟨fun _ _ _ _ _ => trivial, trivial⟩ ⟨⟨fun _ _ _ _ hl h => h, ⟨fun _ _ _ _ hl h => h, trivial⟩⟩, trivial⟩ rfl rfl ?_ (allB_cons (allB_cons (allB_cons (allB_cons (allB_cons (allB_cons (allB_cons (allB_cons (allB_cons (allB_cons (allB_cons (allB_cons (allB_cons (allB_cons (allB_cons (allB_cons allB_nil (p4 dA)) ?_) (p4 dA)) ?_) (p4 dA)) (p4 dA)) ?_) (p4 dA)) ?_) (p4 dA)) ?_) (p4 dA)) (p4 dA)) ?_) (p4 dA)) ?_) ?_
 ·exact rfl
 ·intro ρ' τ u Fv pool rs hl hI hu hd hout hw hk
  obtain ⟨_, e0, rfl⟩ := hd 0 rfl _ rfl
  have hI0 := hI
  obtain rfl := hI
  refine st_gs [[(b6, .cells #[.int .i64 0, .int .i64 0, .int .i64 0, .int .i64 0, .int .i64 0, .int .i64 0, .int .i64 0, .slice none 0 0, .slice none 0 0, .string (bstr []), .string (bstr [])] 39 (0, 0))], [(b5, .cells #[.int .i64 a0.1, .int .i64 (a0.2.1.getD 0 0), .int .i64 (a0.2.1.getD 1 0), .int .i64 (a0.2.1.getD 2 0), .int .i64 (a0.2.1.getD 3 0), .int .i64 (a0.2.1.getD 4 0), .int .i64 (a0.2.1.getD 5 0), v15, v13, .string a0.2.2.2.2.1, .string a0.2.2.2.2.2] 39 (0, 0))], pool] rfl ?_
  refine o_load (j := 1) (v := .string a0.2.2.2.2.1) rfl rfl rfl z_sc9 e0 rfl rfl ?_
  exact hk _ _ (Sto.Le.refl _) rfl
 ·intro ρ' τ u Fv pool rs hl hI hu hd hout hw hk
  obtain ⟨_, e2, rfl⟩ := hd 2 rfl _ rfl
  have hI0 := hI
  obtain rfl := hI
  refine st_gs [[(b6, .cells #[.int .i64 0, .int .i64 0, .int .i64 0, .int .i64 0, .int .i64 0, .int .i64 0, .int .i64 0, .slice none 0 0, .slice none 0 0, .string (bstr []), .string (bstr [])] 39 (0, 0))], [(b5, .cells #[.int .i64 a0.1, .int .i64 (a0.2.1.getD 0 0), .int .i64 (a0.2.1.getD 1 0), .int .i64 (a0.2.1.getD 2 0), .int .i64 (a0.2.1.getD 3 0), .int .i64 (a0.2.1.getD 4 0), .int .i64 (a0.2.1.getD 5 0), v15, v13, .string a0.2.2.2.2.1, .string a0.2.2.2.2.2] 39 (0, 0))], pool] rfl ?_
  refine o_load (j := 1) (v := .string a0.2.2.2.2.1) rfl rfl rfl z_sc9 e2 rfl rfl ?_
  exact hk _ _ (Sto.Le.refl _) rfl
 ·intro ρ' τ pool rs hl hd hout hw hk
  obtain ⟨_, e1, rfl⟩ := hd 1 rfl _ rfl
  obtain ⟨_, e5, rfl⟩ := hd 5 rfl _ rfl
  refine o_sliceSh rfl rfl rfl Tryd.underlying9 e1 e5 hf18 hf19 ?_
  exact hk _ _ (Sto.Le.refl _) rfl
 ·intro ρ' τ u Fv pool rs hl hI hu hd hout hw hk
  obtain ⟨_, e7, rfl⟩ := hd 7 rfl _ rfl
  have hI0 := hI
  obtain rfl := hI
  refine st_gs [[(b6, .cells #[.int .i64 0, .int .i64 0, .int .i64 0, .int .i64 0, .int .i64 0, .int .i64 0, .int .i64 0, .slice none 0 0, .slice none 0 0, .string (bstr []), .string (bstr [])] 39 (0, 0))], [(b5, .cells #[.int .i64 a0.1, .int .i64 (a0.2.1.getD 0 0), .int .i64 (a0.2.1.getD 1 0), .int .i64 (a0.2.1.getD 2 0), .int .i64 (a0.2.1.getD 3 0), .int .i64 (a0.2.1.getD 4 0), .int .i64 (a0.2.1.getD 5 0), v15, v13, .string a0.2.2.2.2.1, .string a0.2.2.2.2.2] 39 (0, 0))], pool] rfl ?_
  refine o_load (j := 1) (v := .string a0.2.2.2.2.2) rfl rfl rfl z_sc9 e7 rfl rfl ?_
  exact hk _ _ (Sto.Le.refl _) rfl
 ·intro ρ' τ u Fv pool rs hl hI hu hd hout hw hk
  obtain ⟨_, e9, rfl⟩ := hd 9 rfl _ rfl
  have hI0 := hI
  obtain rfl := hI
  refine st_gs [[(b6, .cells #[.int .i64 0, .int .i64 0, .int .i64 0, .int .i64 0, .int .i64 0, .int .i64 0, .int .i64 0, .slice none 0 0, .slice none 0 0, .string (bstr []), .string (bstr [])] 39 (0, 0))], [(b5, .cells #[.int .i64 a0.1, .int .i64 (a0.2.1.getD 0 0), .int .i64 (a0.2.1.getD 1 0), .int .i64 (a0.2.1.getD 2 0), .int .i64 (a0.2.1.getD 3 0), .int .i64 (a0.2.1.getD 4 0), .int .i64 (a0.2.1.getD 5 0), v15, v13, .string a0.2.2.2.2.1, .string a0.2.2.2.2.2] 39 (0, 0))], pool] rfl ?_
  refine o_load (j := 1) (v := .string a0.2.2.2.2.2) rfl rfl rfl z_sc9 e9 rfl rfl ?_
  exact hk _ _ (Sto.Le.refl _) rfl
 ·intro ρ' τ pool rs hl hd hout hw hk
  obtain ⟨_, e8, rfl⟩ := hd 8 rfl _ rfl
  obtain ⟨_, e12, rfl⟩ := hd 12 rfl _ rfl
  refine o_sliceSh rfl rfl rfl Tryd.underlying9 e8 e12 hf20 hf21 ?_
  exact hk _ _ (Sto.Le.refl _) rfl
 ·intro ρ' τ u Fv pool rs hl hI hu hd hout hw hk
  obtain ⟨_, e6, rfl⟩ := hd 6 rfl _ rfl
  obtain ⟨_, e14, rfl⟩ := hd 14 rfl _ rfl
  have hI0 := hI
  obtain rfl := hI
  refine st_gs [[(b6, .cells #[.int .i64 0, .int .i64 0, .int .i64 0, .int .i64 0, .int .i64 0, .int .i64 0, .int .i64 0, .slice none 0 0, .slice none 0 0, .string (bstr []), .string (bstr [])] 39 (0, 0))], [(b5, .cells #[.int .i64 a0.1, .int .i64 (a0.2.1.getD 0 0), .int .i64 (a0.2.1.getD 1 0), .int .i64 (a0.2.1.getD 2 0), .int .i64 (a0.2.1.getD 3 0), .int .i64 (a0.2.1.getD 4 0), .int .i64 (a0.2.1.getD 5 0), v15, v13, .string a0.2.2.2.2.1, .string a0.2.2.2.2.2] 39 (0, 0))], pool] rfl ?_
  refine o_store (j := 1) (vs := [.string (a0.2.2.2.2.1.extract 0 (min (a0.2.2.2.2.1.size : Int) 80).toNat)]) (cs' := [.int .i64 a0.1, .int .i64 (a0.2.1.getD 0 0), .int .i64 (a0.2.1.getD 1 0), .int .i64 (a0.2.1.getD 2 0), .int .i64 (a0.2.1.getD 3 0), .int .i64 (a0.2.1.getD 4 0), .int .i64 (a0.2.1.getD 5 0), v15, v13, .string (a0.2.2.2.2.1.extract 0 (min (a0.2.2.2.2.1.size : Int) 80).toNat), .string a0.2.2.2.2.2]) rfl rfl rfl z_size9 e14 e6 rfl (ones_cons rfl ones_nil) rfl rfl rfl ?_
  refine st_gs [[(b6, .cells #[.int .i64 0, .int .i64 0, .int .i64 0, .int .i64 0, .int .i64 0, .int .i64 0, .int .i64 0, .slice none 0 0, .slice none 0 0, .string (bstr []), .string (bstr [])] 39 (0, 0))], [(b5, .cells #[.int .i64 a0.1, .int .i64 (a0.2.1.getD 0 0), .int .i64 (a0.2.1.getD 1 0), .int .i64 (a0.2.1.getD 2 0), .int .i64 (a0.2.1.getD 3 0), .int .i64 (a0.2.1.getD 4 0), .int .i64 (a0.2.1.getD 5 0), v15, v13, .string (a0.2.2.2.2.1.extract 0 (min (a0.2.2.2.2.1.size : Int) 80).toNat), .string a0.2.2.2.2.2] 39 (0, 0))], pool] rfl ?_
  exact hk _ _ [[(b5, .cells #[.int .i64 a0.1, .int .i64 (a0.2.1.getD 0 0), .int .i64 (a0.2.1.getD 1 0), .int .i64 (a0.2.1.getD 2 0), .int .i64 (a0.2.1.getD 3 0), .int .i64 (a0.2.1.getD 4 0), .int .i64 (a0.2.1.getD 5 0), v15, v13, .string (a0.2.2.2.2.1.extract 0 (min (a0.2.2.2.2.1.size : Int) 80).toNat), .string a0.2.2.2.2.2] 39 (0, 0))]] (Sto.Le.refl _) trivial (by exact rfl)
 intro ρ' τ22 vals u Fv hl22 hI hu hv hout
 obtain rfl := hI
 refine st_gs [[(b6, .cells #[.int .i64 0, .int .i64 0, .int .i64 0, .int .i64 0, .int .i64 0, .int .i64 0, .int .i64 0, .slice none 0 0, .slice none 0 0, .string (bstr []), .string (bstr [])] 39 (0, 0))], [(b5, .cells #[.int .i64 a0.1, .int .i64 (a0.2.1.getD 0 0), .int .i64 (a0.2.1.getD 1 0), .int .i64 (a0.2.1.getD 2 0), .int .i64 (a0.2.1.getD 3 0), .int .i64 (a0.2.1.getD 4 0), .int .i64 (a0.2.1.getD 5 0), v15, v13, .string (a0.2.2.2.2.1.extract 0 (min (a0.2.2.2.2.1.size : Int) 80).toNat), .string a0.2.2.2.2.2] 39 (0, 0))]] rfl ?_
 refine st_env (ρ' := [(32, .string (a0.2.2.2.2.2.extract 0 (min (a0.2.2.2.2.2.size : Int) 80).toNat)), (1, .pointer (some ⟨b5, 0, none⟩)), (2, .pointer (some ⟨b6, 0, none⟩))]) ⟨(lv4 hv 13 rfl rfl rfl), (hout 1 rfl).trans rfl, (hout 2 rfl).trans rfl, trivial⟩ ?_
 refine ZZ 6 [1, 1] rfl rfl ?_
 refine o_store (j := 0) (vs := [.int .i64 a0.1, .int .i64 (a0.2.1.getD 0 0), .int .i64 (a0.2.1.getD 1 0), .int .i64 (a0.2.1.getD 2 0), .int .i64 (a0.2.1.getD 3 0), .int .i64 (a0.2.1.getD 4 0), .int .i64 (a0.2.1.getD 5 0), v15, v13, .string (a0.2.2.2.2.1.extract 0 (min (a0.2.2.2.2.1.size : Int) 80).toNat), .string (a0.2.2.2.2.2.extract 0 (min (a0.2.2.2.2.2.size : Int) 80).toNat)]) (cs' := [.int .i64 a0.1, .int .i64 (a0.2.1.getD 0 0), .int .i64 (a0.2.1.getD 1 0), .int .i64 (a0.2.1.getD 2 0), .int .i64 (a0.2.1.getD 3 0), .int .i64 (a0.2.1.getD 4 0), .int .i64 (a0.2.1.getD 5 0), v15, v13, .string (a0.2.2.2.2.1.extract 0 (min (a0.2.2.2.2.1.size : Int) 80).toNat), .string (a0.2.2.2.2.2.extract 0 (min (a0.2.2.2.2.2.size : Int) 80).toNat)]) rfl rfl rfl z_size39 rfl rfl rfl (ones_cons rfl (ones_cons rfl (ones_cons rfl (ones_cons rfl (ones_cons rfl (ones_cons rfl (ones_cons rfl (ones_cons (hs16.up hl22).one' (ones_cons (hs14.up hl22).one' (ones_cons rfl (ones_cons rfl ones_nil))))))))))) rfl rfl rfl ?_
 refine st_gs [[(b6, .cells #[.int .i64 a0.1, .int .i64 (a0.2.1.getD 0 0), .int .i64 (a0.2.1.getD 1 0), .int .i64 (a0.2.1.getD 2 0), .int .i64 (a0.2.1.getD 3 0), .int .i64 (a0.2.1.getD 4 0), .int .i64 (a0.2.1.getD 5 0), v15, v13, .string (a0.2.2.2.2.1.extract 0 (min (a0.2.2.2.2.1.size : Int) 80).toNat), .string (a0.2.2.2.2.2.extract 0 (min (a0.2.2.2.2.2.size : Int) 80).toNat)] 39 (0, 0))], [(b5, .cells #[.int .i64 a0.1, .int .i64 (a0.2.1.getD 0 0), .int .i64 (a0.2.1.getD 1 0), .int .i64 (a0.2.1.getD 2 0), .int .i64 (a0.2.1.getD 3 0), .int .i64 (a0.2.1.getD 4 0), .int .i64 (a0.2.1.getD 5 0), v15, v13, .string (a0.2.2.2.2.1.extract 0 (min (a0.2.2.2.2.1.size : Int) 80).toNat), .string (a0.2.2.2.2.2.extract 0 (min (a0.2.2.2.2.2.size : Int) 80).toNat)] 39 (0, 0))]] rfl ?_
 refine st_end ?_
 obtain rfl := Eq.symm h
 exact st_retC (gs' := []) [.agg #[.int .i64 a0.1, .int .i64 (a0.2.1.getD 0 0), .int .i64 (a0.2.1.getD 1 0), .int .i64 (a0.2.1.getD 2 0), .int .i64 (a0.2.1.getD 3 0), .int .i64 (a0.2.1.getD 4 0), .int .i64 (a0.2.1.getD 5 0), v15, v13, .string (a0.2.2.2.2.1.extract 0 (min (a0.2.2.2.2.1.size : Int) 80).toNat), .string (a0.2.2.2.2.2.extract 0 (min (a0.2.2.2.2.2.size : Int) 80).toNat)]] Tryd.func16 ⟨⟨_, _, _, _, rfl, mem_flat 0 rfl, fun w hw => cellOfN (vs := [.int .i64 a0.1, .int .i64 (a0.2.1.getD 0 0), .int .i64 (a0.2.1.getD 1 0), .int .i64 (a0.2.1.getD 2 0), .int .i64 (a0.2.1.getD 3 0), .int .i64 (a0.2.1.getD 4 0), .int .i64 (a0.2.1.getD 5 0), v15, v13, .string (a0.2.2.2.2.1.extract 0 (min (a0.2.2.2.2.1.size : Int) 80).toNat), .string (a0.2.2.2.2.2.extract 0 (min (a0.2.2.2.2.2.size : Int) 80).toNat)]) z_agg39 rfl w hw⟩, trivial⟩ (by simp) (hl17.trans hl22) ⟨_, _, rfl, rfl, (hs16.up hl22), (hs14.up hl22)⟩
theorem slices_Clone_msg_Point_msg_Point_ok {a0 : List (Int × Int)} {v1 : Value} {r : (List (Int × Int))} (h : slices_Clone_msg_Point_msg_Point a0 r) (σ : Sto) (hs2 : Sl (kP (kI .i64) (kI .i64)) σ v1 a0) :
    Does Tryd.prog 54 [v1] σ [] (fun v τ gs => ∃ (v18 : Value), gs = [] ∧ v18 = v ∧ Sl (kP (kI .i64) (kI .i64)) τ v18 r) := by
 refine call_of Tryd.func54 Tryd.ntmps54 rfl rfl (fun cs fs => ?_)
 refine Z 8 rfl ?_
 refine o_slNil rfl rfl rfl Tryd.underlying36 rfl hs2 rfl (fun b3 hb4 => ?_)
 replace h := h b3 hb4
 refine st_end ?_
 refine st_if rfl h (fun h => ?_) (fun h => ?_)
 ·refine Z 4 rfl ?_
  obtain rfl := Eq.symm h
  exact st_ret (gs' := []) Tryd.func54 rfl (List.Sublist.refl _) (Sto.Le.refl _) ⟨_, rfl, rfl, Sl.nil⟩
 ·refine Z 3 rfl ?_
  refine o_lit (dk := (kP (kI .i64) (kI .i64))) (xs := ([] : List (Int × Int))) (ps := []) (cs := []) rfl rfl rfl z_slT36 z_zero109 trivial rfl rfl rfl rfl Kd.Many.nil (fun v5 g6 ho7 => ?_)
  refine o_move rfl rfl rfl rfl ?_
  obtain ⟨hf11, hf12, h⟩ := h
  refine o_append (dk := (kP (kI .i64) (kI .i64))) (xs := ([] : List (Int × Int))) (ys := a0) rfl rfl rfl rfl z_slT36 rfl ho7 rfl (Sl.src hs2) hf11 hf12 (fun v8 g9 ho10 => ?_)
  refine Z 2 rfl ?_
  refine st_freeze (fun τ13 hl14 hg15 => ?_)
  have hs16 := ho10.freeze hl14 hg15
  obtain rfl := Eq.symm h
  exact st_ret (gs' := []) Tryd.func54 rfl (List.Sublist.refl _) hl14 ⟨_, rfl, rfl, hs16⟩
theorem slices_Clone_int_int_ok {a0 : List Int} {v1 : Value} {r : List Int} (h : slices_Clone_int_int a0 r) (σ : Sto) (hs2 : Sl (kI .i64) σ v1 a0) :
    Does Tryd.prog 55 [v1] σ [] (fun v τ gs => ∃ (v18 : Value), gs = [] ∧ v18 = v ∧ Sl (kI .i64) τ v18 r) := by
 refine call_of Tryd.func55 Tryd.ntmps55 rfl rfl (fun cs fs => ?_)
 refine Z 8 rfl ?_
 refine o_slNil rfl rfl rfl Tryd.underlying37 rfl hs2 rfl (fun b3 hb4 => ?_)
 replace h := h b3 hb4
 refine st_end ?_
 refine st_if rfl h (fun h => ?_) (fun h => ?_)
 ·refine Z 4 rfl ?_
  obtain rfl := Eq.symm h
  exact st_ret (gs' := []) Tryd.func55 rfl (List.Sublist.refl _) (Sto.Le.refl _) ⟨_, rfl, rfl, Sl.nil⟩
 ·refine Z 3 rfl ?_
  refine o_lit (dk := (kI .i64)) (xs := ([] : List Int)) (ps := []) (cs := []) rfl rfl rfl z_slT37 z_zero3 trivial rfl rfl rfl rfl Kd.Many.nil (fun v5 g6 ho7 => ?_)
  refine o_move rfl rfl rfl rfl ?_
  obtain ⟨hf11, hf12, h⟩ := h
  refine o_append (dk := (kI .i64)) (xs := ([] : List Int)) (ys := a0) rfl rfl rfl rfl z_slT37 rfl ho7 rfl (Sl.src hs2) hf11 hf12 (fun v8 g9 ho10 => ?_)
  refine Z 2 rfl ?_
  refine st_freeze (fun τ13 hl14 hg15 => ?_)
  have hs16 := ho10.freeze hl14 hg15
  obtain rfl := Eq.symm h
  exact st_ret (gs' := []) Tryd.func55 rfl (List.Sublist.refl _) hl14 ⟨_, rfl, rfl, hs16⟩
theorem strconv_Itoa_ok {a0 : Int} {r : ByteArray} (h : strconv_Itoa a0 r) (σ : Sto) (hT : Tab Tryd.prog σ) :
    Does Tryd.prog 66 [.int .i64 a0] σ [] (fun v τ gs => gs = [] ∧ .string r = v) := by
 obtain ⟨hk, rfl⟩ := h
 rw [itoa_lib]
 exact does_grow fun w hw => Tryd.strconv_Itoa a0 (i64_lo hk) (i64_hi hk) w (hT w hw)
theorem say_Number_ok {a0 : Int} {r : ByteArray} (h : say_Number a0 r) (σ : Sto) (hT : Tab Tryd.prog σ) :
    Does Tryd.prog 45 [.int .i64 a0] σ [] (fun v τ gs => gs = [] ∧ .string r = v) := by
 refine call_of Tryd.func45 Tryd.ntmps45 rfl rfl (fun cs fs => ?_)
 refine Z 2 rfl ?_
 refine o_assign rfl rfl rfl (ev_str z_str0) ?_
 refine Z 4 rfl ?_
 obtain ⟨r1, hr2, h⟩ := h
 refine st_call (foot := []) rfl rfl rfl rfl rfl rfl (callV_fn z_en66 (strconv_Itoa_ok hr2 σ hT)) ?_
 rintro vτ3 τ3 gsτ3 hl4 ⟨rfl, rfl⟩
 refine Z 2 rfl ?_
 obtain rfl := Eq.symm h
 exact st_ret (gs' := []) Tryd.func45 rfl (List.Sublist.refl _) hl4 ⟨rfl, rfl⟩
theorem law25_Lines_ok {a0 : List ByteArray} {a1 : List ByteArray} {v1 : Value} {v3 : Value} {r : Bool} (h : law25_Lines a0 a1 r) (σ : Sto) (hs2 : Sl kS σ v1 a0) (hs4 : Sl kS σ v3 a1) :
    Does Tryd.prog 20 [v1, v3] σ [] (fun v τ gs => gs = [] ∧ .bool r = v) := by
 refine call_of Tryd.func20 Tryd.ntmps20 rfl rfl (fun cs fs => ?_)
 refine Z 8 rfl ?_
 refine o_lenI rfl rfl rfl z_slT44 rfl hs2 ?_
 refine o_move rfl rfl rfl rfl ?_
 refine o_lenI rfl rfl rfl z_slT44 rfl hs4 ?_
 refine Z 2 rfl ?_
 refine st_if rfl h (fun h => ?_) (fun h => ?_)
 ·refine Z 4 rfl ?_
  obtain rfl := Eq.symm h
  exact st_ret (gs' := []) Tryd.func20 rfl (List.Sublist.refl _) (Sto.Le.refl _) ⟨rfl, rfl⟩
 ·refine Z 2 rfl ?_
  refine st_cut (fun ρ τ5 gs => ∃ (s5 : Unit), law25_Lines_j1 s5 r ∧ σ.Le τ5 ∧ ESub ρ [(4, .bool false)] ∧ gs = []) ?_ (fun hk5 => ?_)
  ·rintro ρ5 τ5 gs5 ⟨s5, h, hl5, hρ, rfl⟩
   refine st_es hρ ?_
   refine Z 4 rfl ?_
   obtain rfl := Eq.symm h
   exact st_ret (gs' := []) Tryd.func20 rfl (List.Sublist.refl _) hl5 ⟨rfl, rfl⟩
  refine Z 4 rfl ?_
  obtain ⟨e6, hL6, hA6⟩ := h
  refine st_loop hL6 (fun (s6 : Int) ρ τ6 gs => σ.Le τ6 ∧ ESub ρ [(0, v1), (1, v3), (4, .bool false), (5, .int .i64 s6)] ∧ gs = []) ⟨Sto.Le.refl _, rfl, rfl⟩ ?_
  rintro s6 o6 h he6 ρ6 τ6 gs6 ⟨hl6, hρ, rfl⟩ hn6
  refine st_es hρ ?_
  refine Z 5 rfl ?_
  refine o_lenI rfl rfl rfl z_slT44 rfl (hs2.up hl6) ?_
  refine Z 2 rfl ?_
  refine st_if rfl h (fun h => ?_) (fun h => ?_)
  ·refine Z 4 rfl ?_
   obtain ⟨q7, hf8, q12, hf13, h⟩ := h
   refine st_draw 9 (dl [.v (v1), .v (.int .i64 s6), .t fun τ v => ∃ (b9 : Nat) (of10 : Nat) (vsb9 : List Value), (.pointer (some ⟨b9, of10, none⟩) : Value) = v ∧ CelN τ ⟨b9, of10, none⟩ vsb9 ∧ kS.rep τ vsb9 q7, .v (.string q7), .v (v3), .v (.int .i64 s6), .t fun τ v => ∃ (b14 : Nat) (of15 : Nat) (vsb14 : List Value), (.pointer (some ⟨b14, of15, none⟩) : Value) = v ∧ CelN τ ⟨b14, of15, none⟩ vsb14 ∧ kS.rep τ vsb14 q12, .v (.string q12), .v (.bool (!(decide (q7 = q12))))]) (fun _ _ => []) z_mix rfl (dl_mono ⟨fun _ _ _ hl ⟨b9, of10, vsb9, hv, hc11, hrepb9⟩ => ⟨b9, of10, vsb9, hv, hc11.up hl, Kd.mono _ hl hrepb9⟩, ⟨fun _ _ _ hl ⟨b14, of15, vsb14, hv, hc16, hrepb14⟩ => ⟨b14, of15, vsb14, hv, hc16.up hl, Kd.mono _ hl hrepb14⟩, trivial⟩⟩) (allB_cons (allB_cons (allB_cons (allB_cons (allB_cons (allB_cons (allB_cons (allB_cons (allB_cons allB_nil (p1 dA)) (p1 dA)) ?_) ?_) (p1 dA)) (p1 dA)) ?_) ?_) (p1 dA)) ?_
   ·intro ρ' τ pool rs hl hd hout hk
    obtain ⟨_, e0, rfl⟩ := hd 0 rfl
    obtain ⟨_, e1, rfl⟩ := hd 1 rfl
    refine o_index rfl rfl rfl z_slT44 rfl e0 (hs2.up (hl6.trans hl)) e1 hf8 (fun b9 of10 vsb9 hc11 hrepb9 => ?_)
    exact st_addNil (hk _ _ (Sto.Le.refl _) ⟨b9, of10, _, rfl, hc11, hrepb9⟩)
   ·intro ρ' τ pool rs hl hd hout hk
    obtain ⟨_, e2, b9, of10, vsb9, rfl, hc11, hrepb9⟩ := hd 2 rfl
    have hrepb9 := hrepb9
    obtain rfl := hrepb9
    refine o_loadI (v := .string q7) rfl rfl rfl z_sc9 e2 (hc11 0 _ rfl) ?_
    exact st_addNil (hk _ _ (Sto.Le.refl _) rfl)
   ·intro ρ' τ pool rs hl hd hout hk
    obtain ⟨_, e4, rfl⟩ := hd 4 rfl
    obtain ⟨_, e5, rfl⟩ := hd 5 rfl
    refine o_index rfl rfl rfl z_slT44 rfl e4 (hs4.up (hl6.trans hl)) e5 hf13 (fun b14 of15 vsb14 hc16 hrepb14 => ?_)
    exact st_addNil (hk _ _ (Sto.Le.refl _) ⟨b14, of15, _, rfl, hc16, hrepb14⟩)
   ·intro ρ' τ pool rs hl hd hout hk
    obtain ⟨_, e6, b14, of15, vsb14, rfl, hc16, hrepb14⟩ := hd 6 rfl
    have hrepb14 := hrepb14
    obtain rfl := hrepb14
    refine o_loadI (v := .string q12) rfl rfl rfl z_sc9 e6 (hc16 0 _ rfl) ?_
    exact st_addNil (hk _ _ (Sto.Le.refl _) rfl)
   intro ρ' τ17 vals hl17 hv hout
   refine st_ord [] _ rfl ?_
   refine st_env (ρ' := [(25, .bool (!(decide (q7 = q12)))), (0, v1), (1, v3), (4, .bool false), (5, .int .i64 s6)]) ⟨(lv1 hv 8 rfl rfl), (hout 0 rfl).trans rfl, (hout 1 rfl).trans rfl, (hout 4 rfl).trans rfl, (hout 5 rfl).trans rfl, trivial⟩ ?_
   refine st_end ?_
   refine st_if rfl h (fun h => ?_) (fun h => ?_)
   ·refine Z 4 rfl ?_
    obtain rfl := he6 _ h
    replace h := hA6
    obtain rfl := Eq.symm h
    exact st_ret (gs' := []) Tryd.func20 rfl (List.Sublist.refl _) (hl6.trans hl17) ⟨rfl, rfl⟩
   ·refine Z 7 rfl ?_
    exact hn6 _ _ _ _ h ⟨(hl6.trans hl17), rfl, rfl⟩
  ·refine st_exit rfl ?_
   obtain rfl := he6 _ h
   replace h := hA6
   exact hk5 _ _ _ ⟨(), h, hl6, rfl, rfl⟩
theorem fleet_New_ok  {r : (List (Int × (Int × Int × Int × Int × Int × Bool × Bool × Int × Int × List (Int × Int) × Int × Int)) × List ((Int × Int) × List Int))} (h : fleet_New r) (σ : Sto)  :
    Does Tryd.prog 15 [] σ [] (fun v τ gs => ∃ (b8 : Nat) (v9 : Value) (g10 : Grp) (v11 : Value) (g12 : Grp), gs = [[(b8, .cells [v9, v11].toArray 66 (0, 0))], g10, g12] ∧ .pointer (some ⟨b8, 0, none⟩) = v ∧ Mp (Value.int .i64) (rK (kP (kI .i64) (kP (kI .i64) (kP (kI .i64) (kP (kI .i64) (kP (kI .i64) (kP kB (kP kB (kP (kI .i64) (kP (kI .i64) (kP (kSl (kP (kI .i64) (kI .i64))) (kP (kI .i64) (kI .i64))))))))))))) τ v9 r.1 g10 ∧ Mp kPr (rSl (kI .i64)) τ v11 r.2 g12) := by
 refine call_of Tryd.func15 Tryd.ntmps15 rfl rfl (fun cs fs => ?_)
 refine Z 6 rfl ?_
 refine o_makeMap (fk := (Value.int .i64)) (rv := (rK (kP (kI .i64) (kP (kI .i64) (kP (kI .i64) (kP (kI .i64) (kP (kI .i64) (kP kB (kP kB (kP (kI .i64) (kP (kI .i64) (kP (kSl (kP (kI .i64) (kI .i64))) (kP (kI .i64) (kI .i64)))))))))))))) rfl rfl rfl (fun v1 g2 ho3 => ?_)
 refine o_makeMap (fk := kPr) (rv := (rSl (kI .i64))) rfl rfl rfl (fun v4 g5 ho6 => ?_)
 refine o_build (ps := [(0, [v1]), (1, [v4])]) (cs := [v1, v4]) rfl rfl rfl z_struct66 ⟨rfl, ⟨_, rfl, (oneL_mp ho3)⟩, ⟨rfl, ⟨_, rfl, (oneL_mp ho6)⟩, trivial⟩⟩ rfl ?_
 refine o_box (cs := [v1, v4]) rfl rfl rfl rfl rfl (fun b7 => ?_)
 refine Z 2 rfl ?_
 refine st_ord [0, 1, 0] _ rfl ?_
 obtain rfl := Eq.symm h
 exact st_ret (gs' := [[(b7, .cells #[v1, v4] 66 (0, 0))], g2, g5]) Tryd.func15 rfl (List.Sublist.refl _) (Sto.Le.refl _) ⟨_, _, _, _, _, rfl, rfl, ho3, ho6⟩
theorem field_robot_ok  {r : (ByteArray × Int × Int × Int × Int × Int × Int)} (h : field_robot r) (σ : Sto)  :
    Does Tryd.prog 68 [] σ [] (fun v τ gs => gs = [] ∧ .agg [.string r.1, .int .i64 r.2.1, .int .i64 r.2.2.1, .int .i64 r.2.2.2.1, .int .i64 r.2.2.2.2.1, .int .i64 r.2.2.2.2.2.1, .int .i64 r.2.2.2.2.2.2].toArray = v) := by
 refine call_of Tryd.func68 Tryd.ntmps68 rfl rfl (fun cs fs => ?_)
 refine Z 2 rfl ?_
 refine o_alloc rfl rfl rfl z_zero102 (fun b1 => ?_)
 refine Z 3 rfl ?_
 refine o_build (ps := [(0, [.string (bstr [114, 111, 98, 111, 116])]), (1, [.int .i64 1]), (2, [.int .i64 0]), (3, [.int .i64 0]), (4, [.int .i64 65535]), (5, [.int .i64 1]), (6, [.int .i64 0])]) (cs := [.string (bstr [114, 111, 98, 111, 116]), .int .i64 1, .int .i64 0, .int .i64 0, .int .i64 65535, .int .i64 1, .int .i64 0]) rfl rfl rfl z_struct102 ⟨rfl, ⟨_, (ev_str z_str30), rfl⟩, ⟨rfl, ⟨_, rfl, rfl⟩, ⟨rfl, ⟨_, rfl, rfl⟩, ⟨rfl, ⟨_, rfl, rfl⟩, ⟨rfl, ⟨_, rfl, rfl⟩, ⟨rfl, ⟨_, rfl, rfl⟩, ⟨rfl, ⟨_, rfl, rfl⟩, trivial⟩⟩⟩⟩⟩⟩⟩ rfl ?_
 refine ZZ 2 [0] rfl rfl ?_
 obtain rfl := Eq.symm h
 exact st_retC (gs' := []) [.agg #[.string (bstr [114, 111, 98, 111, 116]), .int .i64 1, .int .i64 0, .int .i64 0, .int .i64 65535, .int .i64 1, .int .i64 0]] Tryd.func68 ⟨⟨_, _, _, _, rfl, mem_flat 0 rfl, fun w hw => cellOfN (vs := [.string (bstr [114, 111, 98, 111, 116]), .int .i64 1, .int .i64 0, .int .i64 0, .int .i64 65535, .int .i64 1, .int .i64 0]) z_agg102 rfl w hw⟩, trivial⟩ (by simp) (Sto.Le.refl _) ⟨rfl, rfl⟩
theorem field_Of_ok {a0 : Int} {r : (List (ByteArray × Int × Int × Int × Int × Int × Int))} (h : field_Of a0 r) (σ : Sto)  :
    Does Tryd.prog 49 [.int .i64 a0] σ [] (fun v τ gs => ∃ (v61 : Value), gs = [] ∧ v61 = v ∧ Sl (kP kS (kP (kI .i64) (kP (kI .i64) (kP (kI .i64) (kP (kI .i64) (kP (kI .i64) (kI .i64))))))) τ v61 r) := by
 refine call_of Tryd.func49 Tryd.ntmps49 rfl rfl (fun cs fs => ?_)
 refine Z 15 rfl ?_
 refine st_if rfl h (fun h => ?_) (fun h => ?_)
 ·refine Z 2 rfl ?_
  obtain ⟨r1, hr2, h⟩ := h
  refine st_call (foot := []) rfl rfl rfl rfl rfl rfl (callV_fn z_en68 (field_robot_ok hr2 σ)) ?_
  rintro vτ3 τ3 gsτ3 hl4 ⟨rfl, rfl⟩
  refine o_build (ps := [(0, [.string (bstr [115, 112, 101, 101, 100])]), (1, [.int .i64 1]), (2, [.int .i64 1]), (3, [.int .i64 1]), (4, [.int .i64 5000]), (5, [.int .i64 1]), (6, [.int .i64 0])]) (cs := [.string (bstr [115, 112, 101, 101, 100]), .int .i64 1, .int .i64 1, .int .i64 1, .int .i64 5000, .int .i64 1, .int .i64 0]) rfl rfl rfl z_struct102 ⟨rfl, ⟨_, (ev_str z_str31), rfl⟩, ⟨rfl, ⟨_, rfl, rfl⟩, ⟨rfl, ⟨_, rfl, rfl⟩, ⟨rfl, ⟨_, rfl, rfl⟩, ⟨rfl, ⟨_, rfl, rfl⟩, ⟨rfl, ⟨_, rfl, rfl⟩, ⟨rfl, ⟨_, rfl, rfl⟩, trivial⟩⟩⟩⟩⟩⟩⟩ rfl ?_
  refine o_build (ps := [(0, [.string (bstr [97, 99, 99, 101, 108])]), (1, [.int .i64 1]), (2, [.int .i64 2]), (3, [.int .i64 1]), (4, [.int .i64 10000]), (5, [.int .i64 2]), (6, [.int .i64 500])]) (cs := [.string (bstr [97, 99, 99, 101, 108]), .int .i64 1, .int .i64 2, .int .i64 1, .int .i64 10000, .int .i64 2, .int .i64 500]) rfl rfl rfl z_struct102 ⟨rfl, ⟨_, (ev_str z_str32), rfl⟩, ⟨rfl, ⟨_, rfl, rfl⟩, ⟨rfl, ⟨_, rfl, rfl⟩, ⟨rfl, ⟨_, rfl, rfl⟩, ⟨rfl, ⟨_, rfl, rfl⟩, ⟨rfl, ⟨_, rfl, rfl⟩, ⟨rfl, ⟨_, rfl, rfl⟩, trivial⟩⟩⟩⟩⟩⟩⟩ rfl ?_
  refine o_build (ps := [(0, [.string (bstr [112, 97, 116, 104])]), (1, [.int .i64 3]), (2, [.int .i64 (-1)]), (3, [.int .i64 1]), (4, [.int .i64 16]), (5, [.int .i64 1]), (6, [.int .i64 0])]) (cs := [.string (bstr [112, 97, 116, 104]), .int .i64 3, .int .i64 (-1), .int .i64 1, .int .i64 16, .int .i64 1, .int .i64 0]) rfl rfl rfl z_struct102 ⟨rfl, ⟨_, (ev_str z_str33), rfl⟩, ⟨rfl, ⟨_, rfl, rfl⟩, ⟨rfl, ⟨_, rfl, rfl⟩, ⟨rfl, ⟨_, rfl, rfl⟩, ⟨rfl, ⟨_, rfl, rfl⟩, ⟨rfl, ⟨_, rfl, rfl⟩, ⟨rfl, ⟨_, rfl, rfl⟩, trivial⟩⟩⟩⟩⟩⟩⟩ rfl ?_
  refine o_build (ps := [(0, [.string (bstr [116, 97, 103])]), (1, [.int .i64 6]), (2, [.int .i64 (-1)]), (3, [.int .i64 0]), (4, [.int .i64 16]), (5, [.int .i64 2]), (6, [.int .i64 0])]) (cs := [.string (bstr [116, 97, 103]), .int .i64 6, .int .i64 (-1), .int .i64 0, .int .i64 16, .int .i64 2, .int .i64 0]) rfl rfl rfl z_struct102 ⟨rfl, ⟨_, (ev_str z_str34), rfl⟩, ⟨rfl, ⟨_, rfl, rfl⟩, ⟨rfl, ⟨_, rfl, rfl⟩, ⟨rfl, ⟨_, rfl, rfl⟩, ⟨rfl, ⟨_, rfl, rfl⟩, ⟨rfl, ⟨_, rfl, rfl⟩, ⟨rfl, ⟨_, rfl, rfl⟩, trivial⟩⟩⟩⟩⟩⟩⟩ rfl ?_
  refine o_litE (eP eS (eP (eI .i64) (eP (eI .i64) (eP (eI .i64) (eP (eI .i64) (eP (eI .i64) (eI .i64))))))) [r1, ((bstr [115, 112, 101, 101, 100]), 1, 1, 1, 5000, 1, 0), ((bstr [97, 99, 99, 101, 108]), 1, 2, 1, 10000, 2, 500), ((bstr [112, 97, 116, 104]), 3, (-1), 1, 16, 1, 0), ((bstr [116, 97, 103]), 6, (-1), 0, 16, 2, 0)] rfl rfl rfl z_slT99 z_zero102 ⟨rfl, ⟨_, rfl, rfl⟩, ⟨rfl, ⟨_, rfl, rfl⟩, ⟨rfl, ⟨_, rfl, rfl⟩, ⟨rfl, ⟨_, rfl, rfl⟩, ⟨rfl, ⟨_, rfl, rfl⟩, trivial⟩⟩⟩⟩⟩ rfl rfl rfl rfl (fun v5 g6 ho7 => ?_)
  refine Z 2 rfl ?_
  refine st_freeze (fun τ8 hl9 hg10 => ?_)
  have hs11 := ho7.freeze hl9 hg10
  obtain rfl := Eq.symm h
  exact st_ret (gs' := []) Tryd.func49 rfl (List.Sublist.refl _) (hl4.trans hl9) ⟨_, rfl, rfl, hs11⟩
 ·refine Z 5 rfl ?_
  refine st_if rfl h (fun h => ?_) (fun h => ?_)
  ·refine Z 2 rfl ?_
   obtain ⟨r13, hr14, h⟩ := h
   refine st_call (foot := []) rfl rfl rfl rfl rfl rfl (callV_fn z_en68 (field_robot_ok hr14 σ)) ?_
   rintro vτ15 τ15 gsτ15 hl16 ⟨rfl, rfl⟩
   refine o_build (ps := [(0, [.string (bstr [114, 101, 97, 115, 111, 110])]), (1, [.int .i64 1]), (2, [.int .i64 1]), (3, [.int .i64 0]), (4, [.int .i64 15]), (5, [.int .i64 1]), (6, [.int .i64 0])]) (cs := [.string (bstr [114, 101, 97, 115, 111, 110]), .int .i64 1, .int .i64 1, .int .i64 0, .int .i64 15, .int .i64 1, .int .i64 0]) rfl rfl rfl z_struct102 ⟨rfl, ⟨_, (ev_str z_str35), rfl⟩, ⟨rfl, ⟨_, rfl, rfl⟩, ⟨rfl, ⟨_, rfl, rfl⟩, ⟨rfl, ⟨_, rfl, rfl⟩, ⟨rfl, ⟨_, rfl, rfl⟩, ⟨rfl, ⟨_, rfl, rfl⟩, ⟨rfl, ⟨_, rfl, rfl⟩, trivial⟩⟩⟩⟩⟩⟩⟩ rfl ?_
   refine o_build (ps := [(0, [.string (bstr [122, 111, 110, 101])]), (1, [.int .i64 1]), (2, [.int .i64 2]), (3, [.int .i64 0]), (4, [.int .i64 4095]), (5, [.int .i64 2]), (6, [.int .i64 0])]) (cs := [.string (bstr [122, 111, 110, 101]), .int .i64 1, .int .i64 2, .int .i64 0, .int .i64 4095, .int .i64 2, .int .i64 0]) rfl rfl rfl z_struct102 ⟨rfl, ⟨_, (ev_str z_str36), rfl⟩, ⟨rfl, ⟨_, rfl, rfl⟩, ⟨rfl, ⟨_, rfl, rfl⟩, ⟨rfl, ⟨_, rfl, rfl⟩, ⟨rfl, ⟨_, rfl, rfl⟩, ⟨rfl, ⟨_, rfl, rfl⟩, ⟨rfl, ⟨_, rfl, rfl⟩, trivial⟩⟩⟩⟩⟩⟩⟩ rfl ?_
   refine o_litE (eP eS (eP (eI .i64) (eP (eI .i64) (eP (eI .i64) (eP (eI .i64) (eP (eI .i64) (eI .i64))))))) [r13, ((bstr [114, 101, 97, 115, 111, 110]), 1, 1, 0, 15, 1, 0), ((bstr [122, 111, 110, 101]), 1, 2, 0, 4095, 2, 0)] rfl rfl rfl z_slT99 z_zero102 ⟨rfl, ⟨_, rfl, rfl⟩, ⟨rfl, ⟨_, rfl, rfl⟩, ⟨rfl, ⟨_, rfl, rfl⟩, trivial⟩⟩⟩ rfl rfl rfl rfl (fun v17 g18 ho19 => ?_)
   refine Z 2 rfl ?_
   refine st_freeze (fun τ20 hl21 hg22 => ?_)
   have hs23 := ho19.freeze hl21 hg22
   obtain rfl := Eq.symm h
   exact st_ret (gs' := []) Tryd.func49 rfl (List.Sublist.refl _) (hl16.trans hl21) ⟨_, rfl, rfl, hs23⟩
  ·refine Z 5 rfl ?_
   refine st_if rfl h (fun h => ?_) (fun h => ?_)
   ·refine Z 2 rfl ?_
    obtain ⟨r25, hr26, h⟩ := h
    refine st_call (foot := []) rfl rfl rfl rfl rfl rfl (callV_fn z_en68 (field_robot_ok hr26 σ)) ?_
    rintro vτ27 τ27 gsτ27 hl28 ⟨rfl, rfl⟩
    refine o_build (ps := [(0, [.string (bstr [122, 111, 110, 101])]), (1, [.int .i64 1]), (2, [.int .i64 1]), (3, [.int .i64 0]), (4, [.int .i64 4095]), (5, [.int .i64 1]), (6, [.int .i64 0])]) (cs := [.string (bstr [122, 111, 110, 101]), .int .i64 1, .int .i64 1, .int .i64 0, .int .i64 4095, .int .i64 1, .int .i64 0]) rfl rfl rfl z_struct102 ⟨rfl, ⟨_, (ev_str z_str36), rfl⟩, ⟨rfl, ⟨_, rfl, rfl⟩, ⟨rfl, ⟨_, rfl, rfl⟩, ⟨rfl, ⟨_, rfl, rfl⟩, ⟨rfl, ⟨_, rfl, rfl⟩, ⟨rfl, ⟨_, rfl, rfl⟩, ⟨rfl, ⟨_, rfl, rfl⟩, trivial⟩⟩⟩⟩⟩⟩⟩ rfl ?_
    refine o_build (ps := [(0, [.string (bstr [108, 101, 97, 115, 101])]), (1, [.int .i64 1]), (2, [.int .i64 2]), (3, [.int .i64 1]), (4, [.int .i64 255]), (5, [.int .i64 2]), (6, [.int .i64 1])]) (cs := [.string (bstr [108, 101, 97, 115, 101]), .int .i64 1, .int .i64 2, .int .i64 1, .int .i64 255, .int .i64 2, .int .i64 1]) rfl rfl rfl z_struct102 ⟨rfl, ⟨_, (ev_str z_str37), rfl⟩, ⟨rfl, ⟨_, rfl, rfl⟩, ⟨rfl, ⟨_, rfl, rfl⟩, ⟨rfl, ⟨_, rfl, rfl⟩, ⟨rfl, ⟨_, rfl, rfl⟩, ⟨rfl, ⟨_, rfl, rfl⟩, ⟨rfl, ⟨_, rfl, rfl⟩, trivial⟩⟩⟩⟩⟩⟩⟩ rfl ?_
    refine o_build (ps := [(0, [.string (bstr [99, 101, 108, 108, 115])]), (1, [.int .i64 4]), (2, [.int .i64 (-1)]), (3, [.int .i64 1]), (4, [.int .i64 32]), (5, [.int .i64 1]), (6, [.int .i64 0])]) (cs := [.string (bstr [99, 101, 108, 108, 115]), .int .i64 4, .int .i64 (-1), .int .i64 1, .int .i64 32, .int .i64 1, .int .i64 0]) rfl rfl rfl z_struct102 ⟨rfl, ⟨_, (ev_str z_str38), rfl⟩, ⟨rfl, ⟨_, rfl, rfl⟩, ⟨rfl, ⟨_, rfl, rfl⟩, ⟨rfl, ⟨_, rfl, rfl⟩, ⟨rfl, ⟨_, rfl, rfl⟩, ⟨rfl, ⟨_, rfl, rfl⟩, ⟨rfl, ⟨_, rfl, rfl⟩, trivial⟩⟩⟩⟩⟩⟩⟩ rfl ?_
    refine o_litE (eP eS (eP (eI .i64) (eP (eI .i64) (eP (eI .i64) (eP (eI .i64) (eP (eI .i64) (eI .i64))))))) [r25, ((bstr [122, 111, 110, 101]), 1, 1, 0, 4095, 1, 0), ((bstr [108, 101, 97, 115, 101]), 1, 2, 1, 255, 2, 1), ((bstr [99, 101, 108, 108, 115]), 4, (-1), 1, 32, 1, 0)] rfl rfl rfl z_slT99 z_zero102 ⟨rfl, ⟨_, rfl, rfl⟩, ⟨rfl, ⟨_, rfl, rfl⟩, ⟨rfl, ⟨_, rfl, rfl⟩, ⟨rfl, ⟨_, rfl, rfl⟩, trivial⟩⟩⟩⟩ rfl rfl rfl rfl (fun v29 g30 ho31 => ?_)
    refine Z 2 rfl ?_
    refine st_freeze (fun τ32 hl33 hg34 => ?_)
    have hs35 := ho31.freeze hl33 hg34
    obtain rfl := Eq.symm h
    exact st_ret (gs' := []) Tryd.func49 rfl (List.Sublist.refl _) (hl28.trans hl33) ⟨_, rfl, rfl, hs35⟩
   ·refine Z 5 rfl ?_
    refine st_if rfl h (fun h => ?_) (fun h => ?_)
    ·refine Z 2 rfl ?_
     obtain ⟨r37, hr38, h⟩ := h
     refine st_call (foot := []) rfl rfl rfl rfl rfl rfl (callV_fn z_en68 (field_robot_ok hr38 σ)) ?_
     rintro vτ39 τ39 gsτ39 hl40 ⟨rfl, rfl⟩
     refine o_build (ps := [(0, [.string (bstr [120])]), (1, [.int .i64 2]), (2, [.int .i64 1]), (3, [.int .i64 (-1000000)]), (4, [.int .i64 1000000]), (5, [.int .i64 1]), (6, [.int .i64 0])]) (cs := [.string (bstr [120]), .int .i64 2, .int .i64 1, .int .i64 (-1000000), .int .i64 1000000, .int .i64 1, .int .i64 0]) rfl rfl rfl z_struct102 ⟨rfl, ⟨_, (ev_str z_str39), rfl⟩, ⟨rfl, ⟨_, rfl, rfl⟩, ⟨rfl, ⟨_, rfl, rfl⟩, ⟨rfl, ⟨_, rfl, rfl⟩, ⟨rfl, ⟨_, rfl, rfl⟩, ⟨rfl, ⟨_, rfl, rfl⟩, ⟨rfl, ⟨_, rfl, rfl⟩, trivial⟩⟩⟩⟩⟩⟩⟩ rfl ?_
     refine o_build (ps := [(0, [.string (bstr [121])]), (1, [.int .i64 2]), (2, [.int .i64 2]), (3, [.int .i64 (-1000000)]), (4, [.int .i64 1000000]), (5, [.int .i64 1]), (6, [.int .i64 0])]) (cs := [.string (bstr [121]), .int .i64 2, .int .i64 2, .int .i64 (-1000000), .int .i64 1000000, .int .i64 1, .int .i64 0]) rfl rfl rfl z_struct102 ⟨rfl, ⟨_, (ev_str z_str40), rfl⟩, ⟨rfl, ⟨_, rfl, rfl⟩, ⟨rfl, ⟨_, rfl, rfl⟩, ⟨rfl, ⟨_, rfl, rfl⟩, ⟨rfl, ⟨_, rfl, rfl⟩, ⟨rfl, ⟨_, rfl, rfl⟩, ⟨rfl, ⟨_, rfl, rfl⟩, trivial⟩⟩⟩⟩⟩⟩⟩ rfl ?_
     refine o_build (ps := [(0, [.string (bstr [104, 101, 97, 100, 105, 110, 103])]), (1, [.int .i64 1]), (2, [.int .i64 3]), (3, [.int .i64 0]), (4, [.int .i64 35999]), (5, [.int .i64 1]), (6, [.int .i64 0])]) (cs := [.string (bstr [104, 101, 97, 100, 105, 110, 103]), .int .i64 1, .int .i64 3, .int .i64 0, .int .i64 35999, .int .i64 1, .int .i64 0]) rfl rfl rfl z_struct102 ⟨rfl, ⟨_, (ev_str z_str41), rfl⟩, ⟨rfl, ⟨_, rfl, rfl⟩, ⟨rfl, ⟨_, rfl, rfl⟩, ⟨rfl, ⟨_, rfl, rfl⟩, ⟨rfl, ⟨_, rfl, rfl⟩, ⟨rfl, ⟨_, rfl, rfl⟩, ⟨rfl, ⟨_, rfl, rfl⟩, trivial⟩⟩⟩⟩⟩⟩⟩ rfl ?_
     refine o_build (ps := [(0, [.string (bstr [98, 97, 116, 116, 101, 114, 121])]), (1, [.int .i64 1]), (2, [.int .i64 4]), (3, [.int .i64 0]), (4, [.int .i64 1000]), (5, [.int .i64 1]), (6, [.int .i64 0])]) (cs := [.string (bstr [98, 97, 116, 116, 101, 114, 121]), .int .i64 1, .int .i64 4, .int .i64 0, .int .i64 1000, .int .i64 1, .int .i64 0]) rfl rfl rfl z_struct102 ⟨rfl, ⟨_, (ev_str z_str42), rfl⟩, ⟨rfl, ⟨_, rfl, rfl⟩, ⟨rfl, ⟨_, rfl, rfl⟩, ⟨rfl, ⟨_, rfl, rfl⟩, ⟨rfl, ⟨_, rfl, rfl⟩, ⟨rfl, ⟨_, rfl, rfl⟩, ⟨rfl, ⟨_, rfl, rfl⟩, trivial⟩⟩⟩⟩⟩⟩⟩ rfl ?_
     refine o_build (ps := [(0, [.string (bstr [115, 117, 114, 101])]), (1, [.int .i64 1]), (2, [.int .i64 5]), (3, [.int .i64 0]), (4, [.int .i64 100]), (5, [.int .i64 2]), (6, [.int .i64 100])]) (cs := [.string (bstr [115, 117, 114, 101]), .int .i64 1, .int .i64 5, .int .i64 0, .int .i64 100, .int .i64 2, .int .i64 100]) rfl rfl rfl z_struct102 ⟨rfl, ⟨_, (ev_str z_str43), rfl⟩, ⟨rfl, ⟨_, rfl, rfl⟩, ⟨rfl, ⟨_, rfl, rfl⟩, ⟨rfl, ⟨_, rfl, rfl⟩, ⟨rfl, ⟨_, rfl, rfl⟩, ⟨rfl, ⟨_, rfl, rfl⟩, ⟨rfl, ⟨_, rfl, rfl⟩, trivial⟩⟩⟩⟩⟩⟩⟩ rfl ?_
     refine o_litE (eP eS (eP (eI .i64) (eP (eI .i64) (eP (eI .i64) (eP (eI .i64) (eP (eI .i64) (eI .i64))))))) [r37, ((bstr [120]), 2, 1, (-1000000), 1000000, 1, 0), ((bstr [121]), 2, 2, (-1000000), 1000000, 1, 0), ((bstr [104, 101, 97, 100, 105, 110, 103]), 1, 3, 0, 35999, 1, 0), ((bstr [98, 97, 116, 116, 101, 114, 121]), 1, 4, 0, 1000, 1, 0), ((bstr [115, 117, 114, 101]), 1, 5, 0, 100, 2, 100)] rfl rfl rfl z_slT99 z_zero102 ⟨rfl, ⟨_, rfl, rfl⟩, ⟨rfl, ⟨_, rfl, rfl⟩, ⟨rfl, ⟨_, rfl, rfl⟩, ⟨rfl, ⟨_, rfl, rfl⟩, ⟨rfl, ⟨_, rfl, rfl⟩, ⟨rfl, ⟨_, rfl, rfl⟩, trivial⟩⟩⟩⟩⟩⟩ rfl rfl rfl rfl (fun v41 g42 ho43 => ?_)
     refine Z 2 rfl ?_
     refine st_freeze (fun τ44 hl45 hg46 => ?_)
     have hs47 := ho43.freeze hl45 hg46
     obtain rfl := Eq.symm h
     exact st_ret (gs' := []) Tryd.func49 rfl (List.Sublist.refl _) (hl40.trans hl45) ⟨_, rfl, rfl, hs47⟩
    ·refine Z 5 rfl ?_
     refine st_if rfl h (fun h => ?_) (fun h => ?_)
     ·refine Z 2 rfl ?_
      obtain ⟨r49, hr50, h⟩ := h
      refine st_call (foot := []) rfl rfl rfl rfl rfl rfl (callV_fn z_en68 (field_robot_ok hr50 σ)) ?_
      rintro vτ51 τ51 gsτ51 hl52 ⟨rfl, rfl⟩
      refine o_build (ps := [(0, [.string (bstr [99, 111, 100, 101])]), (1, [.int .i64 1]), (2, [.int .i64 1]), (3, [.int .i64 1]), (4, [.int .i64 9999]), (5, [.int .i64 1]), (6, [.int .i64 0])]) (cs := [.string (bstr [99, 111, 100, 101]), .int .i64 1, .int .i64 1, .int .i64 1, .int .i64 9999, .int .i64 1, .int .i64 0]) rfl rfl rfl z_struct102 ⟨rfl, ⟨_, (ev_str z_str44), rfl⟩, ⟨rfl, ⟨_, rfl, rfl⟩, ⟨rfl, ⟨_, rfl, rfl⟩, ⟨rfl, ⟨_, rfl, rfl⟩, ⟨rfl, ⟨_, rfl, rfl⟩, ⟨rfl, ⟨_, rfl, rfl⟩, ⟨rfl, ⟨_, rfl, rfl⟩, trivial⟩⟩⟩⟩⟩⟩⟩ rfl ?_
      refine o_build (ps := [(0, [.string (bstr [115, 101, 118, 101, 114, 105, 116, 121])]), (1, [.int .i64 1]), (2, [.int .i64 2]), (3, [.int .i64 0]), (4, [.int .i64 4]), (5, [.int .i64 1]), (6, [.int .i64 0])]) (cs := [.string (bstr [115, 101, 118, 101, 114, 105, 116, 121]), .int .i64 1, .int .i64 2, .int .i64 0, .int .i64 4, .int .i64 1, .int .i64 0]) rfl rfl rfl z_struct102 ⟨rfl, ⟨_, (ev_str z_str45), rfl⟩, ⟨rfl, ⟨_, rfl, rfl⟩, ⟨rfl, ⟨_, rfl, rfl⟩, ⟨rfl, ⟨_, rfl, rfl⟩, ⟨rfl, ⟨_, rfl, rfl⟩, ⟨rfl, ⟨_, rfl, rfl⟩, ⟨rfl, ⟨_, rfl, rfl⟩, trivial⟩⟩⟩⟩⟩⟩⟩ rfl ?_
      refine o_build (ps := [(0, [.string (bstr [112, 97, 114, 116])]), (1, [.int .i64 1]), (2, [.int .i64 3]), (3, [.int .i64 0]), (4, [.int .i64 255]), (5, [.int .i64 2]), (6, [.int .i64 0])]) (cs := [.string (bstr [112, 97, 114, 116]), .int .i64 1, .int .i64 3, .int .i64 0, .int .i64 255, .int .i64 2, .int .i64 0]) rfl rfl rfl z_struct102 ⟨rfl, ⟨_, (ev_str z_str46), rfl⟩, ⟨rfl, ⟨_, rfl, rfl⟩, ⟨rfl, ⟨_, rfl, rfl⟩, ⟨rfl, ⟨_, rfl, rfl⟩, ⟨rfl, ⟨_, rfl, rfl⟩, ⟨rfl, ⟨_, rfl, rfl⟩, ⟨rfl, ⟨_, rfl, rfl⟩, trivial⟩⟩⟩⟩⟩⟩⟩ rfl ?_
      refine o_build (ps := [(0, [.string (bstr [116, 105, 109, 101, 115])]), (1, [.int .i64 1]), (2, [.int .i64 4]), (3, [.int .i64 1]), (4, [.int .i64 1000000]), (5, [.int .i64 2]), (6, [.int .i64 1])]) (cs := [.string (bstr [116, 105, 109, 101, 115]), .int .i64 1, .int .i64 4, .int .i64 1, .int .i64 1000000, .int .i64 2, .int .i64 1]) rfl rfl rfl z_struct102 ⟨rfl, ⟨_, (ev_str z_str47), rfl⟩, ⟨rfl, ⟨_, rfl, rfl⟩, ⟨rfl, ⟨_, rfl, rfl⟩, ⟨rfl, ⟨_, rfl, rfl⟩, ⟨rfl, ⟨_, rfl, rfl⟩, ⟨rfl, ⟨_, rfl, rfl⟩, ⟨rfl, ⟨_, rfl, rfl⟩, trivial⟩⟩⟩⟩⟩⟩⟩ rfl ?_
      refine o_build (ps := [(0, [.string (bstr [116, 101, 120, 116])]), (1, [.int .i64 5]), (2, [.int .i64 (-1)]), (3, [.int .i64 0]), (4, [.int .i64 64]), (5, [.int .i64 1]), (6, [.int .i64 0])]) (cs := [.string (bstr [116, 101, 120, 116]), .int .i64 5, .int .i64 (-1), .int .i64 0, .int .i64 64, .int .i64 1, .int .i64 0]) rfl rfl rfl z_struct102 ⟨rfl, ⟨_, (ev_str z_str23), rfl⟩, ⟨rfl, ⟨_, rfl, rfl⟩, ⟨rfl, ⟨_, rfl, rfl⟩, ⟨rfl, ⟨_, rfl, rfl⟩, ⟨rfl, ⟨_, rfl, rfl⟩, ⟨rfl, ⟨_, rfl, rfl⟩, ⟨rfl, ⟨_, rfl, rfl⟩, trivial⟩⟩⟩⟩⟩⟩⟩ rfl ?_
      refine o_litE (eP eS (eP (eI .i64) (eP (eI .i64) (eP (eI .i64) (eP (eI .i64) (eP (eI .i64) (eI .i64))))))) [r49, ((bstr [99, 111, 100, 101]), 1, 1, 1, 9999, 1, 0), ((bstr [115, 101, 118, 101, 114, 105, 116, 121]), 1, 2, 0, 4, 1, 0), ((bstr [112, 97, 114, 116]), 1, 3, 0, 255, 2, 0), ((bstr [116, 105, 109, 101, 115]), 1, 4, 1, 1000000, 2, 1), ((bstr [116, 101, 120, 116]), 5, (-1), 0, 64, 1, 0)] rfl rfl rfl z_slT99 z_zero102 ⟨rfl, ⟨_, rfl, rfl⟩, ⟨rfl, ⟨_, rfl, rfl⟩, ⟨rfl, ⟨_, rfl, rfl⟩, ⟨rfl, ⟨_, rfl, rfl⟩, ⟨rfl, ⟨_, rfl, rfl⟩, ⟨rfl, ⟨_, rfl, rfl⟩, trivial⟩⟩⟩⟩⟩⟩ rfl rfl rfl rfl (fun v53 g54 ho55 => ?_)
      refine Z 2 rfl ?_
      refine st_freeze (fun τ56 hl57 hg58 => ?_)
      have hs59 := ho55.freeze hl57 hg58
      obtain rfl := Eq.symm h
      exact st_ret (gs' := []) Tryd.func49 rfl (List.Sublist.refl _) (hl52.trans hl57) ⟨_, rfl, rfl, hs59⟩
     ·refine Z 6 rfl ?_
      obtain rfl := Eq.symm h
      exact st_ret (gs' := []) Tryd.func49 rfl (List.Sublist.refl _) (Sto.Le.refl _) ⟨_, rfl, rfl, Sl.nil⟩
theorem msg_many_ok {a0 : Int} {a1 : ByteArray × Int × Int × Int × Int × Int × Int} {r : Int} (h : msg_many a0 a1 r) (σ : Sto)  :
    Does Tryd.prog 83 [.int .i64 a0, .agg [.string a1.1, .int .i64 a1.2.1, .int .i64 a1.2.2.1, .int .i64 a1.2.2.2.1, .int .i64 a1.2.2.2.2.1, .int .i64 a1.2.2.2.2.2.1, .int .i64 a1.2.2.2.2.2.2].toArray] σ [] (fun v τ gs => gs = [] ∧ .int .i64 r = v) := by
 refine call_of Tryd.func83 Tryd.ntmps83 rfl rfl (fun cs fs => ?_)
 refine Z 2 rfl ?_
 refine o_boxC rfl rfl rfl rfl rfl rfl (fun b1 => ?_)
 refine ZZ 12 [0] rfl rfl ?_
 refine st_if rfl h (fun h => ?_) (fun h => ?_)
 ·refine Z 4 rfl ?_
  refine st_ord [] _ rfl ?_
  obtain rfl := Eq.symm h
  exact st_ret (gs' := []) Tryd.func83 rfl (List.Sublist.refl _) (Sto.Le.refl _) ⟨rfl, rfl⟩
 ·refine ZZ 8 [0] rfl rfl ?_
  refine st_if rfl h (fun h => ?_) (fun h => ?_)
  ·refine Z 4 rfl ?_
   refine st_ord [] _ rfl ?_
   obtain rfl := Eq.symm h
   exact st_ret (gs' := []) Tryd.func83 rfl (List.Sublist.refl _) (Sto.Le.refl _) ⟨rfl, rfl⟩
  ·refine Z 6 rfl ?_
   refine st_ord [] _ rfl ?_
   obtain rfl := Eq.symm h
   exact st_ret (gs' := []) Tryd.func83 rfl (List.Sublist.refl _) (Sto.Le.refl _) ⟨rfl, rfl⟩
theorem msg_path_ok {a0 : List (Int × Int)} {a1 : ByteArray × Int × Int × Int × Int × Int × Int} {v1 : Value} {r : Int} (h : msg_path a0 a1 r) (σ : Sto) (hs2 : Sl (kP (kI .i64) (kI .i64)) σ v1 a0) :
    Does Tryd.prog 69 [v1, .agg [.string a1.1, .int .i64 a1.2.1, .int .i64 a1.2.2.1, .int .i64 a1.2.2.2.1, .int .i64 a1.2.2.2.2.1, .int .i64 a1.2.2.2.2.2.1, .int .i64 a1.2.2.2.2.2.2].toArray] σ [] (fun v τ gs => gs = [] ∧ .int .i64 r = v) := by
 refine call_of Tryd.func69 Tryd.ntmps69 rfl rfl (fun cs fs => ?_)
 refine Z 2 rfl ?_
 refine o_boxC rfl rfl rfl rfl rfl rfl (fun b3 => ?_)
 refine Z 6 rfl ?_
 refine o_lenI rfl rfl rfl z_slT36 rfl hs2 ?_
 refine ZZ 1 [0] rfl rfl ?_
 obtain ⟨r4, hr5, h⟩ := h
 refine st_call (foot := []) rfl rfl rfl rfl rfl rfl (callV_fn z_en83 (msg_many_ok hr5 σ)) ?_
 rintro vτ6 τ6 gsτ6 hl7 ⟨rfl, rfl⟩
 refine Z 7 rfl ?_
 refine st_if rfl h (fun h => ?_) (fun h => ?_)
 ·refine Z 5 rfl ?_
  refine st_ord [] _ rfl ?_
  obtain rfl := Eq.symm h
  exact st_ret (gs' := []) Tryd.func69 rfl (List.Sublist.refl _) hl7 ⟨rfl, rfl⟩
 ·refine Z 2 rfl ?_
  refine st_cut (fun ρ τ8 gs => ∃ (s8 : Unit), msg_path_j1 s8 r ∧ τ6.Le τ8 ∧ ESub ρ [(4, .int .i64 0)] ∧ gs = []) ?_ (fun hk8 => ?_)
  ·rintro ρ8 τ8 gs8 ⟨s8, h, hl8, hρ, rfl⟩
   refine st_es hρ ?_
   refine Z 4 rfl ?_
   obtain rfl := Eq.symm h
   exact st_ret (gs' := []) Tryd.func69 rfl (List.Sublist.refl _) (hl7.trans hl8) ⟨rfl, rfl⟩
  refine Z 3 rfl ?_
  refine o_lenI rfl rfl rfl z_slT36 rfl (hs2.up hl7) ?_
  refine Z 2 rfl ?_
  obtain ⟨e9, hL9, hA9⟩ := h
  refine st_ord [] _ rfl ?_
  refine st_loop hL9 (fun (s9 : Int) ρ τ9 gs => τ6.Le τ9 ∧ ESub ρ [(4, .int .i64 0), (15, v1), (16, .int .i64 (a0.length : Int)), (17, .int .i64 s9)] ∧ gs = []) ⟨Sto.Le.refl _, rfl, rfl⟩ ?_
  rintro s9 o9 h he9 ρ9 τ9 gs9 ⟨hl9, hρ, rfl⟩ hn9
  refine st_es hρ ?_
  refine Z 5 rfl ?_
  refine st_if rfl h (fun h => ?_) (fun h => ?_)
  ·refine Z 5 rfl ?_
   obtain ⟨q10, hf11, h⟩ := h
   refine o_index rfl rfl rfl z_slT36 rfl rfl (hs2.up (hl7.trans hl9)) rfl hf11 (fun b12 of13 vs hc14 hrep => ?_)
   obtain ⟨_, _, rfl, rfl, rfl⟩ := hrep
   refine o_loadIN (vs := [.int .i64 q10.1, .int .i64 q10.2]) rfl rfl rfl z_agg109 rfl rfl (celn_part 0 rfl hc14) ?_
   refine o_alloc rfl rfl rfl z_zero109 (fun b15 => ?_)
   refine ZZ 3 [0] rfl rfl ?_
   refine st_cut (fun ρ τ16 gs => ∃ (s16 : Bool), msg_path_j3 s9 s16 o9 ∧ τ9.Le τ16 ∧ ESub ρ [(4, .int .i64 0), (15, v1), (16, .int .i64 (a0.length : Int)), (17, .int .i64 s9), (34, .bool s16)] ∧ gs = []) ?_ (fun hk16 => ?_)
   ·rintro ρ16 τ16 gs16 ⟨s16, h, hl16, hρ, rfl⟩
    refine st_es hρ ?_
    refine st_if rfl h (fun h => ?_) (fun h => ?_)
    ·refine Z 4 rfl ?_
     obtain rfl := he9 _ h
     replace h := hA9
     obtain rfl := Eq.symm h
     exact st_ret (gs' := []) Tryd.func69 rfl (List.Sublist.refl _) ((hl7.trans hl9).trans hl16) ⟨rfl, rfl⟩
    ·refine Z 6 rfl ?_
     exact hn9 _ _ _ _ h ⟨(hl9.trans hl16), rfl, rfl⟩
   refine ZZ 7 [0, 0] rfl rfl ?_
   refine o_mif rfl rfl rfl rfl h (fun h => ?_) (fun h => ?_)
   ·refine Z 8 rfl ?_
    refine st_ord [] _ rfl ?_
    exact hk16 _ _ _ ⟨true, h, (Sto.Le.refl _), rfl, rfl⟩
   ·refine ZZ 8 [0, 0] rfl rfl ?_
    refine st_ord [] _ rfl ?_
    exact hk16 _ _ _ ⟨(decide ((min q10.1 q10.2) < (-1000000))), h, (Sto.Le.refl _), rfl, rfl⟩
  ·refine st_exit rfl ?_
   obtain rfl := he9 _ h
   replace h := hA9
   exact hk8 _ _ _ ⟨(), h, hl9, rfl, rfl⟩
theorem msg_cells_ok {a0 : List Int} {a1 : ByteArray × Int × Int × Int × Int × Int × Int} {v1 : Value} {r : Int} (h : msg_cells a0 a1 r) (σ : Sto) (hs2 : Sl (kI .i64) σ v1 a0) :
    Does Tryd.prog 70 [v1, .agg [.string a1.1, .int .i64 a1.2.1, .int .i64 a1.2.2.1, .int .i64 a1.2.2.2.1, .int .i64 a1.2.2.2.2.1, .int .i64 a1.2.2.2.2.2.1, .int .i64 a1.2.2.2.2.2.2].toArray] σ [] (fun v τ gs => gs = [] ∧ .int .i64 r = v) := by
 refine call_of Tryd.func70 Tryd.ntmps70 rfl rfl (fun cs fs => ?_)
 refine Z 2 rfl ?_
 refine o_boxC rfl rfl rfl rfl rfl rfl (fun b3 => ?_)
 refine Z 6 rfl ?_
 refine o_lenI rfl rfl rfl z_slT37 rfl hs2 ?_
 refine ZZ 1 [0] rfl rfl ?_
 obtain ⟨r4, hr5, h⟩ := h
 refine st_call (foot := []) rfl rfl rfl rfl rfl rfl (callV_fn z_en83 (msg_many_ok hr5 σ)) ?_
 rintro vτ6 τ6 gsτ6 hl7 ⟨rfl, rfl⟩
 refine Z 7 rfl ?_
 refine st_if rfl h (fun h => ?_) (fun h => ?_)
 ·refine Z 5 rfl ?_
  refine st_ord [] _ rfl ?_
  obtain rfl := Eq.symm h
  exact st_ret (gs' := []) Tryd.func70 rfl (List.Sublist.refl _) hl7 ⟨rfl, rfl⟩
 ·refine Z 6 rfl ?_
  refine st_cut (fun ρ τ8 gs => ∃ (s8 : Unit), msg_cells_j1 s8 r ∧ τ6.Le τ8 ∧ ESub ρ [(4, .int .i64 0)] ∧ gs = []) ?_ (fun hk8 => ?_)
  ·rintro ρ8 τ8 gs8 ⟨s8, h, hl8, hρ, rfl⟩
   refine st_es hρ ?_
   refine Z 4 rfl ?_
   obtain rfl := Eq.symm h
   exact st_ret (gs' := []) Tryd.func70 rfl (List.Sublist.refl _) (hl7.trans hl8) ⟨rfl, rfl⟩
  refine Z 3 rfl ?_
  refine o_lenI rfl rfl rfl z_slT37 rfl (hs2.up hl7) ?_
  refine Z 2 rfl ?_
  obtain ⟨e9, hL9, hA9⟩ := h
  refine st_ord [] _ rfl ?_
  refine st_loop hL9 (fun (s9 : Int × Int) ρ τ9 gs => τ6.Le τ9 ∧ ESub ρ [(4, .int .i64 0), (6, .int .i64 s9.1), (16, v1), (17, .int .i64 (a0.length : Int)), (18, .int .i64 s9.2)] ∧ gs = []) ⟨Sto.Le.refl _, rfl, rfl⟩ ?_
  rintro s9 o9 h he9 ρ9 τ9 gs9 ⟨hl9, hρ, rfl⟩ hn9
  refine st_es hρ ?_
  refine Z 5 rfl ?_
  refine st_if rfl h (fun h => ?_) (fun h => ?_)
  ·refine Z 5 rfl ?_
   obtain ⟨q10, hf11, h⟩ := h
   refine o_index rfl rfl rfl z_slT37 rfl rfl (hs2.up (hl7.trans hl9)) rfl hf11 (fun b12 of13 vs hc14 hrep => ?_)
   obtain rfl := hrep
   refine o_loadI (v := .int .i64 q10) rfl rfl rfl z_sc3 rfl (hc14 0 _ rfl) ?_
   refine Z 5 rfl ?_
   refine st_cut (fun ρ τ15 gs => ∃ (s15 : Bool), msg_cells_j3 s9 q10 s15 o9 ∧ τ9.Le τ15 ∧ ESub ρ [(4, .int .i64 0), (6, .int .i64 s9.1), (16, v1), (17, .int .i64 (a0.length : Int)), (18, .int .i64 s9.2), (8, .int .i64 q10), (22, .bool s15)] ∧ gs = []) ?_ (fun hk15 => ?_)
   ·rintro ρ15 τ15 gs15 ⟨s15, h, hl15, hρ, rfl⟩
    refine st_es hρ ?_
    refine st_if rfl h (fun h => ?_) (fun h => ?_)
    ·refine Z 4 rfl ?_
     obtain rfl := he9 _ h
     replace h := hA9
     obtain rfl := Eq.symm h
     exact st_ret (gs' := []) Tryd.func70 rfl (List.Sublist.refl _) ((hl7.trans hl9).trans hl15) ⟨rfl, rfl⟩
    ·refine Z 7 rfl ?_
     refine st_if rfl h (fun h => ?_) (fun h => ?_)
     ·refine Z 4 rfl ?_
      obtain rfl := he9 _ h
      replace h := hA9
      obtain rfl := Eq.symm h
      exact st_ret (gs' := []) Tryd.func70 rfl (List.Sublist.refl _) ((hl7.trans hl9).trans hl15) ⟨rfl, rfl⟩
     ·refine Z 11 rfl ?_
      exact hn9 _ _ _ _ h ⟨(hl9.trans hl15), rfl, rfl⟩
   refine Z 3 rfl ?_
   refine o_mif rfl rfl rfl rfl h (fun h => ?_) (fun h => ?_)
   ·refine Z 5 rfl ?_
    exact hk15 _ _ _ ⟨true, h, (Sto.Le.refl _), rfl, rfl⟩
   ·refine Z 5 rfl ?_
    exact hk15 _ _ _ ⟨(decide (65535 < q10)), h, (Sto.Le.refl _), rfl, rfl⟩
  ·refine st_exit rfl ?_
   obtain rfl := he9 _ h
   replace h := hA9
   exact hk8 _ _ _ ⟨(), h, hl9, rfl, rfl⟩
theorem msg_text_ok {a0 : ByteArray} {a1 : ByteArray × Int × Int × Int × Int × Int × Int} {r : Int} (h : msg_text a0 a1 r) (σ : Sto)  :
    Does Tryd.prog 71 [.string a0, .agg [.string a1.1, .int .i64 a1.2.1, .int .i64 a1.2.2.1, .int .i64 a1.2.2.2.1, .int .i64 a1.2.2.2.2.1, .int .i64 a1.2.2.2.2.2.1, .int .i64 a1.2.2.2.2.2.2].toArray] σ [] (fun v τ gs => gs = [] ∧ .int .i64 r = v) := by
 refine call_of Tryd.func71 Tryd.ntmps71 rfl rfl (fun cs fs => ?_)
 refine Z 2 rfl ?_
 refine o_boxC rfl rfl rfl rfl rfl rfl (fun b1 => ?_)
 refine ZZ 8 [0] rfl rfl ?_
 obtain ⟨r2, hr3, h⟩ := h
 refine st_call (foot := []) rfl rfl rfl rfl rfl rfl (callV_fn z_en83 (msg_many_ok hr3 σ)) ?_
 rintro vτ4 τ4 gsτ4 hl5 ⟨rfl, rfl⟩
 refine Z 7 rfl ?_
 refine st_if rfl h (fun h => ?_) (fun h => ?_)
 ·refine Z 5 rfl ?_
  refine st_ord [] _ rfl ?_
  obtain rfl := Eq.symm h
  exact st_ret (gs' := []) Tryd.func71 rfl (List.Sublist.refl _) hl5 ⟨rfl, rfl⟩
 ·refine Z 2 rfl ?_
  refine st_cut (fun ρ τ6 gs => ∃ (s6 : Unit), msg_text_j1 s6 r ∧ τ4.Le τ6 ∧ ESub ρ [(4, .int .i64 0)] ∧ gs = []) ?_ (fun hk6 => ?_)
  ·rintro ρ6 τ6 gs6 ⟨s6, h, hl6, hρ, rfl⟩
   refine st_es hρ ?_
   refine Z 4 rfl ?_
   obtain rfl := Eq.symm h
   exact st_ret (gs' := []) Tryd.func71 rfl (List.Sublist.refl _) (hl5.trans hl6) ⟨rfl, rfl⟩
  refine Z 3 rfl ?_
  obtain ⟨hf11, h⟩ := h
  refine o_bytes rfl rfl rfl Tryd.underlying9 Tryd.underlying138 Tryd.underlying5 rfl hf11 (fun v7 τ8 hl9 hs10 => ?_)
  refine o_lenI rfl rfl rfl z_slT138 rfl hs10 ?_
  refine Z 2 rfl ?_
  obtain ⟨e12, hL12, hA12⟩ := h
  refine st_ord [] _ rfl ?_
  refine st_loop hL12 (fun (s12 : Int) ρ τ12 gs => τ8.Le τ12 ∧ ESub ρ [(4, .int .i64 0), (16, v7), (17, .int .i64 ((bints a0).length : Int)), (18, .int .i64 s12)] ∧ gs = []) ⟨Sto.Le.refl _, rfl, rfl⟩ ?_
  rintro s12 o12 h he12 ρ12 τ12 gs12 ⟨hl12, hρ, rfl⟩ hn12
  refine st_es hρ ?_
  refine Z 5 rfl ?_
  refine st_if rfl h (fun h => ?_) (fun h => ?_)
  ·refine Z 5 rfl ?_
   obtain ⟨q13, hf14, h⟩ := h
   refine o_index rfl rfl rfl z_slT138 rfl rfl (hs10.up hl12) rfl hf14 (fun b15 of16 vs hc17 hrep => ?_)
   obtain rfl := hrep
   refine o_loadI (v := .int .u8 q13) rfl rfl rfl z_sc5 rfl (hc17 0 _ rfl) ?_
   refine Z 3 rfl ?_
   refine st_cut (fun ρ τ18 gs => ∃ (s18 : Bool), msg_text_j3 s12 s18 o12 ∧ τ12.Le τ18 ∧ ESub ρ [(4, .int .i64 0), (16, v7), (17, .int .i64 ((bints a0).length : Int)), (18, .int .i64 s12), (27, .bool s18)] ∧ gs = []) ?_ (fun hk18 => ?_)
   ·rintro ρ18 τ18 gs18 ⟨s18, h, hl18, hρ, rfl⟩
    refine st_es hρ ?_
    refine st_if rfl h (fun h => ?_) (fun h => ?_)
    ·refine Z 4 rfl ?_
     obtain rfl := he12 _ h
     replace h := hA12
     obtain rfl := Eq.symm h
     exact st_ret (gs' := []) Tryd.func71 rfl (List.Sublist.refl _) (((hl5.trans hl9).trans hl12).trans hl18) ⟨rfl, rfl⟩
    ·refine Z 6 rfl ?_
     exact hn12 _ _ _ _ h ⟨(hl12.trans hl18), rfl, rfl⟩
   refine Z 3 rfl ?_
   refine o_mif rfl rfl rfl rfl h (fun h => ?_) (fun h => ?_)
   ·refine Z 4 rfl ?_
    exact hk18 _ _ _ ⟨true, h, (Sto.Le.refl _), rfl, rfl⟩
   ·refine Z 4 rfl ?_
    exact hk18 _ _ _ ⟨(decide (126 < q13)), h, (Sto.Le.refl _), rfl, rfl⟩
  ·refine st_exit rfl ?_
   obtain rfl := he12 _ h
   replace h := hA12
   exact hk6 _ _ _ ⟨(), h, (hl9.trans hl12), rfl, rfl⟩
theorem msg_wrong_ok {a0 : Int × List Int × List (Int × Int) × List Int × ByteArray × ByteArray} {a1 : ByteArray × Int × Int × Int × Int × Int × Int} {v1 : Value} {v2 : Value} {r : Int} (h : msg_wrong a0 a1 r) (σ : Sto) (hs3 : Sl (kP (kI .i64) (kI .i64)) σ v1 a0.2.2.1) (hs4 : Sl (kI .i64) σ v2 a0.2.2.2.1) :
    Does Tryd.prog 50 [.agg [.int .i64 a0.1, .int .i64 (a0.2.1.getD 0 0), .int .i64 (a0.2.1.getD 1 0), .int .i64 (a0.2.1.getD 2 0), .int .i64 (a0.2.1.getD 3 0), .int .i64 (a0.2.1.getD 4 0), .int .i64 (a0.2.1.getD 5 0), v1, v2, .string a0.2.2.2.2.1, .string a0.2.2.2.2.2].toArray, .agg [.string a1.1, .int .i64 a1.2.1, .int .i64 a1.2.2.1, .int .i64 a1.2.2.2.1, .int .i64 a1.2.2.2.2.1, .int .i64 a1.2.2.2.2.2.1, .int .i64 a1.2.2.2.2.2.2].toArray] σ [] (fun v τ gs => gs = [] ∧ .int .i64 r = v) := by
 refine call_of Tryd.func50 Tryd.ntmps50 rfl rfl (fun cs fs => ?_)
 refine Z 2 rfl ?_
 refine o_box (cs := [.int .i64 a0.1, .int .i64 (a0.2.1.getD 0 0), .int .i64 (a0.2.1.getD 1 0), .int .i64 (a0.2.1.getD 2 0), .int .i64 (a0.2.1.getD 3 0), .int .i64 (a0.2.1.getD 4 0), .int .i64 (a0.2.1.getD 5 0), v1, v2, .string a0.2.2.2.2.1, .string a0.2.2.2.2.2]) rfl rfl rfl rfl rfl (fun b5 => ?_)
 refine o_boxC rfl rfl rfl rfl rfl rfl (fun b6 => ?_)
 refine ZZ 14 [0] rfl rfl ?_
 refine st_if rfl h (fun h => ?_) (fun h => ?_)
 ·refine ZZ 5 [1, 0] rfl rfl ?_
  obtain ⟨r7, hr8, h⟩ := h
  refine st_call (foot := []) rfl rfl rfl rfl rfl rfl (callV_fn z_en69 (msg_path_ok hr8 σ hs3)) ?_
  rintro vτ9 τ9 gsτ9 hl10 ⟨rfl, rfl⟩
  refine Z 2 rfl ?_
  refine st_ord [] _ rfl ?_
  obtain rfl := Eq.symm h
  exact st_ret (gs' := []) Tryd.func50 rfl (List.Sublist.refl _) hl10 ⟨rfl, rfl⟩
 ·refine Z 5 rfl ?_
  refine st_if rfl h (fun h => ?_) (fun h => ?_)
  ·refine ZZ 5 [1, 0] rfl rfl ?_
   obtain ⟨r11, hr12, h⟩ := h
   refine st_call (foot := []) rfl rfl rfl rfl rfl rfl (callV_fn z_en70 (msg_cells_ok hr12 σ hs4)) ?_
   rintro vτ13 τ13 gsτ13 hl14 ⟨rfl, rfl⟩
   refine Z 2 rfl ?_
   refine st_ord [] _ rfl ?_
   obtain rfl := Eq.symm h
   exact st_ret (gs' := []) Tryd.func50 rfl (List.Sublist.refl _) hl14 ⟨rfl, rfl⟩
  ·refine Z 5 rfl ?_
   refine st_if rfl h (fun h => ?_) (fun h => ?_)
   ·refine ZZ 5 [1, 0] rfl rfl ?_
    obtain ⟨r15, hr16, h⟩ := h
    refine st_call (foot := []) rfl rfl rfl rfl rfl rfl (callV_fn z_en71 (msg_text_ok hr16 σ)) ?_
    rintro vτ17 τ17 gsτ17 hl18 ⟨rfl, rfl⟩
    refine Z 2 rfl ?_
    refine st_ord [] _ rfl ?_
    obtain rfl := Eq.symm h
    exact st_ret (gs' := []) Tryd.func50 rfl (List.Sublist.refl _) hl18 ⟨rfl, rfl⟩
   ·refine Z 5 rfl ?_
    refine st_if rfl h (fun h => ?_) (fun h => ?_)
    ·refine ZZ 5 [1, 0] rfl rfl ?_
     obtain ⟨r19, hr20, h⟩ := h
     refine st_call (foot := []) rfl rfl rfl rfl rfl rfl (callV_fn z_en71 (msg_text_ok hr20 σ)) ?_
     rintro vτ21 τ21 gsτ21 hl22 ⟨rfl, rfl⟩
     refine Z 2 rfl ?_
     refine st_ord [] _ rfl ?_
     obtain rfl := Eq.symm h
     exact st_ret (gs' := []) Tryd.func50 rfl (List.Sublist.refl _) hl22 ⟨rfl, rfl⟩
    ·refine ZZ 8 [0] rfl rfl ?_
     obtain ⟨hf23, hf24, h⟩ := h
     refine o_indexA rfl rfl rfl z_arr35 rfl rfl hf23 hf24 ?_
     refine o_loadV (j := 1) (a1.2.2.1.toNat) (f := (Value.int .i64)) (zz := 0) (l := 6) (xs := a0.2.1) [.int .i64 a0.1] [v1, v2, .string a0.2.2.2.2.1, .string a0.2.2.2.2.2] rfl rfl rfl z_sc3 rfl rfl (by simp only [List.length_cons, List.length_nil] <;> omega) (by omega) ?_
     refine Z 3 rfl ?_
     refine st_cut (fun ρ τ25 gs => ∃ (s25 : Bool), msg_wrong_j1 s25 r ∧ σ.Le τ25 ∧ ESub ρ [(4, .int .i64 0), (46, .bool s25)] ∧ gs = []) ?_ (fun hk25 => ?_)
     ·rintro ρ25 τ25 gs25 ⟨s25, h, hl25, hρ, rfl⟩
      refine st_es hρ ?_
      refine st_if rfl h (fun h => ?_) (fun h => ?_)
      ·refine Z 4 rfl ?_
       obtain rfl := Eq.symm h
       exact st_ret (gs' := []) Tryd.func50 rfl (List.Sublist.refl _) hl25 ⟨rfl, rfl⟩
      ·refine Z 5 rfl ?_
       obtain rfl := Eq.symm h
       exact st_ret (gs' := []) Tryd.func50 rfl (List.Sublist.refl _) hl25 ⟨rfl, rfl⟩
     refine ZZ 5 [0] rfl rfl ?_
     refine o_mif rfl rfl rfl rfl h (fun h => ?_) (fun h => ?_)
     ·refine Z 6 rfl ?_
      refine st_ord [] _ rfl ?_
      exact hk25 _ _ _ ⟨true, h, (Sto.Le.refl _), rfl, rfl⟩
     ·refine ZZ 6 [0] rfl rfl ?_
      refine st_ord [] _ rfl ?_
      exact hk25 _ _ _ ⟨(decide (a1.2.2.2.2.1 < (a0.2.1.getD a1.2.2.1.toNat 0))), h, (Sto.Le.refl _), rfl, rfl⟩
theorem msg_without_ok {a0 : Int × List Int × List (Int × Int) × List Int × ByteArray × ByteArray} {a1 : ByteArray × Int × Int × Int × Int × Int × Int} {v1 : Value} {v2 : Value} {r : (Int × List Int × List (Int × Int) × List Int × ByteArray × ByteArray)} (h : msg_without a0 a1 r) (σ : Sto) (hs3 : Sl (kP (kI .i64) (kI .i64)) σ v1 a0.2.2.1) (hs4 : Sl (kI .i64) σ v2 a0.2.2.2.1) :
    Does Tryd.prog 51 [.agg [.int .i64 a0.1, .int .i64 (a0.2.1.getD 0 0), .int .i64 (a0.2.1.getD 1 0), .int .i64 (a0.2.1.getD 2 0), .int .i64 (a0.2.1.getD 3 0), .int .i64 (a0.2.1.getD 4 0), .int .i64 (a0.2.1.getD 5 0), v1, v2, .string a0.2.2.2.2.1, .string a0.2.2.2.2.2].toArray, .agg [.string a1.1, .int .i64 a1.2.1, .int .i64 a1.2.2.1, .int .i64 a1.2.2.2.1, .int .i64 a1.2.2.2.2.1, .int .i64 a1.2.2.2.2.2.1, .int .i64 a1.2.2.2.2.2.2].toArray] σ [] (fun v τ gs => ∃ (v15 : Value) (v16 : Value), gs = [] ∧ .agg [.int .i64 r.1, .int .i64 (r.2.1.getD 0 0), .int .i64 (r.2.1.getD 1 0), .int .i64 (r.2.1.getD 2 0), .int .i64 (r.2.1.getD 3 0), .int .i64 (r.2.1.getD 4 0), .int .i64 (r.2.1.getD 5 0), v15, v16, .string r.2.2.2.2.1, .string r.2.2.2.2.2].toArray = v ∧ Sl (kP (kI .i64) (kI .i64)) τ v15 r.2.2.1 ∧ Sl (kI .i64) τ v16 r.2.2.2.1) := by
 refine call_of Tryd.func51 Tryd.ntmps51 rfl rfl (fun cs fs => ?_)
 refine Z 2 rfl ?_
 refine o_box (cs := [.int .i64 a0.1, .int .i64 (a0.2.1.getD 0 0), .int .i64 (a0.2.1.getD 1 0), .int .i64 (a0.2.1.getD 2 0), .int .i64 (a0.2.1.getD 3 0), .int .i64 (a0.2.1.getD 4 0), .int .i64 (a0.2.1.getD 5 0), v1, v2, .string a0.2.2.2.2.1, .string a0.2.2.2.2.2]) rfl rfl rfl rfl rfl (fun b5 => ?_)
 refine o_boxC rfl rfl rfl rfl rfl rfl (fun b6 => ?_)
 refine o_alloc rfl rfl rfl z_zero39 (fun b7 => ?_)
 refine Z 2 rfl ?_
 refine st_cut (fun ρ τ8 gs => ∃ (s8 : Int × Int × Int × Int × Int × Int × (List (Int × Int)) × List Int × ByteArray × ByteArray) (v9 : Value) (v11 : Value), msg_without_j1 a0 s8 r ∧ σ.Le τ8 ∧ ESub ρ [(2, .pointer (some ⟨b5, 0, none⟩)), (4, .pointer (some ⟨b7, 0, none⟩))] ∧ gs = [[(b5, .cells #[.int .i64 a0.1, .int .i64 s8.1, .int .i64 s8.2.1, .int .i64 s8.2.2.1, .int .i64 s8.2.2.2.1, .int .i64 s8.2.2.2.2.1, .int .i64 s8.2.2.2.2.2.1, v9, v11, .string s8.2.2.2.2.2.2.2.2.1, .string s8.2.2.2.2.2.2.2.2.2] 39 (0, 0))], [(b7, .cells #[.int .i64 0, .int .i64 0, .int .i64 0, .int .i64 0, .int .i64 0, .int .i64 0, .int .i64 0, .slice none 0 0, .slice none 0 0, .string (bstr []), .string (bstr [])] 39 (0, 0))]] ∧ Sl (kP (kI .i64) (kI .i64)) τ8 v9 s8.2.2.2.2.2.2.1 ∧ Sl (kI .i64) τ8 v11 s8.2.2.2.2.2.2.2.1) ?_ (fun hk8 => ?_)
 ·rintro ρ8 τ8 gs8 ⟨s8, v9, v11, h, hl8, hρ, rfl, hs10, hs12⟩
  refine st_es hρ ?_
  refine ZZ 3 [0] rfl rfl ?_
  refine o_store (j := 1) (vs := [.int .i64 a0.1, .int .i64 s8.1, .int .i64 s8.2.1, .int .i64 s8.2.2.1, .int .i64 s8.2.2.2.1, .int .i64 s8.2.2.2.2.1, .int .i64 s8.2.2.2.2.2.1, v9, v11, .string s8.2.2.2.2.2.2.2.2.1, .string s8.2.2.2.2.2.2.2.2.2]) (cs' := [.int .i64 a0.1, .int .i64 s8.1, .int .i64 s8.2.1, .int .i64 s8.2.2.1, .int .i64 s8.2.2.2.1, .int .i64 s8.2.2.2.2.1, .int .i64 s8.2.2.2.2.2.1, v9, v11, .string s8.2.2.2.2.2.2.2.2.1, .string s8.2.2.2.2.2.2.2.2.2]) rfl rfl rfl z_size39 rfl rfl rfl (ones_cons rfl (ones_cons rfl (ones_cons rfl (ones_cons rfl (ones_cons rfl (ones_cons rfl (ones_cons rfl (ones_cons hs10.one' (ones_cons hs12.one' (ones_cons rfl (ones_cons rfl ones_nil))))))))))) rfl rfl rfl ?_
  refine st_gs [[(b5, .cells #[.int .i64 a0.1, .int .i64 s8.1, .int .i64 s8.2.1, .int .i64 s8.2.2.1, .int .i64 s8.2.2.2.1, .int .i64 s8.2.2.2.2.1, .int .i64 s8.2.2.2.2.2.1, v9, v11, .string s8.2.2.2.2.2.2.2.2.1, .string s8.2.2.2.2.2.2.2.2.2] 39 (0, 0))], [(b7, .cells #[.int .i64 a0.1, .int .i64 s8.1, .int .i64 s8.2.1, .int .i64 s8.2.2.1, .int .i64 s8.2.2.2.1, .int .i64 s8.2.2.2.2.1, .int .i64 s8.2.2.2.2.2.1, v9, v11, .string s8.2.2.2.2.2.2.2.2.1, .string s8.2.2.2.2.2.2.2.2.2] 39 (0, 0))]] rfl ?_
  refine st_end ?_
  obtain rfl := Eq.symm h
  exact st_retC (gs' := []) [.agg #[.int .i64 a0.1, .int .i64 s8.1, .int .i64 s8.2.1, .int .i64 s8.2.2.1, .int .i64 s8.2.2.2.1, .int .i64 s8.2.2.2.2.1, .int .i64 s8.2.2.2.2.2.1, v9, v11, .string s8.2.2.2.2.2.2.2.2.1, .string s8.2.2.2.2.2.2.2.2.2]] Tryd.func51 ⟨⟨_, _, _, _, rfl, mem_flat 1 rfl, fun w hw => cellOfN (vs := [.int .i64 a0.1, .int .i64 s8.1, .int .i64 s8.2.1, .int .i64 s8.2.2.1, .int .i64 s8.2.2.2.1, .int .i64 s8.2.2.2.2.1, .int .i64 s8.2.2.2.2.2.1, v9, v11, .string s8.2.2.2.2.2.2.2.2.1, .string s8.2.2.2.2.2.2.2.2.2]) z_agg39 rfl w hw⟩, trivial⟩ (by simp) hl8 ⟨_, _, rfl, rfl, hs10, hs12⟩
 refine ZZ 11 [1] rfl rfl ?_
 refine st_if rfl h (fun h => ?_) (fun h => ?_)
 ·refine ZZ 5 [2] rfl rfl ?_
  refine st_ord [2, 0] _ rfl ?_
  exact hk8 _ _ _ ⟨((a0.2.1.getD 0 0), (a0.2.1.getD 1 0), (a0.2.1.getD 2 0), (a0.2.1.getD 3 0), (a0.2.1.getD 4 0), (a0.2.1.getD 5 0), [], a0.2.2.2.1, a0.2.2.2.2.1, a0.2.2.2.2.2), _, _, h, (Sto.Le.refl _), rfl, rfl, Sl.nil, hs4⟩
 ·refine Z 5 rfl ?_
  refine st_if rfl h (fun h => ?_) (fun h => ?_)
  ·refine ZZ 5 [2] rfl rfl ?_
   refine st_ord [2, 0] _ rfl ?_
   exact hk8 _ _ _ ⟨((a0.2.1.getD 0 0), (a0.2.1.getD 1 0), (a0.2.1.getD 2 0), (a0.2.1.getD 3 0), (a0.2.1.getD 4 0), (a0.2.1.getD 5 0), a0.2.2.1, [], a0.2.2.2.2.1, a0.2.2.2.2.2), _, _, h, (Sto.Le.refl _), rfl, rfl, hs3, Sl.nil⟩
  ·refine Z 5 rfl ?_
   refine st_if rfl h (fun h => ?_) (fun h => ?_)
   ·refine Z 2 rfl ?_
    refine o_store (j := 2) (vs := [.string (bstr [])]) (cs' := [.int .i64 a0.1, .int .i64 (a0.2.1.getD 0 0), .int .i64 (a0.2.1.getD 1 0), .int .i64 (a0.2.1.getD 2 0), .int .i64 (a0.2.1.getD 3 0), .int .i64 (a0.2.1.getD 4 0), .int .i64 (a0.2.1.getD 5 0), v1, v2, .string (bstr []), .string a0.2.2.2.2.2]) rfl rfl rfl z_size9 rfl (ev_str z_str0) rfl (ones_cons rfl ones_nil) rfl rfl rfl ?_
    refine st_gs [[(b7, .cells #[.int .i64 0, .int .i64 0, .int .i64 0, .int .i64 0, .int .i64 0, .int .i64 0, .int .i64 0, .slice none 0 0, .slice none 0 0, .string (bstr []), .string (bstr [])] 39 (0, 0))], [(b6, .cells #[.string a1.1, .int .i64 a1.2.1, .int .i64 a1.2.2.1, .int .i64 a1.2.2.2.1, .int .i64 a1.2.2.2.2.1, .int .i64 a1.2.2.2.2.2.1, .int .i64 a1.2.2.2.2.2.2] 102 (0, 0))], [(b5, .cells #[.int .i64 a0.1, .int .i64 (a0.2.1.getD 0 0), .int .i64 (a0.2.1.getD 1 0), .int .i64 (a0.2.1.getD 2 0), .int .i64 (a0.2.1.getD 3 0), .int .i64 (a0.2.1.getD 4 0), .int .i64 (a0.2.1.getD 5 0), v1, v2, .string (bstr []), .string a0.2.2.2.2.2] 39 (0, 0))]] rfl ?_
    refine Z 2 rfl ?_
    refine st_ord [2, 0] _ rfl ?_
    exact hk8 _ _ _ ⟨((a0.2.1.getD 0 0), (a0.2.1.getD 1 0), (a0.2.1.getD 2 0), (a0.2.1.getD 3 0), (a0.2.1.getD 4 0), (a0.2.1.getD 5 0), a0.2.2.1, a0.2.2.2.1, (bstr []), a0.2.2.2.2.2), _, _, h, (Sto.Le.refl _), rfl, rfl, hs3, hs4⟩
   ·refine Z 5 rfl ?_
    refine st_if rfl h (fun h => ?_) (fun h => ?_)
    ·refine Z 2 rfl ?_
     refine o_store (j := 2) (vs := [.string (bstr [])]) (cs' := [.int .i64 a0.1, .int .i64 (a0.2.1.getD 0 0), .int .i64 (a0.2.1.getD 1 0), .int .i64 (a0.2.1.getD 2 0), .int .i64 (a0.2.1.getD 3 0), .int .i64 (a0.2.1.getD 4 0), .int .i64 (a0.2.1.getD 5 0), v1, v2, .string a0.2.2.2.2.1, .string (bstr [])]) rfl rfl rfl z_size9 rfl (ev_str z_str0) rfl (ones_cons rfl ones_nil) rfl rfl rfl ?_
     refine st_gs [[(b7, .cells #[.int .i64 0, .int .i64 0, .int .i64 0, .int .i64 0, .int .i64 0, .int .i64 0, .int .i64 0, .slice none 0 0, .slice none 0 0, .string (bstr []), .string (bstr [])] 39 (0, 0))], [(b6, .cells #[.string a1.1, .int .i64 a1.2.1, .int .i64 a1.2.2.1, .int .i64 a1.2.2.2.1, .int .i64 a1.2.2.2.2.1, .int .i64 a1.2.2.2.2.2.1, .int .i64 a1.2.2.2.2.2.2] 102 (0, 0))], [(b5, .cells #[.int .i64 a0.1, .int .i64 (a0.2.1.getD 0 0), .int .i64 (a0.2.1.getD 1 0), .int .i64 (a0.2.1.getD 2 0), .int .i64 (a0.2.1.getD 3 0), .int .i64 (a0.2.1.getD 4 0), .int .i64 (a0.2.1.getD 5 0), v1, v2, .string a0.2.2.2.2.1, .string (bstr [])] 39 (0, 0))]] rfl ?_
     refine Z 2 rfl ?_
     refine st_ord [2, 0] _ rfl ?_
     exact hk8 _ _ _ ⟨((a0.2.1.getD 0 0), (a0.2.1.getD 1 0), (a0.2.1.getD 2 0), (a0.2.1.getD 3 0), (a0.2.1.getD 4 0), (a0.2.1.getD 5 0), a0.2.2.1, a0.2.2.2.1, a0.2.2.2.2.1, (bstr [])), _, _, h, (Sto.Le.refl _), rfl, rfl, hs3, hs4⟩
    ·refine ZZ 4 [1] rfl rfl ?_
     obtain ⟨hf13, hf14, h⟩ := h
     refine o_indexA rfl rfl rfl z_arr35 rfl rfl hf13 hf14 ?_
     refine o_storeV (j := 2) (a1.2.2.1.toNat) (f := (Value.int .i64)) (zz := 0) (a := 0) (l := 6) (xs := a0.2.1) [.int .i64 a0.1] [v1, v2, .string a0.2.2.2.2.1, .string a0.2.2.2.2.2] rfl rfl rfl z_size3 rfl rfl rfl rfl rfl (by simp only [List.length_cons, List.length_nil] <;> omega) (by omega) ?_
     refine st_gs [[(b7, .cells #[.int .i64 0, .int .i64 0, .int .i64 0, .int .i64 0, .int .i64 0, .int .i64 0, .int .i64 0, .slice none 0 0, .slice none 0 0, .string (bstr []), .string (bstr [])] 39 (0, 0))], [(b6, .cells #[.string a1.1, .int .i64 a1.2.1, .int .i64 a1.2.2.1, .int .i64 a1.2.2.2.1, .int .i64 a1.2.2.2.2.1, .int .i64 a1.2.2.2.2.2.1, .int .i64 a1.2.2.2.2.2.2] 102 (0, 0))], [(b5, .cells #[.int .i64 a0.1, .int .i64 ((putN 6 0 a0.2.1 a1.2.2.1.toNat 0).getD 0 0), .int .i64 ((putN 6 0 a0.2.1 a1.2.2.1.toNat 0).getD 1 0), .int .i64 ((putN 6 0 a0.2.1 a1.2.2.1.toNat 0).getD 2 0), .int .i64 ((putN 6 0 a0.2.1 a1.2.2.1.toNat 0).getD 3 0), .int .i64 ((putN 6 0 a0.2.1 a1.2.2.1.toNat 0).getD 4 0), .int .i64 ((putN 6 0 a0.2.1 a1.2.2.1.toNat 0).getD 5 0), v1, v2, .string a0.2.2.2.2.1, .string a0.2.2.2.2.2] 39 (0, 0))]] rfl ?_
     refine Z 2 rfl ?_
     refine st_ord [2, 0] _ rfl ?_
     exact hk8 _ _ _ ⟨(((putN 6 0 a0.2.1 a1.2.2.1.toNat 0).getD 0 0), ((putN 6 0 a0.2.1 a1.2.2.1.toNat 0).getD 1 0), ((putN 6 0 a0.2.1 a1.2.2.1.toNat 0).getD 2 0), ((putN 6 0 a0.2.1 a1.2.2.1.toNat 0).getD 3 0), ((putN 6 0 a0.2.1 a1.2.2.1.toNat 0).getD 4 0), ((putN 6 0 a0.2.1 a1.2.2.1.toNat 0).getD 5 0), a0.2.2.1, a0.2.2.2.1, a0.2.2.2.2.1, a0.2.2.2.2.2), _, _, h, (Sto.Le.refl _), rfl, rfl, hs3, hs4⟩
theorem slices_Equal_msg_Point_msg_Point_ok {a0 : List (Int × Int)} {a1 : List (Int × Int)} {v1 : Value} {v3 : Value} {r : Bool} (h : slices_Equal_msg_Point_msg_Point a0 a1 r) (σ : Sto) (hs2 : Sl (kP (kI .i64) (kI .i64)) σ v1 a0) (hs4 : Sl (kP (kI .i64) (kI .i64)) σ v3 a1) :
    Does Tryd.prog 58 [v1, v3] σ [] (fun v τ gs => gs = [] ∧ .bool r = v) := by
 refine call_of Tryd.func58 Tryd.ntmps58 rfl rfl (fun cs fs => ?_)
 refine Z 8 rfl ?_
 refine o_lenI rfl rfl rfl z_slT36 rfl hs2 ?_
 refine o_move rfl rfl rfl rfl ?_
 refine o_lenI rfl rfl rfl z_slT36 rfl hs4 ?_
 refine Z 2 rfl ?_
 refine st_if rfl h (fun h => ?_) (fun h => ?_)
 ·refine Z 4 rfl ?_
  obtain rfl := Eq.symm h
  exact st_ret (gs' := []) Tryd.func58 rfl (List.Sublist.refl _) (Sto.Le.refl _) ⟨rfl, rfl⟩
 ·refine Z 2 rfl ?_
  refine st_cut (fun ρ τ5 gs => ∃ (s5 : Unit), slices_Equal_msg_Point_msg_Point_j1 s5 r ∧ σ.Le τ5 ∧ ESub ρ [(4, .bool false)] ∧ gs = []) ?_ (fun hk5 => ?_)
  ·rintro ρ5 τ5 gs5 ⟨s5, h, hl5, hρ, rfl⟩
   refine st_es hρ ?_
   refine Z 4 rfl ?_
   obtain rfl := Eq.symm h
   exact st_ret (gs' := []) Tryd.func58 rfl (List.Sublist.refl _) hl5 ⟨rfl, rfl⟩
  refine Z 3 rfl ?_
  refine o_lenI rfl rfl rfl z_slT36 rfl hs2 ?_
  refine Z 2 rfl ?_
  obtain ⟨e6, hL6, hA6⟩ := h
  refine st_loop hL6 (fun (s6 : Int) ρ τ6 gs => σ.Le τ6 ∧ ESub ρ [(0, v1), (1, v3), (4, .bool false), (12, .int .i64 (a0.length : Int)), (13, .int .i64 s6)] ∧ gs = []) ⟨Sto.Le.refl _, rfl, rfl⟩ ?_
  rintro s6 o6 h he6 ρ6 τ6 gs6 ⟨hl6, hρ, rfl⟩ hn6
  refine st_es hρ ?_
  refine Z 5 rfl ?_
  refine st_if rfl h (fun h => ?_) (fun h => ?_)
  ·refine Z 9 rfl ?_
   obtain ⟨q7, hf8, q12, hf13, h⟩ := h
   refine st_draw 9 (dl [.v (v1), .v (.int .i64 s6), .t fun τ v => ∃ (b9 : Nat) (of10 : Nat) (vsb9 : List Value), (.pointer (some ⟨b9, of10, none⟩) : Value) = v ∧ CelN τ ⟨b9, of10, none⟩ vsb9 ∧ (kP (kI .i64) (kI .i64)).rep τ vsb9 q7, .v (.agg #[.int .i64 q7.1, .int .i64 q7.2]), .v (v3), .v (.int .i64 s6), .t fun τ v => ∃ (b14 : Nat) (of15 : Nat) (vsb14 : List Value), (.pointer (some ⟨b14, of15, none⟩) : Value) = v ∧ CelN τ ⟨b14, of15, none⟩ vsb14 ∧ (kP (kI .i64) (kI .i64)).rep τ vsb14 q12, .v (.agg #[.int .i64 q12.1, .int .i64 q12.2]), .v (.bool (!((decide (q7.1 = q12.1)) && ((decide (q7.2 = q12.2)) && true))))]) (fun _ _ => []) z_mix rfl (dl_mono ⟨fun _ _ _ hl ⟨b9, of10, vsb9, hv, hc11, hrepb9⟩ => ⟨b9, of10, vsb9, hv, hc11.up hl, Kd.mono _ hl hrepb9⟩, ⟨fun _ _ _ hl ⟨b14, of15, vsb14, hv, hc16, hrepb14⟩ => ⟨b14, of15, vsb14, hv, hc16.up hl, Kd.mono _ hl hrepb14⟩, trivial⟩⟩) (allB_cons (allB_cons (allB_cons (allB_cons (allB_cons (allB_cons (allB_cons (allB_cons (allB_cons allB_nil (p1 dA)) (p1 dA)) ?_) ?_) (p1 dA)) (p1 dA)) ?_) ?_) ?_) ?_
   ·intro ρ' τ pool rs hl hd hout hk
    obtain ⟨_, e0, rfl⟩ := hd 0 rfl
    obtain ⟨_, e1, rfl⟩ := hd 1 rfl
    refine o_index rfl rfl rfl z_slT36 rfl e0 (hs2.up (hl6.trans hl)) e1 hf8 (fun b9 of10 vsb9 hc11 hrepb9 => ?_)
    exact st_addNil (hk _ _ (Sto.Le.refl _) ⟨b9, of10, _, rfl, hc11, hrepb9⟩)
   ·intro ρ' τ pool rs hl hd hout hk
    obtain ⟨_, e2, b9, of10, vsb9, rfl, hc11, hrepb9⟩ := hd 2 rfl
    have hrepb9 := hrepb9
    obtain ⟨_, _, rfl, rfl, rfl⟩ := hrepb9
    refine o_loadIN (vs := [.int .i64 q7.1, .int .i64 q7.2]) rfl rfl rfl z_agg109 e2 rfl (celn_part 0 rfl hc11) ?_
    exact st_addNil (hk _ _ (Sto.Le.refl _) rfl)
   ·intro ρ' τ pool rs hl hd hout hk
    obtain ⟨_, e4, rfl⟩ := hd 4 rfl
    obtain ⟨_, e5, rfl⟩ := hd 5 rfl
    refine o_index rfl rfl rfl z_slT36 rfl e4 (hs4.up (hl6.trans hl)) e5 hf13 (fun b14 of15 vsb14 hc16 hrepb14 => ?_)
    exact st_addNil (hk _ _ (Sto.Le.refl _) ⟨b14, of15, _, rfl, hc16, hrepb14⟩)
   ·intro ρ' τ pool rs hl hd hout hk
    obtain ⟨_, e6, b14, of15, vsb14, rfl, hc16, hrepb14⟩ := hd 6 rfl
    have hrepb14 := hrepb14
    obtain ⟨_, _, rfl, rfl, rfl⟩ := hrepb14
    refine o_loadIN (vs := [.int .i64 q12.1, .int .i64 q12.2]) rfl rfl rfl z_agg109 e6 rfl (celn_part 0 rfl hc16) ?_
    exact st_addNil (hk _ _ (Sto.Le.refl _) rfl)
   ·intro ρ' τ pool rs hl hd hout hk
    obtain ⟨_, e3, rfl⟩ := hd 3 rfl
    obtain ⟨_, e7, rfl⟩ := hd 7 rfl
    refine o_aggEq (b := ((decide (q7.1 = q12.1)) && ((decide (q7.2 = q12.2)) && true))) (e := (!((decide (q7.1 = q12.1)) && ((decide (q7.2 = q12.2)) && true)))) rfl rfl rfl z_eqg109 e3 e7 (fun w => by refine eq_struct Tryd.underlying109 z_held109 ?_; refine eqf_cons (r := (decide (q7.1 = q12.1))) (r' := ((decide (q7.2 = q12.2)) && true)) rfl (part_one z_sc3 rfl) (part_one z_sc3 rfl) (by exact eq_int Tryd.underlying3 _ _) ?_; refine eqf_cons (r := (decide (q7.2 = q12.2))) (r' := true) rfl (part_one z_sc3 rfl) (part_one z_sc3 rfl) (by exact eq_int Tryd.underlying3 _ _) ?_; exact eqf_nil _ _ _ _) rfl ?_
    exact st_addNil (hk _ _ (Sto.Le.refl _) rfl)
   intro ρ' τ17 vals hl17 hv hout
   refine st_ord [] _ rfl ?_
   refine st_env (ρ' := [(24, .bool (!((decide (q7.1 = q12.1)) && ((decide (q7.2 = q12.2)) && true)))), (0, v1), (1, v3), (4, .bool false), (12, .int .i64 (a0.length : Int)), (13, .int .i64 s6)]) ⟨(lv1 hv 8 rfl rfl), (hout 0 rfl).trans rfl, (hout 1 rfl).trans rfl, (hout 4 rfl).trans rfl, (hout 12 rfl).trans rfl, (hout 13 rfl).trans rfl, trivial⟩ ?_
   refine st_end ?_
   refine st_if rfl h (fun h => ?_) (fun h => ?_)
   ·refine Z 4 rfl ?_
    obtain rfl := he6 _ h
    replace h := hA6
    obtain rfl := Eq.symm h
    exact st_ret (gs' := []) Tryd.func58 rfl (List.Sublist.refl _) (hl6.trans hl17) ⟨rfl, rfl⟩
   ·refine Z 6 rfl ?_
    exact hn6 _ _ _ _ h ⟨(hl6.trans hl17), rfl, rfl⟩
  ·refine st_exit rfl ?_
   obtain rfl := he6 _ h
   replace h := hA6
   exact hk5 _ _ _ ⟨(), h, hl6, rfl, rfl⟩
theorem slices_Equal_int_int_ok {a0 : List Int} {a1 : List Int} {v1 : Value} {v3 : Value} {r : Bool} (h : slices_Equal_int_int a0 a1 r) (σ : Sto) (hs2 : Sl (kI .i64) σ v1 a0) (hs4 : Sl (kI .i64) σ v3 a1) :
    Does Tryd.prog 36 [v1, v3] σ [] (fun v τ gs => gs = [] ∧ .bool r = v) := by
 refine call_of Tryd.func36 Tryd.ntmps36 rfl rfl (fun cs fs => ?_)
 refine Z 8 rfl ?_
 refine o_lenI rfl rfl rfl z_slT37 rfl hs2 ?_
 refine o_move rfl rfl rfl rfl ?_
 refine o_lenI rfl rfl rfl z_slT37 rfl hs4 ?_
 refine Z 2 rfl ?_
 refine st_if rfl h (fun h => ?_) (fun h => ?_)
 ·refine Z 4 rfl ?_
  obtain rfl := Eq.symm h
  exact st_ret (gs' := []) Tryd.func36 rfl (List.Sublist.refl _) (Sto.Le.refl _) ⟨rfl, rfl⟩
 ·refine Z 2 rfl ?_
  refine st_cut (fun ρ τ5 gs => ∃ (s5 : Unit), slices_Equal_int_int_j1 s5 r ∧ σ.Le τ5 ∧ ESub ρ [(4, .bool false)] ∧ gs = []) ?_ (fun hk5 => ?_)
  ·rintro ρ5 τ5 gs5 ⟨s5, h, hl5, hρ, rfl⟩
   refine st_es hρ ?_
   refine Z 4 rfl ?_
   obtain rfl := Eq.symm h
   exact st_ret (gs' := []) Tryd.func36 rfl (List.Sublist.refl _) hl5 ⟨rfl, rfl⟩
  refine Z 3 rfl ?_
  refine o_lenI rfl rfl rfl z_slT37 rfl hs2 ?_
  refine Z 2 rfl ?_
  obtain ⟨e6, hL6, hA6⟩ := h
  refine st_loop hL6 (fun (s6 : Int) ρ τ6 gs => σ.Le τ6 ∧ ESub ρ [(0, v1), (1, v3), (4, .bool false), (12, .int .i64 (a0.length : Int)), (13, .int .i64 s6)] ∧ gs = []) ⟨Sto.Le.refl _, rfl, rfl⟩ ?_
  rintro s6 o6 h he6 ρ6 τ6 gs6 ⟨hl6, hρ, rfl⟩ hn6
  refine st_es hρ ?_
  refine Z 5 rfl ?_
  refine st_if rfl h (fun h => ?_) (fun h => ?_)
  ·refine Z 9 rfl ?_
   obtain ⟨q7, hf8, q12, hf13, h⟩ := h
   refine st_draw 9 (dl [.v (v1), .v (.int .i64 s6), .t fun τ v => ∃ (b9 : Nat) (of10 : Nat) (vsb9 : List Value), (.pointer (some ⟨b9, of10, none⟩) : Value) = v ∧ CelN τ ⟨b9, of10, none⟩ vsb9 ∧ (kI .i64).rep τ vsb9 q7, .v (.int .i64 q7), .v (v3), .v (.int .i64 s6), .t fun τ v => ∃ (b14 : Nat) (of15 : Nat) (vsb14 : List Value), (.pointer (some ⟨b14, of15, none⟩) : Value) = v ∧ CelN τ ⟨b14, of15, none⟩ vsb14 ∧ (kI .i64).rep τ vsb14 q12, .v (.int .i64 q12), .v (.bool (!(decide (q7 = q12))))]) (fun _ _ => []) z_mix rfl (dl_mono ⟨fun _ _ _ hl ⟨b9, of10, vsb9, hv, hc11, hrepb9⟩ => ⟨b9, of10, vsb9, hv, hc11.up hl, Kd.mono _ hl hrepb9⟩, ⟨fun _ _ _ hl ⟨b14, of15, vsb14, hv, hc16, hrepb14⟩ => ⟨b14, of15, vsb14, hv, hc16.up hl, Kd.mono _ hl hrepb14⟩, trivial⟩⟩) (allB_cons (allB_cons (allB_cons (allB_cons (allB_cons (allB_cons (allB_cons (allB_cons (allB_cons allB_nil (p1 dA)) (p1 dA)) ?_) ?_) (p1 dA)) (p1 dA)) ?_) ?_) (p1 dA)) ?_
   ·intro ρ' τ pool rs hl hd hout hk
    obtain ⟨_, e0, rfl⟩ := hd 0 rfl
    obtain ⟨_, e1, rfl⟩ := hd 1 rfl
    refine o_index rfl rfl rfl z_slT37 rfl e0 (hs2.up (hl6.trans hl)) e1 hf8 (fun b9 of10 vsb9 hc11 hrepb9 => ?_)
    exact st_addNil (hk _ _ (Sto.Le.refl _) ⟨b9, of10, _, rfl, hc11, hrepb9⟩)
   ·intro ρ' τ pool rs hl hd hout hk
    obtain ⟨_, e2, b9, of10, vsb9, rfl, hc11, hrepb9⟩ := hd 2 rfl
    have hrepb9 := hrepb9
    obtain rfl := hrepb9
    refine o_loadI (v := .int .i64 q7) rfl rfl rfl z_sc3 e2 (hc11 0 _ rfl) ?_
    exact st_addNil (hk _ _ (Sto.Le.refl _) rfl)
   ·intro ρ' τ pool rs hl hd hout hk
    obtain ⟨_, e4, rfl⟩ := hd 4 rfl
    obtain ⟨_, e5, rfl⟩ := hd 5 rfl
    refine o_index rfl rfl rfl z_slT37 rfl e4 (hs4.up (hl6.trans hl)) e5 hf13 (fun b14 of15 vsb14 hc16 hrepb14 => ?_)
    exact st_addNil (hk _ _ (Sto.Le.refl _) ⟨b14, of15, _, rfl, hc16, hrepb14⟩)
   ·intro ρ' τ pool rs hl hd hout hk
    obtain ⟨_, e6, b14, of15, vsb14, rfl, hc16, hrepb14⟩ := hd 6 rfl
    have hrepb14 := hrepb14
    obtain rfl := hrepb14
    refine o_loadI (v := .int .i64 q12) rfl rfl rfl z_sc3 e6 (hc16 0 _ rfl) ?_
    exact st_addNil (hk _ _ (Sto.Le.refl _) rfl)
   intro ρ' τ17 vals hl17 hv hout
   refine st_ord [] _ rfl ?_
   refine st_env (ρ' := [(24, .bool (!(decide (q7 = q12)))), (0, v1), (1, v3), (4, .bool false), (12, .int .i64 (a0.length : Int)), (13, .int .i64 s6)]) ⟨(lv1 hv 8 rfl rfl), (hout 0 rfl).trans rfl, (hout 1 rfl).trans rfl, (hout 4 rfl).trans rfl, (hout 12 rfl).trans rfl, (hout 13 rfl).trans rfl, trivial⟩ ?_
   refine st_end ?_
   refine st_if rfl h (fun h => ?_) (fun h => ?_)
   ·refine Z 4 rfl ?_
    obtain rfl := he6 _ h
    replace h := hA6
    obtain rfl := Eq.symm h
    exact st_ret (gs' := []) Tryd.func36 rfl (List.Sublist.refl _) (hl6.trans hl17) ⟨rfl, rfl⟩
   ·refine Z 6 rfl ?_
    exact hn6 _ _ _ _ h ⟨(hl6.trans hl17), rfl, rfl⟩
  ·refine st_exit rfl ?_
   obtain rfl := he6 _ h
   replace h := hA6
   exact hk5 _ _ _ ⟨(), h, hl6, rfl, rfl⟩
theorem msg_Same_ok {a0 : Int × List Int × List (Int × Int) × List Int × ByteArray × ByteArray} {a1 : Int × List Int × List (Int × Int) × List Int × ByteArray × ByteArray} {v1 : Value} {v2 : Value} {v5 : Value} {v6 : Value} {r : Bool} (h : msg_Same a0 a1 r) (σ : Sto) (hs3 : Sl (kP (kI .i64) (kI .i64)) σ v1 a0.2.2.1) (hs4 : Sl (kI .i64) σ v2 a0.2.2.2.1) (hs7 : Sl (kP (kI .i64) (kI .i64)) σ v5 a1.2.2.1) (hs8 : Sl (kI .i64) σ v6 a1.2.2.2.1) :
    Does Tryd.prog 52 [.agg [.int .i64 a0.1, .int .i64 (a0.2.1.getD 0 0), .int .i64 (a0.2.1.getD 1 0), .int .i64 (a0.2.1.getD 2 0), .int .i64 (a0.2.1.getD 3 0), .int .i64 (a0.2.1.getD 4 0), .int .i64 (a0.2.1.getD 5 0), v1, v2, .string a0.2.2.2.2.1, .string a0.2.2.2.2.2].toArray, .agg [.int .i64 a1.1, .int .i64 (a1.2.1.getD 0 0), .int .i64 (a1.2.1.getD 1 0), .int .i64 (a1.2.1.getD 2 0), .int .i64 (a1.2.1.getD 3 0), .int .i64 (a1.2.1.getD 4 0), .int .i64 (a1.2.1.getD 5 0), v5, v6, .string a1.2.2.2.2.1, .string a1.2.2.2.2.2].toArray] σ [] (fun v τ gs => gs = [] ∧ .bool r = v) := by
 refine call_of Tryd.func52 Tryd.ntmps52 rfl rfl (fun cs fs => ?_)
 refine Z 2 rfl ?_
 refine o_box (cs := [.int .i64 a0.1, .int .i64 (a0.2.1.getD 0 0), .int .i64 (a0.2.1.getD 1 0), .int .i64 (a0.2.1.getD 2 0), .int .i64 (a0.2.1.getD 3 0), .int .i64 (a0.2.1.getD 4 0), .int .i64 (a0.2.1.getD 5 0), v1, v2, .string a0.2.2.2.2.1, .string a0.2.2.2.2.2]) rfl rfl rfl rfl rfl (fun b9 => ?_)
 refine o_box (cs := [.int .i64 a1.1, .int .i64 (a1.2.1.getD 0 0), .int .i64 (a1.2.1.getD 1 0), .int .i64 (a1.2.1.getD 2 0), .int .i64 (a1.2.1.getD 3 0), .int .i64 (a1.2.1.getD 4 0), .int .i64 (a1.2.1.getD 5 0), v5, v6, .string a1.2.2.2.2.1, .string a1.2.2.2.2.2]) rfl rfl rfl rfl rfl (fun b10 => ?_)
 refine Z 3 rfl ?_
 refine st_cut (fun ρ τ11 gs => ∃ (s11 : Bool), msg_Same_j1 s11 r ∧ σ.Le τ11 ∧ ESub ρ [(4, .bool s11)] ∧ gs = []) ?_ (fun hk11 => ?_)
 ·rintro ρ11 τ11 gs11 ⟨s11, h, hl11, hρ, rfl⟩
  refine st_es hρ ?_
  obtain rfl := Eq.symm h
  exact st_ret (gs' := []) Tryd.func52 rfl (List.Sublist.refl _) hl11 ⟨rfl, rfl⟩
 refine ZZ 6 [1, 0] rfl rfl ?_
 refine o_mif rfl rfl rfl rfl h (fun h => ?_) (fun h => ?_)
 ·refine ZZ 4 [1, 0] rfl rfl ?_
  refine o_aggEq (b := (eqN 6 0 a0.2.1 a1.2.1)) (e := (eqN 6 0 a0.2.1 a1.2.1)) rfl rfl rfl z_eqg35 rfl rfl (fun w => by exact eq_arr (xs := a0.2.1) (ys := a1.2.1) Tryd.underlying35 Tryd.underlying3 z_info3 z_cell3) rfl ?_
  refine o_pick rfl rfl rfl rfl rfl ?_
  refine o_mif rfl rfl rfl rfl h (fun h => ?_) (fun h => ?_)
  ·refine ZZ 4 [1, 0] rfl rfl ?_
   obtain ⟨r12, hr13, h⟩ := h
   refine st_call (foot := []) rfl rfl rfl rfl rfl rfl (callV_fn z_en58 (slices_Equal_msg_Point_msg_Point_ok hr13 σ hs3 hs7)) ?_
   rintro vτ14 τ14 gsτ14 hl15 ⟨rfl, rfl⟩
   refine o_pick rfl rfl rfl rfl rfl ?_
   refine o_mif rfl rfl rfl rfl h (fun h => ?_) (fun h => ?_)
   ·refine ZZ 4 [1, 0] rfl rfl ?_
    obtain ⟨r16, hr17, h⟩ := h
    refine st_call (foot := []) rfl rfl rfl rfl rfl rfl (callV_fn z_en36 (slices_Equal_int_int_ok hr17 τ14 (hs4.up hl15) (hs8.up hl15))) ?_
    rintro vτ18 τ18 gsτ18 hl19 ⟨rfl, rfl⟩
    refine o_pick rfl rfl rfl rfl rfl ?_
    refine o_mif rfl rfl rfl rfl h (fun h => ?_) (fun h => ?_)
    ·refine ZZ 6 [1, 0] rfl rfl ?_
     refine o_mif rfl rfl rfl rfl h (fun h => ?_) (fun h => ?_)
     ·refine ZZ 8 [1, 0] rfl rfl ?_
      refine st_ord [] _ rfl ?_
      exact hk11 _ _ _ ⟨(decide (a0.2.2.2.2.2 = a1.2.2.2.2.2)), h, (hl15.trans hl19), rfl, rfl⟩
     ·refine Z 8 rfl ?_
      refine st_ord [] _ rfl ?_
      exact hk11 _ _ _ ⟨false, h, (hl15.trans hl19), rfl, rfl⟩
    ·refine Z 15 rfl ?_
     refine st_ord [] _ rfl ?_
     exact hk11 _ _ _ ⟨false, h, (hl15.trans hl19), rfl, rfl⟩
   ·refine Z 22 rfl ?_
    refine st_ord [] _ rfl ?_
    exact hk11 _ _ _ ⟨false, h, hl15, rfl, rfl⟩
  ·refine Z 29 rfl ?_
   refine st_ord [] _ rfl ?_
   exact hk11 _ _ _ ⟨false, h, (Sto.Le.refl _), rfl, rfl⟩
 ·refine Z 36 rfl ?_
  refine st_ord [] _ rfl ?_
  exact hk11 _ _ _ ⟨false, h, (Sto.Le.refl _), rfl, rfl⟩
theorem msg_Check_ok {a0 : Int × List Int × List (Int × Int) × List Int × ByteArray × ByteArray} {v1 : Value} {v2 : Value} {r : Int} (h : msg_Check a0 r) (σ : Sto) (hs3 : Sl (kP (kI .i64) (kI .i64)) σ v1 a0.2.2.1) (hs4 : Sl (kI .i64) σ v2 a0.2.2.2.1) :
    Does Tryd.prog 30 [.agg [.int .i64 a0.1, .int .i64 (a0.2.1.getD 0 0), .int .i64 (a0.2.1.getD 1 0), .int .i64 (a0.2.1.getD 2 0), .int .i64 (a0.2.1.getD 3 0), .int .i64 (a0.2.1.getD 4 0), .int .i64 (a0.2.1.getD 5 0), v1, v2, .string a0.2.2.2.2.1, .string a0.2.2.2.2.2].toArray] σ [] (fun v τ gs => gs = [] ∧ .int .i64 r = v) := by
 refine call_of Tryd.func30 Tryd.ntmps30 rfl rfl (fun cs fs => ?_)
 refine Z 2 rfl ?_
 refine o_box (cs := [.int .i64 a0.1, .int .i64 (a0.2.1.getD 0 0), .int .i64 (a0.2.1.getD 1 0), .int .i64 (a0.2.1.getD 2 0), .int .i64 (a0.2.1.getD 3 0), .int .i64 (a0.2.1.getD 4 0), .int .i64 (a0.2.1.getD 5 0), v1, v2, .string a0.2.2.2.2.1, .string a0.2.2.2.2.2]) rfl rfl rfl rfl rfl (fun b5 => ?_)
 refine Z 4 rfl ?_
 refine st_draw 3 (dl [.v (.agg #[.int .i64 a0.1, .int .i64 (a0.2.1.getD 0 0), .int .i64 (a0.2.1.getD 1 0), .int .i64 (a0.2.1.getD 2 0), .int .i64 (a0.2.1.getD 3 0), .int .i64 (a0.2.1.getD 4 0), .int .i64 (a0.2.1.getD 5 0), v1, v2, .string a0.2.2.2.2.1, .string a0.2.2.2.2.2]), .t fun τ v => ∃ (b6 : Nat), (.pointer (some ⟨b6, 0, none⟩) : Value) = v, .v (.int .i64 9)]) (oneG 1 (.cells #[.int .i64 0, .int .i64 0, .int .i64 0, .int .i64 0, .int .i64 0, .int .i64 0, .int .i64 0, .slice none 0 0, .slice none 0 0, .string (bstr []), .string (bstr [])] 39 (0, 0))) z_mix rfl (dl_mono ⟨fun _ _ _ hl ⟨b6, hv⟩ => ⟨b6, hv⟩, trivial⟩) (allB_cons (allB_cons (allB_cons allB_nil ?_) ?_) (p1o dA)) ?_
 ·intro ρ' τ pool rs hl hd hout hk
  refine o_loadN (j := 0) (vs := [.int .i64 a0.1, .int .i64 (a0.2.1.getD 0 0), .int .i64 (a0.2.1.getD 1 0), .int .i64 (a0.2.1.getD 2 0), .int .i64 (a0.2.1.getD 3 0), .int .i64 (a0.2.1.getD 4 0), .int .i64 (a0.2.1.getD 5 0), v1, v2, .string a0.2.2.2.2.1, .string a0.2.2.2.2.2]) rfl rfl rfl z_agg39 ((hout 1 rfl).trans rfl) rfl rfl ?_
  exact st_addNil (hk _ _ (Sto.Le.refl _) rfl)
 ·intro ρ' τ pool rs hl hd hout hk
  refine o_alloc rfl rfl rfl z_zero39 (fun b6 => ?_)
  exact hk _ _ (Sto.Le.refl _) ⟨b6, rfl⟩
 intro ρ' τ7 vals hl7 hv hout
 obtain ⟨l1, b6, t1⟩ := hv 1 (by decide)
 replace l1 : Eng.look ρ' 4 = some (.pointer (some ⟨b6, 0, none⟩)) := l1.trans (congrArg some (Eq.symm t1))
 refine st_gs [[(b5, .cells #[.int .i64 a0.1, .int .i64 (a0.2.1.getD 0 0), .int .i64 (a0.2.1.getD 1 0), .int .i64 (a0.2.1.getD 2 0), .int .i64 (a0.2.1.getD 3 0), .int .i64 (a0.2.1.getD 4 0), .int .i64 (a0.2.1.getD 5 0), v1, v2, .string a0.2.2.2.2.1, .string a0.2.2.2.2.2] 39 (0, 0))], [(b6, .cells #[.int .i64 0, .int .i64 0, .int .i64 0, .int .i64 0, .int .i64 0, .int .i64 0, .int .i64 0, .slice none 0 0, .slice none 0 0, .string (bstr []), .string (bstr [])] 39 (0, 0))]] (by rw [oneG_flat (by decide) (Eq.symm t1)]; rfl) ?_
 refine st_env (ρ' := [(7, .agg #[.int .i64 a0.1, .int .i64 (a0.2.1.getD 0 0), .int .i64 (a0.2.1.getD 1 0), .int .i64 (a0.2.1.getD 2 0), .int .i64 (a0.2.1.getD 3 0), .int .i64 (a0.2.1.getD 4 0), .int .i64 (a0.2.1.getD 5 0), v1, v2, .string a0.2.2.2.2.1, .string a0.2.2.2.2.2]), (4, .pointer (some ⟨b6, 0, none⟩)), (3, .int .i64 9), (1, .pointer (some ⟨b5, 0, none⟩)), (2, .int .i64 0)]) ⟨(lv1 hv 0 rfl rfl), l1, (lv1 hv 2 rfl rfl), (hout 1 rfl).trans rfl, (hout 2 rfl).trans rfl, trivial⟩ ?_
 refine o_store (j := 1) (vs := [.int .i64 a0.1, .int .i64 (a0.2.1.getD 0 0), .int .i64 (a0.2.1.getD 1 0), .int .i64 (a0.2.1.getD 2 0), .int .i64 (a0.2.1.getD 3 0), .int .i64 (a0.2.1.getD 4 0), .int .i64 (a0.2.1.getD 5 0), v1, v2, .string a0.2.2.2.2.1, .string a0.2.2.2.2.2]) (cs' := [.int .i64 a0.1, .int .i64 (a0.2.1.getD 0 0), .int .i64 (a0.2.1.getD 1 0), .int .i64 (a0.2.1.getD 2 0), .int .i64 (a0.2.1.getD 3 0), .int .i64 (a0.2.1.getD 4 0), .int .i64 (a0.2.1.getD 5 0), v1, v2, .string a0.2.2.2.2.1, .string a0.2.2.2.2.2]) rfl rfl rfl z_size39 rfl rfl rfl (ones_cons rfl (ones_cons rfl (ones_cons rfl (ones_cons rfl (ones_cons rfl (ones_cons rfl (ones_cons rfl (ones_cons (hs3.up hl7).one' (ones_cons (hs4.up hl7).one' (ones_cons rfl (ones_cons rfl ones_nil))))))))))) rfl rfl rfl ?_
 refine st_gs [[(b5, .cells #[.int .i64 a0.1, .int .i64 (a0.2.1.getD 0 0), .int .i64 (a0.2.1.getD 1 0), .int .i64 (a0.2.1.getD 2 0), .int .i64 (a0.2.1.getD 3 0), .int .i64 (a0.2.1.getD 4 0), .int .i64 (a0.2.1.getD 5 0), v1, v2, .string a0.2.2.2.2.1, .string a0.2.2.2.2.2] 39 (0, 0))], [(b6, .cells #[.int .i64 a0.1, .int .i64 (a0.2.1.getD 0 0), .int .i64 (a0.2.1.getD 1 0), .int .i64 (a0.2.1.getD 2 0), .int .i64 (a0.2.1.getD 3 0), .int .i64 (a0.2.1.getD 4 0), .int .i64 (a0.2.1.getD 5 0), v1, v2, .string a0.2.2.2.2.1, .string a0.2.2.2.2.2] 39 (0, 0))]] rfl ?_
 refine Z 4 rfl ?_
 refine st_cut (fun ρ τ8 gs => ∃ (s8 : Int × Int × Int × Int × Int × Int × Int × Int × (List (Int × Int)) × List Int × ByteArray × ByteArray) (v9 : Value) (v11 : Value), msg_Check_j1 a0 s8 r ∧ τ7.Le τ8 ∧ ESub ρ [(4, .pointer (some ⟨b6, 0, none⟩)), (3, .int .i64 s8.1), (1, .pointer (some ⟨b5, 0, none⟩)), (2, .int .i64 0)] ∧ gs = [[(b5, .cells #[.int .i64 a0.1, .int .i64 (a0.2.1.getD 0 0), .int .i64 (a0.2.1.getD 1 0), .int .i64 (a0.2.1.getD 2 0), .int .i64 (a0.2.1.getD 3 0), .int .i64 (a0.2.1.getD 4 0), .int .i64 (a0.2.1.getD 5 0), v1, v2, .string a0.2.2.2.2.1, .string a0.2.2.2.2.2] 39 (0, 0))], [(b6, .cells #[.int .i64 s8.2.1, .int .i64 s8.2.2.1, .int .i64 s8.2.2.2.1, .int .i64 s8.2.2.2.2.1, .int .i64 s8.2.2.2.2.2.1, .int .i64 s8.2.2.2.2.2.2.1, .int .i64 s8.2.2.2.2.2.2.2.1, v9, v11, .string s8.2.2.2.2.2.2.2.2.2.2.1, .string s8.2.2.2.2.2.2.2.2.2.2.2] 39 (0, 0))]] ∧ Sl (kP (kI .i64) (kI .i64)) τ8 v9 s8.2.2.2.2.2.2.2.2.1 ∧ Sl (kI .i64) τ8 v11 s8.2.2.2.2.2.2.2.2.2.1) ?_ (fun hk8 => ?_)
 ·rintro ρ8 τ8 gs8 ⟨s8, v9, v11, h, hl8, hρ, rfl, hs10, hs12⟩
  refine st_es hρ ?_
  refine Z 2 rfl ?_
  refine st_cut (fun ρ τ13 gs => ∃ (s13 : Bool), msg_Check_j2 s8 s13 r ∧ τ8.Le τ13 ∧ ESub ρ [(3, .int .i64 s8.1), (2, .int .i64 0), (34, .bool s13)] ∧ gs = []) ?_ (fun hk13 => ?_)
  ·rintro ρ13 τ13 gs13 ⟨s13, h, hl13, hρ, rfl⟩
   refine st_es hρ ?_
   refine st_if rfl h (fun h => ?_) (fun h => ?_)
   ·refine Z 4 rfl ?_
    obtain rfl := Eq.symm h
    exact st_ret (gs' := []) Tryd.func30 rfl (List.Sublist.refl _) ((hl7.trans hl8).trans hl13) ⟨rfl, rfl⟩
   ·refine Z 6 rfl ?_
    obtain rfl := Eq.symm h
    exact st_ret (gs' := []) Tryd.func30 rfl (List.Sublist.refl _) ((hl7.trans hl8).trans hl13) ⟨rfl, rfl⟩
  refine Z 3 rfl ?_
  refine o_mif rfl rfl rfl rfl h (fun h => ?_) (fun h => ?_)
  ·refine ZZ 4 [1, 0] rfl rfl ?_
   obtain ⟨r14, hr15, h⟩ := h
   refine st_call (foot := []) rfl rfl rfl rfl rfl rfl (callV_fn z_en52 (msg_Same_ok hr15 τ8 hs10 hs12 Sl.nil Sl.nil)) ?_
   rintro vτ16 τ16 gsτ16 hl17 ⟨rfl, rfl⟩
   refine Z 3 rfl ?_
   refine st_ord [] _ rfl ?_
   exact hk13 _ _ _ ⟨(!r14), h, hl17, rfl, rfl⟩
  ·refine Z 8 rfl ?_
   refine st_ord [] _ rfl ?_
   exact hk13 _ _ _ ⟨false, h, (Sto.Le.refl _), rfl, rfl⟩
 refine ZZ 4 [0] rfl rfl ?_
 obtain ⟨r18, hr19, h⟩ := h
 refine st_call (foot := []) rfl rfl rfl rfl rfl rfl (callV_fn z_en49 (field_Of_ok hr19 τ7)) ?_
 rintro vτ20 τ20 gsτ20 hl21 ⟨v22, rfl, rfl, hs23⟩
 refine o_lenI rfl rfl rfl z_slT99 rfl hs23 ?_
 refine Z 2 rfl ?_
 obtain ⟨e24, hL24, hA24⟩ := h
 refine st_loop hL24 (fun (s24 : Int × Int × Int × Int × Int × Int × Int × Int × Int × (List (Int × Int)) × List Int × ByteArray × ByteArray) ρ τ24 gs => τ20.Le τ24 ∧ ∃ (v25 : Value) (v27 : Value), ESub ρ [(4, .pointer (some ⟨b6, 0, none⟩)), (3, .int .i64 s24.1), (1, .pointer (some ⟨b5, 0, none⟩)), (2, .int .i64 0), (10, v22), (11, .int .i64 (r18.length : Int)), (12, .int .i64 s24.2.1)] ∧ gs = [[(b5, .cells #[.int .i64 a0.1, .int .i64 (a0.2.1.getD 0 0), .int .i64 (a0.2.1.getD 1 0), .int .i64 (a0.2.1.getD 2 0), .int .i64 (a0.2.1.getD 3 0), .int .i64 (a0.2.1.getD 4 0), .int .i64 (a0.2.1.getD 5 0), v1, v2, .string a0.2.2.2.2.1, .string a0.2.2.2.2.2] 39 (0, 0))], [(b6, .cells #[.int .i64 s24.2.2.1, .int .i64 s24.2.2.2.1, .int .i64 s24.2.2.2.2.1, .int .i64 s24.2.2.2.2.2.1, .int .i64 s24.2.2.2.2.2.2.1, .int .i64 s24.2.2.2.2.2.2.2.1, .int .i64 s24.2.2.2.2.2.2.2.2.1, v25, v27, .string s24.2.2.2.2.2.2.2.2.2.2.2.1, .string s24.2.2.2.2.2.2.2.2.2.2.2.2] 39 (0, 0))]] ∧ Sl (kP (kI .i64) (kI .i64)) τ24 v25 s24.2.2.2.2.2.2.2.2.2.1 ∧ Sl (kI .i64) τ24 v27 s24.2.2.2.2.2.2.2.2.2.2.1) ⟨Sto.Le.refl _, _, _, rfl, rfl, (hs3.up (hl7.trans hl21)), (hs4.up (hl7.trans hl21))⟩ ?_
 rintro s24 o24 h he24 ρ24 τ24 gs24 ⟨hl24, v25, v27, hρ, rfl, hs26, hs28⟩ hn24
 refine st_es hρ ?_
 refine Z 5 rfl ?_
 refine st_if rfl h (fun h => ?_) (fun h => ?_)
 ·refine Z 5 rfl ?_
  obtain ⟨q29, hf30, h⟩ := h
  refine o_index rfl rfl rfl z_slT99 rfl rfl (hs23.up hl24) rfl hf30 (fun b31 of32 vs hc33 hrep => ?_)
  obtain ⟨_, _, rfl, rfl, ⟨_, _, rfl, rfl, ⟨_, _, rfl, rfl, ⟨_, _, rfl, rfl, ⟨_, _, rfl, rfl, ⟨_, _, rfl, rfl, rfl⟩⟩⟩⟩⟩⟩ := hrep
  refine o_loadIN (vs := [.string q29.1, .int .i64 q29.2.1, .int .i64 q29.2.2.1, .int .i64 q29.2.2.2.1, .int .i64 q29.2.2.2.2.1, .int .i64 q29.2.2.2.2.2.1, .int .i64 q29.2.2.2.2.2.2]) rfl rfl rfl z_agg102 rfl rfl (celn_part 0 rfl hc33) ?_
  refine o_alloc rfl rfl rfl z_zero102 (fun b34 => ?_)
  refine ZZ 7 [0, 1, 0] rfl rfl ?_
  obtain ⟨r35, hr36, h⟩ := h
  refine st_call (foot := []) rfl rfl rfl rfl rfl rfl (callV_fn z_en50 (msg_wrong_ok hr36 τ24 (hs3.up ((hl7.trans hl21).trans hl24)) (hs4.up ((hl7.trans hl21).trans hl24)))) ?_
  rintro vτ37 τ37 gsτ37 hl38 ⟨rfl, rfl⟩
  refine Z 7 rfl ?_
  refine st_if rfl h (fun h => ?_) (fun h => ?_)
  ·refine st_exit rfl ?_
   obtain rfl := he24 _ h
   replace h := hA24
   refine st_ord [1, 1] _ rfl ?_
   exact hk8 _ _ _ ⟨(r35, s24.2.2.1, s24.2.2.2.1, s24.2.2.2.2.1, s24.2.2.2.2.2.1, s24.2.2.2.2.2.2.1, s24.2.2.2.2.2.2.2.1, s24.2.2.2.2.2.2.2.2.1, s24.2.2.2.2.2.2.2.2.2.1, s24.2.2.2.2.2.2.2.2.2.2.1, s24.2.2.2.2.2.2.2.2.2.2.2.1, s24.2.2.2.2.2.2.2.2.2.2.2.2), _, _, h, ((hl21.trans hl24).trans hl38), rfl, rfl, (hs26.up hl38), (hs28.up hl38)⟩
  ·refine ZZ 4 [2, 0] rfl rfl ?_
   obtain ⟨r39, hr40, h⟩ := h
   refine st_call (foot := []) rfl rfl rfl rfl rfl rfl (callV_fn z_en51 (msg_without_ok hr40 τ37 (hs26.up hl38) (hs28.up hl38))) ?_
   rintro vτ41 τ41 gsτ41 hl42 ⟨v43, v44, rfl, rfl, hs45, hs46⟩
   refine o_store (j := 2) (vs := [.int .i64 r39.1, .int .i64 (r39.2.1.getD 0 0), .int .i64 (r39.2.1.getD 1 0), .int .i64 (r39.2.1.getD 2 0), .int .i64 (r39.2.1.getD 3 0), .int .i64 (r39.2.1.getD 4 0), .int .i64 (r39.2.1.getD 5 0), v43, v44, .string r39.2.2.2.2.1, .string r39.2.2.2.2.2]) (cs' := [.int .i64 r39.1, .int .i64 (r39.2.1.getD 0 0), .int .i64 (r39.2.1.getD 1 0), .int .i64 (r39.2.1.getD 2 0), .int .i64 (r39.2.1.getD 3 0), .int .i64 (r39.2.1.getD 4 0), .int .i64 (r39.2.1.getD 5 0), v43, v44, .string r39.2.2.2.2.1, .string r39.2.2.2.2.2]) rfl rfl rfl z_size39 rfl rfl rfl (ones_cons rfl (ones_cons rfl (ones_cons rfl (ones_cons rfl (ones_cons rfl (ones_cons rfl (ones_cons rfl (ones_cons hs45.one' (ones_cons hs46.one' (ones_cons rfl (ones_cons rfl ones_nil))))))))))) rfl rfl rfl ?_
   refine st_gs [[(b34, .cells #[.string q29.1, .int .i64 q29.2.1, .int .i64 q29.2.2.1, .int .i64 q29.2.2.2.1, .int .i64 q29.2.2.2.2.1, .int .i64 q29.2.2.2.2.2.1, .int .i64 q29.2.2.2.2.2.2] 102 (0, 0))], [(b5, .cells #[.int .i64 a0.1, .int .i64 (a0.2.1.getD 0 0), .int .i64 (a0.2.1.getD 1 0), .int .i64 (a0.2.1.getD 2 0), .int .i64 (a0.2.1.getD 3 0), .int .i64 (a0.2.1.getD 4 0), .int .i64 (a0.2.1.getD 5 0), v1, v2, .string a0.2.2.2.2.1, .string a0.2.2.2.2.2] 39 (0, 0))], [(b6, .cells #[.int .i64 r39.1, .int .i64 (r39.2.1.getD 0 0), .int .i64 (r39.2.1.getD 1 0), .int .i64 (r39.2.1.getD 2 0), .int .i64 (r39.2.1.getD 3 0), .int .i64 (r39.2.1.getD 4 0), .int .i64 (r39.2.1.getD 5 0), v43, v44, .string r39.2.2.2.2.1, .string r39.2.2.2.2.2] 39 (0, 0))]] rfl ?_
   refine Z 6 rfl ?_
   refine st_ord [1, 1] _ rfl ?_
   exact hn24 _ _ _ _ h ⟨((hl24.trans hl38).trans hl42), _, _, rfl, rfl, hs45, hs46⟩
 ·refine st_exit rfl ?_
  obtain rfl := he24 _ h
  replace h := hA24
  exact hk8 _ _ _ ⟨(s24.1, s24.2.2.1, s24.2.2.2.1, s24.2.2.2.2.1, s24.2.2.2.2.2.1, s24.2.2.2.2.2.2.1, s24.2.2.2.2.2.2.2.1, s24.2.2.2.2.2.2.2.2.1, s24.2.2.2.2.2.2.2.2.2.1, s24.2.2.2.2.2.2.2.2.2.2.1, s24.2.2.2.2.2.2.2.2.2.2.2.1, s24.2.2.2.2.2.2.2.2.2.2.2.2), _, _, h, (hl21.trans hl24), rfl, rfl, hs26, hs28⟩
theorem field_Find_ok {a0 : Int} {a1 : ByteArray} {r : (ByteArray × Int × Int × Int × Int × Int × Int) × Bool} (h : field_Find a0 a1 r) (σ : Sto)  :
    Does Tryd.prog 84 [.int .i64 a0, .string a1] σ [] (fun v τ gs => gs = [] ∧ .tuple [.agg [.string r.1.1, .int .i64 r.1.2.1, .int .i64 r.1.2.2.1, .int .i64 r.1.2.2.2.1, .int .i64 r.1.2.2.2.2.1, .int .i64 r.1.2.2.2.2.2.1, .int .i64 r.1.2.2.2.2.2.2].toArray, .bool r.2].toArray = v) := by
 refine call_of Tryd.func84 Tryd.ntmps84 rfl rfl (fun cs fs => ?_)
 refine Z 2 rfl ?_
 refine o_alloc rfl rfl rfl z_zero102 (fun b1 => ?_)
 refine Z 5 rfl ?_
 refine o_alloc rfl rfl rfl z_zero102 (fun b2 => ?_)
 refine Z 4 rfl ?_
 refine st_cut (fun ρ τ3 gs => ∃ (s3 : ByteArray × Int × Int × Int × Int × Int × Int), field_Find_j1 s3 r ∧ σ.Le τ3 ∧ ESub ρ [(4, .pointer (some ⟨b1, 0, none⟩)), (5, .bool false), (6, .pointer (some ⟨b2, 0, none⟩))] ∧ gs = [[(b1, .cells #[.string (bstr []), .int .i64 0, .int .i64 0, .int .i64 0, .int .i64 0, .int .i64 0, .int .i64 0] 102 (0, 0))], [(b2, .cells #[.string s3.1, .int .i64 s3.2.1, .int .i64 s3.2.2.1, .int .i64 s3.2.2.2.1, .int .i64 s3.2.2.2.2.1, .int .i64 s3.2.2.2.2.2.1, .int .i64 s3.2.2.2.2.2.2] 102 (0, 0))]]) ?_ (fun hk3 => ?_)
 ·rintro ρ3 τ3 gs3 ⟨s3, h, hl3, hρ, rfl⟩
  refine st_es hρ ?_
  refine st_seq ?_
  refine st_ord [1, 0] _ rfl ?_
  refine st_d41 [[(b2, .cells #[.string s3.1, .int .i64 s3.2.1, .int .i64 s3.2.2.1, .int .i64 s3.2.2.2.1, .int .i64 s3.2.2.2.2.1, .int .i64 s3.2.2.2.2.2.1, .int .i64 s3.2.2.2.2.2.2] 102 (0, 0))]] [[(b1, .cells #[.string (bstr []), .int .i64 0, .int .i64 0, .int .i64 0, .int .i64 0, .int .i64 0, .int .i64 0] 102 (0, 0))]] 5 1 [none, none, none, none, some (0, 0)] [none, none, none, none, none] [[none, none]] [.v (.agg #[.string s3.1, .int .i64 s3.2.1, .int .i64 s3.2.2.1, .int .i64 s3.2.2.2.1, .int .i64 s3.2.2.2.2.1, .int .i64 s3.2.2.2.2.2.1, .int .i64 s3.2.2.2.2.2.2]), .v (.agg #[.string s3.1, .int .i64 s3.2.1, .int .i64 s3.2.2.1, .int .i64 s3.2.2.2.1, .int .i64 s3.2.2.2.2.1, .int .i64 s3.2.2.2.2.2.1, .int .i64 s3.2.2.2.2.2.2]), .v (.agg #[.string (bstr []), .int .i64 0, .int .i64 0, .int .i64 0, .int .i64 0, .int .i64 0, .int .i64 0]), .v (.bool (!((decide (s3.1 = (bstr []))) && ((decide (s3.2.1 = 0)) && ((decide (s3.2.2.1 = 0)) && ((decide (s3.2.2.2.1 = 0)) && ((decide (s3.2.2.2.2.1 = 0)) && ((decide (s3.2.2.2.2.2.1 = 0)) && ((decide (s3.2.2.2.2.2.2 = 0)) && true))))))))), .t fun _ _ => True] [[fun τ u F => F = [[(b1, .cells #[.string (bstr []), .int .i64 0, .int .i64 0, .int .i64 0, .int .i64 0, .int .i64 0, .int .i64 0] 102 (0, 0))]], fun τ u F => F = [[(b1, .cells #[.string s3.1, .int .i64 s3.2.1, .int .i64 s3.2.2.1, .int .i64 s3.2.2.2.1, .int .i64 s3.2.2.2.2.1, .int .i64 s3.2.2.2.2.2.1, .int .i64 s3.2.2.2.2.2.2] 102 (0, 0))]]]] rfl z_mix rfl ⟨fun _ _ _ _ _ => trivial, trivial⟩ ⟨⟨fun _ _ _ _ hl h => h, ⟨fun _ _ _ _ hl h => h, trivial⟩⟩, trivial⟩ rfl rfl ?_ (allB_cons (allB_cons (allB_cons (allB_cons (allB_cons allB_nil ?_) ?_) ?_) ?_) ?_) ?_
  ·exact rfl
  ·intro ρ' τ pool rs hl hd hout hw hk
   refine o_loadN (j := 0) (vs := [.string s3.1, .int .i64 s3.2.1, .int .i64 s3.2.2.1, .int .i64 s3.2.2.2.1, .int .i64 s3.2.2.2.2.1, .int .i64 s3.2.2.2.2.2.1, .int .i64 s3.2.2.2.2.2.2]) rfl rfl rfl z_agg102 ((hout 6 rfl).trans rfl) rfl rfl ?_
   exact hk _ _ (Sto.Le.refl _) rfl
  ·intro ρ' τ pool rs hl hd hout hw hk
   refine o_loadN (j := 0) (vs := [.string s3.1, .int .i64 s3.2.1, .int .i64 s3.2.2.1, .int .i64 s3.2.2.2.1, .int .i64 s3.2.2.2.2.1, .int .i64 s3.2.2.2.2.2.1, .int .i64 s3.2.2.2.2.2.2]) rfl rfl rfl z_agg102 ((hout 6 rfl).trans rfl) rfl rfl ?_
   exact hk _ _ (Sto.Le.refl _) rfl
  ·intro ρ' τ pool rs hl hd hout hw hk
   refine ZZ 1 [] rfl rfl ?_
   exact hk _ _ (Sto.Le.refl _) rfl
  ·intro ρ' τ pool rs hl hd hout hw hk
   obtain ⟨_, e1, rfl⟩ := hd 1 rfl _ rfl
   obtain ⟨_, e2, rfl⟩ := hd 2 rfl _ rfl
   refine o_aggEq (b := ((decide (s3.1 = (bstr []))) && ((decide (s3.2.1 = 0)) && ((decide (s3.2.2.1 = 0)) && ((decide (s3.2.2.2.1 = 0)) && ((decide (s3.2.2.2.2.1 = 0)) && ((decide (s3.2.2.2.2.2.1 = 0)) && ((decide (s3.2.2.2.2.2.2 = 0)) && true)))))))) (e := (!((decide (s3.1 = (bstr []))) && ((decide (s3.2.1 = 0)) && ((decide (s3.2.2.1 = 0)) && ((decide (s3.2.2.2.1 = 0)) && ((decide (s3.2.2.2.2.1 = 0)) && ((decide (s3.2.2.2.2.2.1 = 0)) && ((decide (s3.2.2.2.2.2.2 = 0)) && true))))))))) rfl rfl rfl z_eqg102 e1 e2 (fun w => by refine eq_struct Tryd.underlying102 z_held102 ?_; refine eqf_cons (r := (decide (s3.1 = (bstr [])))) (r' := ((decide (s3.2.1 = 0)) && ((decide (s3.2.2.1 = 0)) && ((decide (s3.2.2.2.1 = 0)) && ((decide (s3.2.2.2.2.1 = 0)) && ((decide (s3.2.2.2.2.2.1 = 0)) && ((decide (s3.2.2.2.2.2.2 = 0)) && true))))))) rfl (part_one z_sc9 rfl) (part_one z_sc9 rfl) (by exact eq_str Tryd.underlying9 _ _) ?_; refine eqf_cons (r := (decide (s3.2.1 = 0))) (r' := ((decide (s3.2.2.1 = 0)) && ((decide (s3.2.2.2.1 = 0)) && ((decide (s3.2.2.2.2.1 = 0)) && ((decide (s3.2.2.2.2.2.1 = 0)) && ((decide (s3.2.2.2.2.2.2 = 0)) && true)))))) rfl (part_one z_sc3 rfl) (part_one z_sc3 rfl) (by exact eq_int Tryd.underlying3 _ _) ?_; refine eqf_cons (r := (decide (s3.2.2.1 = 0))) (r' := ((decide (s3.2.2.2.1 = 0)) && ((decide (s3.2.2.2.2.1 = 0)) && ((decide (s3.2.2.2.2.2.1 = 0)) && ((decide (s3.2.2.2.2.2.2 = 0)) && true))))) rfl (part_one z_sc3 rfl) (part_one z_sc3 rfl) (by exact eq_int Tryd.underlying3 _ _) ?_; refine eqf_cons (r := (decide (s3.2.2.2.1 = 0))) (r' := ((decide (s3.2.2.2.2.1 = 0)) && ((decide (s3.2.2.2.2.2.1 = 0)) && ((decide (s3.2.2.2.2.2.2 = 0)) && true)))) rfl (part_one z_sc3 rfl) (part_one z_sc3 rfl) (by exact eq_int Tryd.underlying3 _ _) ?_; refine eqf_cons (r := (decide (s3.2.2.2.2.1 = 0))) (r' := ((decide (s3.2.2.2.2.2.1 = 0)) && ((decide (s3.2.2.2.2.2.2 = 0)) && true))) rfl (part_one z_sc3 rfl) (part_one z_sc3 rfl) (by exact eq_int Tryd.underlying3 _ _) ?_; refine eqf_cons (r := (decide (s3.2.2.2.2.2.1 = 0))) (r' := ((decide (s3.2.2.2.2.2.2 = 0)) && true)) rfl (part_one z_sc3 rfl) (part_one z_sc3 rfl) (by exact eq_int Tryd.underlying3 _ _) ?_; refine eqf_cons (r := (decide (s3.2.2.2.2.2.2 = 0))) (r' := true) rfl (part_one z_sc3 rfl) (part_one z_sc3 rfl) (by exact eq_int Tryd.underlying3 _ _) ?_; exact eqf_nil _ _ _ _) rfl ?_
   exact hk _ _ (Sto.Le.refl _) rfl
  ·intro ρ' τ u Fv pool rs hl hI hu hd hout hw hk
   obtain ⟨_, e0, rfl⟩ := hd 0 rfl _ rfl
   have hI0 := hI
   obtain rfl := hI
   refine st_gs [[(b2, .cells #[.string s3.1, .int .i64 s3.2.1, .int .i64 s3.2.2.1, .int .i64 s3.2.2.2.1, .int .i64 s3.2.2.2.2.1, .int .i64 s3.2.2.2.2.2.1, .int .i64 s3.2.2.2.2.2.2] 102 (0, 0))], [(b1, .cells #[.string (bstr []), .int .i64 0, .int .i64 0, .int .i64 0, .int .i64 0, .int .i64 0, .int .i64 0] 102 (0, 0))], pool] rfl ?_
   refine o_store (j := 1) (vs := [.string s3.1, .int .i64 s3.2.1, .int .i64 s3.2.2.1, .int .i64 s3.2.2.2.1, .int .i64 s3.2.2.2.2.1, .int .i64 s3.2.2.2.2.2.1, .int .i64 s3.2.2.2.2.2.2]) (cs' := [.string s3.1, .int .i64 s3.2.1, .int .i64 s3.2.2.1, .int .i64 s3.2.2.2.1, .int .i64 s3.2.2.2.2.1, .int .i64 s3.2.2.2.2.2.1, .int .i64 s3.2.2.2.2.2.2]) rfl rfl rfl z_size102 ((hout 4 rfl).trans rfl) e0 rfl (ones_cons rfl (ones_cons rfl (ones_cons rfl (ones_cons rfl (ones_cons rfl (ones_cons rfl (ones_cons rfl ones_nil))))))) rfl rfl rfl ?_
   refine st_gs [[(b2, .cells #[.string s3.1, .int .i64 s3.2.1, .int .i64 s3.2.2.1, .int .i64 s3.2.2.2.1, .int .i64 s3.2.2.2.2.1, .int .i64 s3.2.2.2.2.2.1, .int .i64 s3.2.2.2.2.2.2] 102 (0, 0))], [(b1, .cells #[.string s3.1, .int .i64 s3.2.1, .int .i64 s3.2.2.1, .int .i64 s3.2.2.2.1, .int .i64 s3.2.2.2.2.1, .int .i64 s3.2.2.2.2.2.1, .int .i64 s3.2.2.2.2.2.2] 102 (0, 0))], pool] rfl ?_
   exact hk _ _ [[(b1, .cells #[.string s3.1, .int .i64 s3.2.1, .int .i64 s3.2.2.1, .int .i64 s3.2.2.2.1, .int .i64 s3.2.2.2.2.1, .int .i64 s3.2.2.2.2.2.1, .int .i64 s3.2.2.2.2.2.2] 102 (0, 0))]] (Sto.Le.refl _) trivial (by exact rfl)
  intro ρ' τ4 vals u Fv hl4 hI hu hv hout
  obtain rfl := hI
  refine st_gs [[(b2, .cells #[.string s3.1, .int .i64 s3.2.1, .int .i64 s3.2.2.1, .int .i64 s3.2.2.2.1, .int .i64 s3.2.2.2.2.1, .int .i64 s3.2.2.2.2.2.1, .int .i64 s3.2.2.2.2.2.2] 102 (0, 0))], [(b1, .cells #[.string s3.1, .int .i64 s3.2.1, .int .i64 s3.2.2.1, .int .i64 s3.2.2.2.1, .int .i64 s3.2.2.2.2.1, .int .i64 s3.2.2.2.2.2.1, .int .i64 s3.2.2.2.2.2.2] 102 (0, 0))]] rfl ?_
  refine st_env (ρ' := [(25, .bool (!((decide (s3.1 = (bstr []))) && ((decide (s3.2.1 = 0)) && ((decide (s3.2.2.1 = 0)) && ((decide (s3.2.2.2.1 = 0)) && ((decide (s3.2.2.2.2.1 = 0)) && ((decide (s3.2.2.2.2.2.1 = 0)) && ((decide (s3.2.2.2.2.2.2 = 0)) && true))))))))), (4, .pointer (some ⟨b1, 0, none⟩)), (5, .bool false)]) ⟨(lv4 hv 3 rfl rfl rfl), (hout 4 rfl).trans rfl, (hout 5 rfl).trans rfl, trivial⟩ ?_
  refine Z 2 rfl ?_
  obtain rfl := Eq.symm h
  exact st_retC (gs' := []) [.agg #[.string s3.1, .int .i64 s3.2.1, .int .i64 s3.2.2.1, .int .i64 s3.2.2.2.1, .int .i64 s3.2.2.2.2.1, .int .i64 s3.2.2.2.2.2.1, .int .i64 s3.2.2.2.2.2.2], .bool (!((decide (s3.1 = (bstr []))) && ((decide (s3.2.1 = 0)) && ((decide (s3.2.2.1 = 0)) && ((decide (s3.2.2.2.1 = 0)) && ((decide (s3.2.2.2.2.1 = 0)) && ((decide (s3.2.2.2.2.2.1 = 0)) && ((decide (s3.2.2.2.2.2.2 = 0)) && true))))))))] Tryd.func84 ⟨⟨_, _, _, _, rfl, mem_flat 1 rfl, fun w hw => cellOfN (vs := [.string s3.1, .int .i64 s3.2.1, .int .i64 s3.2.2.1, .int .i64 s3.2.2.2.1, .int .i64 s3.2.2.2.2.1, .int .i64 s3.2.2.2.2.2.1, .int .i64 s3.2.2.2.2.2.2]) z_agg102 rfl w hw⟩, rfl, trivial⟩ (by simp) (hl3.trans hl4) ⟨rfl, rfl⟩
 refine Z 3 rfl ?_
 obtain ⟨r5, hr6, h⟩ := h
 refine st_call (foot := []) rfl rfl rfl rfl rfl rfl (callV_fn z_en49 (field_Of_ok hr6 σ)) ?_
 rintro vτ7 τ7 gsτ7 hl8 ⟨v9, rfl, rfl, hs10⟩
 refine o_lenI rfl rfl rfl z_slT99 rfl hs10 ?_
 refine Z 2 rfl ?_
 obtain ⟨e11, hL11, hA11⟩ := h
 refine st_ord [1, 0] _ rfl ?_
 refine st_loop hL11 (fun (s11 : Int) ρ τ11 gs => τ7.Le τ11 ∧ ESub ρ [(1, .string a1), (4, .pointer (some ⟨b1, 0, none⟩)), (5, .bool false), (6, .pointer (some ⟨b2, 0, none⟩)), (10, v9), (11, .int .i64 (r5.length : Int)), (12, .int .i64 s11)] ∧ gs = [[(b1, .cells #[.string (bstr []), .int .i64 0, .int .i64 0, .int .i64 0, .int .i64 0, .int .i64 0, .int .i64 0] 102 (0, 0))], [(b2, .cells #[.string (bstr []), .int .i64 0, .int .i64 0, .int .i64 0, .int .i64 0, .int .i64 0, .int .i64 0] 102 (0, 0))]]) ⟨Sto.Le.refl _, rfl, rfl⟩ ?_
 rintro s11 o11 h he11 ρ11 τ11 gs11 ⟨hl11, hρ, rfl⟩ hn11
 refine st_es hρ ?_
 refine Z 5 rfl ?_
 refine st_if rfl h (fun h => ?_) (fun h => ?_)
 ·refine Z 5 rfl ?_
  obtain ⟨q12, hf13, h⟩ := h
  refine o_index rfl rfl rfl z_slT99 rfl rfl (hs10.up hl11) rfl hf13 (fun b14 of15 vs hc16 hrep => ?_)
  obtain ⟨_, _, rfl, rfl, ⟨_, _, rfl, rfl, ⟨_, _, rfl, rfl, ⟨_, _, rfl, rfl, ⟨_, _, rfl, rfl, ⟨_, _, rfl, rfl, rfl⟩⟩⟩⟩⟩⟩ := hrep
  refine o_loadIN (vs := [.string q12.1, .int .i64 q12.2.1, .int .i64 q12.2.2.1, .int .i64 q12.2.2.2.1, .int .i64 q12.2.2.2.2.1, .int .i64 q12.2.2.2.2.2.1, .int .i64 q12.2.2.2.2.2.2]) rfl rfl rfl z_agg102 rfl rfl (celn_part 0 rfl hc16) ?_
  refine o_alloc rfl rfl rfl z_zero102 (fun b17 => ?_)
  refine ZZ 9 [0, 0] rfl rfl ?_
  refine st_if rfl h (fun h => ?_) (fun h => ?_)
  ·refine ZZ 6 [0, 2] rfl rfl ?_
   obtain rfl := he11 _ h
   replace h := hA11
   refine st_ord [1, 1] _ rfl ?_
   exact hk3 _ _ _ ⟨(q12.1, q12.2.1, q12.2.2.1, q12.2.2.2.1, q12.2.2.2.2.1, q12.2.2.2.2.2.1, q12.2.2.2.2.2.2), h, (hl8.trans hl11), rfl, rfl⟩
  ·refine Z 6 rfl ?_
   refine st_ord [1, 1] _ rfl ?_
   exact hn11 _ _ _ _ h ⟨hl11, rfl, rfl⟩
 ·refine st_exit rfl ?_
  obtain rfl := he11 _ h
  replace h := hA11
  exact hk3 _ _ _ ⟨((bstr []), 0, 0, 0, 0, 0, 0), h, (hl8.trans hl11), rfl, rfl⟩
theorem msg_Get_ok {a0 : Int × List Int × List (Int × Int) × List Int × ByteArray × ByteArray} {a1 : ByteArray} {v1 : Value} {v2 : Value} {r : Int × Bool} (h : msg_Get a0 a1 r) (σ : Sto) (hs3 : Sl (kP (kI .i64) (kI .i64)) σ v1 a0.2.2.1) (hs4 : Sl (kI .i64) σ v2 a0.2.2.2.1) :
    Does Tryd.prog 72 [.agg [.int .i64 a0.1, .int .i64 (a0.2.1.getD 0 0), .int .i64 (a0.2.1.getD 1 0), .int .i64 (a0.2.1.getD 2 0), .int .i64 (a0.2.1.getD 3 0), .int .i64 (a0.2.1.getD 4 0), .int .i64 (a0.2.1.getD 5 0), v1, v2, .string a0.2.2.2.2.1, .string a0.2.2.2.2.2].toArray, .string a1] σ [] (fun v τ gs => gs = [] ∧ .tuple [.int .i64 r.1, .bool r.2].toArray = v) := by
 refine call_of Tryd.func72 Tryd.ntmps72 rfl rfl (fun cs fs => ?_)
 refine Z 2 rfl ?_
 refine o_box (cs := [.int .i64 a0.1, .int .i64 (a0.2.1.getD 0 0), .int .i64 (a0.2.1.getD 1 0), .int .i64 (a0.2.1.getD 2 0), .int .i64 (a0.2.1.getD 3 0), .int .i64 (a0.2.1.getD 4 0), .int .i64 (a0.2.1.getD 5 0), v1, v2, .string a0.2.2.2.2.1, .string a0.2.2.2.2.2]) rfl rfl rfl rfl rfl (fun b5 => ?_)
 refine ZZ 8 [0] rfl rfl ?_
 obtain ⟨r6, hr7, h⟩ := h
 refine st_call (foot := []) rfl rfl rfl rfl rfl rfl (callV_fn z_en84 (field_Find_ok hr7 σ)) ?_
 rintro vτ8 τ8 gsτ8 hl9 ⟨rfl, rfl⟩
 refine Z 3 rfl ?_
 refine o_alloc rfl rfl rfl z_zero102 (fun b10 => ?_)
 refine ZZ 5 [0] rfl rfl ?_
 refine st_cut (fun ρ τ11 gs => ∃ (s11 : Bool), msg_Get_j1 a0 r6 s11 r ∧ τ8.Le τ11 ∧ ESub ρ [(2, .pointer (some ⟨b5, 0, none⟩)), (4, .int .i64 0), (5, .bool false), (6, .pointer (some ⟨b10, 0, none⟩)), (21, .bool s11)] ∧ gs = [[(b5, .cells #[.int .i64 a0.1, .int .i64 (a0.2.1.getD 0 0), .int .i64 (a0.2.1.getD 1 0), .int .i64 (a0.2.1.getD 2 0), .int .i64 (a0.2.1.getD 3 0), .int .i64 (a0.2.1.getD 4 0), .int .i64 (a0.2.1.getD 5 0), v1, v2, .string a0.2.2.2.2.1, .string a0.2.2.2.2.2] 39 (0, 0))], [(b10, .cells #[.string r6.1.1, .int .i64 r6.1.2.1, .int .i64 r6.1.2.2.1, .int .i64 r6.1.2.2.2.1, .int .i64 r6.1.2.2.2.2.1, .int .i64 r6.1.2.2.2.2.2.1, .int .i64 r6.1.2.2.2.2.2.2] 102 (0, 0))]]) ?_ (fun hk11 => ?_)
 ·rintro ρ11 τ11 gs11 ⟨s11, h, hl11, hρ, rfl⟩
  refine st_es hρ ?_
  refine st_if rfl h (fun h => ?_) (fun h => ?_)
  ·refine Z 5 rfl ?_
   refine st_ord [] _ rfl ?_
   obtain rfl := Eq.symm h
   exact st_ret (gs' := []) Tryd.func72 rfl (List.Sublist.refl _) (hl9.trans hl11) ⟨rfl, rfl⟩
  ·refine ZZ 6 [1] rfl rfl ?_
   obtain ⟨hf12, hf13, h⟩ := h
   refine o_indexA rfl rfl rfl z_arr35 rfl rfl hf12 hf13 ?_
   refine o_loadV (j := 0) (r6.1.2.2.1.toNat) (f := (Value.int .i64)) (zz := 0) (l := 6) (xs := a0.2.1) [.int .i64 a0.1] [v1, v2, .string a0.2.2.2.2.1, .string a0.2.2.2.2.2] rfl rfl rfl z_sc3 rfl rfl (by simp only [List.length_cons, List.length_nil] <;> omega) (by omega) ?_
   refine Z 3 rfl ?_
   refine st_ord [] _ rfl ?_
   obtain rfl := Eq.symm h
   exact st_ret (gs' := []) Tryd.func72 rfl (List.Sublist.refl _) (hl9.trans hl11) ⟨rfl, rfl⟩
 refine Z 3 rfl ?_
 refine o_mif rfl rfl rfl rfl h (fun h => ?_) (fun h => ?_)
 ·refine Z 5 rfl ?_
  refine st_ord [1, 0] _ rfl ?_
  exact hk11 _ _ _ ⟨true, h, (Sto.Le.refl _), rfl, rfl⟩
 ·refine ZZ 5 [0] rfl rfl ?_
  refine st_ord [1, 0] _ rfl ?_
  exact hk11 _ _ _ ⟨(decide (r6.1.2.2.1 < 0)), h, (Sto.Le.refl _), rfl, rfl⟩
theorem fleet_value_ok {a0 : Int × List Int × List (Int × Int) × List Int × ByteArray × ByteArray} {a1 : ByteArray} {v1 : Value} {v2 : Value} {r : Int} (h : fleet_value a0 a1 r) (σ : Sto) (hs3 : Sl (kP (kI .i64) (kI .i64)) σ v1 a0.2.2.1) (hs4 : Sl (kI .i64) σ v2 a0.2.2.2.1) :
    Does Tryd.prog 53 [.agg [.int .i64 a0.1, .int .i64 (a0.2.1.getD 0 0), .int .i64 (a0.2.1.getD 1 0), .int .i64 (a0.2.1.getD 2 0), .int .i64 (a0.2.1.getD 3 0), .int .i64 (a0.2.1.getD 4 0), .int .i64 (a0.2.1.getD 5 0), v1, v2, .string a0.2.2.2.2.1, .string a0.2.2.2.2.2].toArray, .string a1] σ [] (fun v τ gs => gs = [] ∧ .int .i64 r = v) := by
 refine call_of Tryd.func53 Tryd.ntmps53 rfl rfl (fun cs fs => ?_)
 refine Z 2 rfl ?_
 refine o_box (cs := [.int .i64 a0.1, .int .i64 (a0.2.1.getD 0 0), .int .i64 (a0.2.1.getD 1 0), .int .i64 (a0.2.1.getD 2 0), .int .i64 (a0.2.1.getD 3 0), .int .i64 (a0.2.1.getD 4 0), .int .i64 (a0.2.1.getD 5 0), v1, v2, .string a0.2.2.2.2.1, .string a0.2.2.2.2.2]) rfl rfl rfl rfl rfl (fun b5 => ?_)
 refine ZZ 6 [0] rfl rfl ?_
 obtain ⟨r6, hr7, h⟩ := h
 refine st_call (foot := []) rfl rfl rfl rfl rfl rfl (callV_fn z_en72 (msg_Get_ok hr7 σ hs3 hs4)) ?_
 rintro vτ8 τ8 gsτ8 hl9 ⟨rfl, rfl⟩
 refine Z 11 rfl ?_
 refine st_ord [] _ rfl ?_
 obtain rfl := Eq.symm h
 exact st_ret (gs' := []) Tryd.func53 rfl (List.Sublist.refl _) hl9 ⟨rfl, rfl⟩
theorem fleet_Fleet_apply_ok {a0 : List (Int × (Int × Int × Int × Int × Int × Bool × Bool × Int × Int × List (Int × Int) × Int × Int)) × List ((Int × Int) × List Int)} {a1 : Int × List Int × List (Int × Int) × List Int × ByteArray × ByteArray} {ba0 : Nat} {v1 : Value} {g2 : Grp} {v3 : Value} {g4 : Grp} {v7 : Value} {v8 : Value} {r : (List (Int × (Int × Int × Int × Int × Int × Bool × Bool × Int × Int × List (Int × Int) × Int × Int)) × List ((Int × Int) × List Int))} (h : fleet_Fleet_apply a0 a1 r) (σ : Sto) (ho5 : Mp (Value.int .i64) (rK (kP (kI .i64) (kP (kI .i64) (kP (kI .i64) (kP (kI .i64) (kP (kI .i64) (kP kB (kP kB (kP (kI .i64) (kP (kI .i64) (kP (kSl (kP (kI .i64) (kI .i64))) (kP (kI .i64) (kI .i64))))))))))))) σ v1 a0.1 g2) (ho6 : Mp kPr (rSl (kI .i64)) σ v3 a0.2 g4) (hs9 : Sl (kP (kI .i64) (kI .i64)) σ v7 a1.2.2.1) (hs10 : Sl (kI .i64) σ v8 a1.2.2.2.1) :
    Does Tryd.prog 31 [.pointer (some ⟨ba0, 0, none⟩), .agg [.int .i64 a1.1, .int .i64 (a1.2.1.getD 0 0), .int .i64 (a1.2.1.getD 1 0), .int .i64 (a1.2.1.getD 2 0), .int .i64 (a1.2.1.getD 3 0), .int .i64 (a1.2.1.getD 4 0), .int .i64 (a1.2.1.getD 5 0), v7, v8, .string a1.2.2.2.2.1, .string a1.2.2.2.2.2].toArray] σ [[(ba0, .cells [v1, v3].toArray 66 (0, 0))], g2, g4] (fun v τ gs => ∃ (v89 : Value) (g90 : Grp) (v91 : Value) (g92 : Grp), gs = [[(ba0, .cells [v89, v91].toArray 66 (0, 0))], g90, g92] ∧ .tuple [].toArray = v ∧ Mp (Value.int .i64) (rK (kP (kI .i64) (kP (kI .i64) (kP (kI .i64) (kP (kI .i64) (kP (kI .i64) (kP kB (kP kB (kP (kI .i64) (kP (kI .i64) (kP (kSl (kP (kI .i64) (kI .i64))) (kP (kI .i64) (kI .i64))))))))))))) τ v89 r.1 g90 ∧ Mp kPr (rSl (kI .i64)) τ v91 r.2 g92) := by
 refine call_of Tryd.func31 Tryd.ntmps31 rfl rfl (fun cs fs => ?_)
 refine Z 2 rfl ?_
 refine o_box (cs := [.int .i64 a1.1, .int .i64 (a1.2.1.getD 0 0), .int .i64 (a1.2.1.getD 1 0), .int .i64 (a1.2.1.getD 2 0), .int .i64 (a1.2.1.getD 3 0), .int .i64 (a1.2.1.getD 4 0), .int .i64 (a1.2.1.getD 5 0), v7, v8, .string a1.2.2.2.2.1, .string a1.2.2.2.2.2]) rfl rfl rfl rfl rfl (fun b11 => ?_)
 refine ZZ 4 [0] rfl rfl ?_
 obtain ⟨r12, hr13, h⟩ := h
 refine st_call (foot := []) rfl rfl rfl rfl (evs_cons rfl (evs_cons (ev_str z_str30) rfl)) rfl (callV_fn z_en53 (fleet_value_ok hr13 σ hs9 hs10)) ?_
 rintro vτ14 τ14 gsτ14 hl15 ⟨rfl, rfl⟩
 refine ZZ 9 [1] rfl rfl ?_
 refine o_lookR (rv := (rK (kP (kI .i64) (kP (kI .i64) (kP (kI .i64) (kP (kI .i64) (kP (kI .i64) (kP kB (kP kB (kP (kI .i64) (kP (kI .i64) (kP (kSl (kP (kI .i64) (kI .i64))) (kP (kI .i64) (kI .i64)))))))))))))) (q0 := (0, 0, 0, 0, 0, false, false, 0, 0, [], 0, 0)) (j := 2) (a := r12) rfl rfl rfl z_map63 (keyI Tryd.underlying3) z_zeroV75 ⟨[.int .i64 0, .int .i64 0, .int .i64 0, .int .i64 0, .int .i64 0, .bool false, .bool false, .int .i64 0, .int .i64 0, .slice none 0 0, .int .i64 0, .int .i64 0], ⟨[.int .i64 0], _, rfl, rfl, ⟨[.int .i64 0], _, rfl, rfl, ⟨[.int .i64 0], _, rfl, rfl, ⟨[.int .i64 0], _, rfl, rfl, ⟨[.int .i64 0], _, rfl, rfl, ⟨[.bool false], _, rfl, rfl, ⟨[.bool false], _, rfl, rfl, ⟨[.int .i64 0], _, rfl, rfl, ⟨[.int .i64 0], _, rfl, rfl, ⟨[.slice none 0 0], _, rfl, ⟨_, rfl, Sl.nil⟩, ⟨[.int .i64 0], _, rfl, rfl, rfl⟩⟩⟩⟩⟩⟩⟩⟩⟩⟩⟩, rfl⟩ rfl (ho5.up hl15) rfl rfl (fun v16 hv17 => ?_)
 obtain ⟨_, ⟨_, _, rfl, rfl, ⟨_, _, rfl, rfl, ⟨_, _, rfl, rfl, ⟨_, _, rfl, rfl, ⟨_, _, rfl, rfl, ⟨_, _, rfl, rfl, ⟨_, _, rfl, rfl, ⟨_, _, rfl, rfl, ⟨_, _, rfl, rfl, ⟨_, _, rfl, ⟨v18, rfl, hs19⟩, ⟨_, _, rfl, rfl, rfl⟩⟩⟩⟩⟩⟩⟩⟩⟩⟩⟩, rfl⟩ := hv17
 refine o_alloc rfl rfl rfl z_zero75 (fun b20 => ?_)
 refine o_store (j := 0) (vs := [.int .i64 (((mget a0.1 r12).getD (0, 0, 0, 0, 0, false, false, 0, 0, [], 0, 0)).1), .int .i64 (((mget a0.1 r12).getD (0, 0, 0, 0, 0, false, false, 0, 0, [], 0, 0)).2.1), .int .i64 (((mget a0.1 r12).getD (0, 0, 0, 0, 0, false, false, 0, 0, [], 0, 0)).2.2.1), .int .i64 (((mget a0.1 r12).getD (0, 0, 0, 0, 0, false, false, 0, 0, [], 0, 0)).2.2.2.1), .int .i64 (((mget a0.1 r12).getD (0, 0, 0, 0, 0, false, false, 0, 0, [], 0, 0)).2.2.2.2.1), .bool (((mget a0.1 r12).getD (0, 0, 0, 0, 0, false, false, 0, 0, [], 0, 0)).2.2.2.2.2.1), .bool (((mget a0.1 r12).getD (0, 0, 0, 0, 0, false, false, 0, 0, [], 0, 0)).2.2.2.2.2.2.1), .int .i64 (((mget a0.1 r12).getD (0, 0, 0, 0, 0, false, false, 0, 0, [], 0, 0)).2.2.2.2.2.2.2.1), .int .i64 (((mget a0.1 r12).getD (0, 0, 0, 0, 0, false, false, 0, 0, [], 0, 0)).2.2.2.2.2.2.2.2.1), v18, .int .i64 (((mget a0.1 r12).getD (0, 0, 0, 0, 0, false, false, 0, 0, [], 0, 0)).2.2.2.2.2.2.2.2.2.2.1), .int .i64 (((mget a0.1 r12).getD (0, 0, 0, 0, 0, false, false, 0, 0, [], 0, 0)).2.2.2.2.2.2.2.2.2.2.2)]) (cs' := [.int .i64 (((mget a0.1 r12).getD (0, 0, 0, 0, 0, false, false, 0, 0, [], 0, 0)).1), .int .i64 (((mget a0.1 r12).getD (0, 0, 0, 0, 0, false, false, 0, 0, [], 0, 0)).2.1), .int .i64 (((mget a0.1 r12).getD (0, 0, 0, 0, 0, false, false, 0, 0, [], 0, 0)).2.2.1), .int .i64 (((mget a0.1 r12).getD (0, 0, 0, 0, 0, false, false, 0, 0, [], 0, 0)).2.2.2.1), .int .i64 (((mget a0.1 r12).getD (0, 0, 0, 0, 0, false, false, 0, 0, [], 0, 0)).2.2.2.2.1), .bool (((mget a0.1 r12).getD (0, 0, 0, 0, 0, false, false, 0, 0, [], 0, 0)).2.2.2.2.2.1), .bool (((mget a0.1 r12).getD (0, 0, 0, 0, 0, false, false, 0, 0, [], 0, 0)).2.2.2.2.2.2.1), .int .i64 (((mget a0.1 r12).getD (0, 0, 0, 0, 0, false, false, 0, 0, [], 0, 0)).2.2.2.2.2.2.2.1), .int .i64 (((mget a0.1 r12).getD (0, 0, 0, 0, 0, false, false, 0, 0, [], 0, 0)).2.2.2.2.2.2.2.2.1), v18, .int .i64 (((mget a0.1 r12).getD (0, 0, 0, 0, 0, false, false, 0, 0, [], 0, 0)).2.2.2.2.2.2.2.2.2.2.1), .int .i64 (((mget a0.1 r12).getD (0, 0, 0, 0, 0, false, false, 0, 0, [], 0, 0)).2.2.2.2.2.2.2.2.2.2.2)]) rfl rfl rfl z_size75 rfl rfl rfl (ones_cons rfl (ones_cons rfl (ones_cons rfl (ones_cons rfl (ones_cons rfl (ones_cons rfl (ones_cons rfl (ones_cons rfl (ones_cons rfl (ones_cons hs19.one' (ones_cons rfl (ones_cons rfl ones_nil)))))))))))) rfl rfl rfl ?_
 refine st_gs [[(b20, .cells #[.int .i64 (((mget a0.1 r12).getD (0, 0, 0, 0, 0, false, false, 0, 0, [], 0, 0)).1), .int .i64 (((mget a0.1 r12).getD (0, 0, 0, 0, 0, false, false, 0, 0, [], 0, 0)).2.1), .int .i64 (((mget a0.1 r12).getD (0, 0, 0, 0, 0, false, false, 0, 0, [], 0, 0)).2.2.1), .int .i64 (((mget a0.1 r12).getD (0, 0, 0, 0, 0, false, false, 0, 0, [], 0, 0)).2.2.2.1), .int .i64 (((mget a0.1 r12).getD (0, 0, 0, 0, 0, false, false, 0, 0, [], 0, 0)).2.2.2.2.1), .bool (((mget a0.1 r12).getD (0, 0, 0, 0, 0, false, false, 0, 0, [], 0, 0)).2.2.2.2.2.1), .bool (((mget a0.1 r12).getD (0, 0, 0, 0, 0, false, false, 0, 0, [], 0, 0)).2.2.2.2.2.2.1), .int .i64 (((mget a0.1 r12).getD (0, 0, 0, 0, 0, false, false, 0, 0, [], 0, 0)).2.2.2.2.2.2.2.1), .int .i64 (((mget a0.1 r12).getD (0, 0, 0, 0, 0, false, false, 0, 0, [], 0, 0)).2.2.2.2.2.2.2.2.1), v18, .int .i64 (((mget a0.1 r12).getD (0, 0, 0, 0, 0, false, false, 0, 0, [], 0, 0)).2.2.2.2.2.2.2.2.2.2.1), .int .i64 (((mget a0.1 r12).getD (0, 0, 0, 0, 0, false, false, 0, 0, [], 0, 0)).2.2.2.2.2.2.2.2.2.2.2)] 75 (0, 0))], [(b11, .cells #[.int .i64 a1.1, .int .i64 (a1.2.1.getD 0 0), .int .i64 (a1.2.1.getD 1 0), .int .i64 (a1.2.1.getD 2 0), .int .i64 (a1.2.1.getD 3 0), .int .i64 (a1.2.1.getD 4 0), .int .i64 (a1.2.1.getD 5 0), v7, v8, .string a1.2.2.2.2.1, .string a1.2.2.2.2.2] 39 (0, 0))], [(ba0, .cells #[v1, v3] 66 (0, 0))], g2, g4] rfl ?_
 refine Z 2 rfl ?_
 refine st_cut (fun ρ τ21 gs => ∃ (s21 : (List ((Int × Int) × List Int)) × Int × Int × Int × Int × Int × Bool × Bool × Int × Int × (List (Int × Int)) × Int × Int) (v22 : Value) (g23 : Grp) (v25 : Value), fleet_Fleet_apply_j1 a0 r12 s21 r ∧ τ14.Le τ21 ∧ ESub ρ [(0, .pointer (some ⟨ba0, 0, none⟩)), (4, .int .i64 r12), (5, .pointer (some ⟨b20, 0, none⟩))] ∧ gs = [[(ba0, .cells #[v1, v22] 66 (0, 0))], [(b20, .cells #[.int .i64 s21.2.1, .int .i64 s21.2.2.1, .int .i64 s21.2.2.2.1, .int .i64 s21.2.2.2.2.1, .int .i64 s21.2.2.2.2.2.1, .bool s21.2.2.2.2.2.2.1, .bool s21.2.2.2.2.2.2.2.1, .int .i64 s21.2.2.2.2.2.2.2.2.1, .int .i64 s21.2.2.2.2.2.2.2.2.2.1, v25, .int .i64 s21.2.2.2.2.2.2.2.2.2.2.2.1, .int .i64 s21.2.2.2.2.2.2.2.2.2.2.2.2] 75 (0, 0))], g2, g23] ∧ Mp kPr (rSl (kI .i64)) τ21 v22 s21.1 g23 ∧ Sl (kP (kI .i64) (kI .i64)) τ21 v25 s21.2.2.2.2.2.2.2.2.2.2.1) ?_ (fun hk21 => ?_)
 ·rintro ρ21 τ21 gs21 ⟨s21, v22, g23, v25, h, hl21, hρ, rfl, ho24, hs26⟩
  refine st_es hρ ?_
  refine st_draw 6 (dl [.v (.pointer (some ⟨ba0, 0, none⟩)), .v (.pointer (some ⟨ba0, 0, none⟩)), .v (.pointer (some ⟨ba0, 0, none⟩)), .v (v1), .v (.int .i64 r12), .v (.agg #[.int .i64 s21.2.1, .int .i64 s21.2.2.1, .int .i64 s21.2.2.2.1, .int .i64 s21.2.2.2.2.1, .int .i64 s21.2.2.2.2.2.1, .bool s21.2.2.2.2.2.2.1, .bool s21.2.2.2.2.2.2.2.1, .int .i64 s21.2.2.2.2.2.2.2.2.1, .int .i64 s21.2.2.2.2.2.2.2.2.2.1, v25, .int .i64 s21.2.2.2.2.2.2.2.2.2.2.2.1, .int .i64 s21.2.2.2.2.2.2.2.2.2.2.2.2])]) (fun _ _ => []) z_mix rfl (dl_mono trivial) (allB_cons (allB_cons (allB_cons (allB_cons (allB_cons (allB_cons allB_nil (p1 dA)) (p1 dA)) (p1 dA)) ?_) (p1 dA)) ?_) ?_
  ·intro ρ' τ pool rs hl hd hout hk
   obtain ⟨_, e2, rfl⟩ := hd 2 rfl
   refine o_load (j := 0) (v := v1) rfl rfl rfl z_sc63 e2 rfl rfl ?_
   exact st_addNil (hk _ _ (Sto.Le.refl _) rfl)
  ·intro ρ' τ pool rs hl hd hout hk
   refine o_loadN (j := 1) (vs := [.int .i64 s21.2.1, .int .i64 s21.2.2.1, .int .i64 s21.2.2.2.1, .int .i64 s21.2.2.2.2.1, .int .i64 s21.2.2.2.2.2.1, .bool s21.2.2.2.2.2.2.1, .bool s21.2.2.2.2.2.2.2.1, .int .i64 s21.2.2.2.2.2.2.2.2.1, .int .i64 s21.2.2.2.2.2.2.2.2.2.1, v25, .int .i64 s21.2.2.2.2.2.2.2.2.2.2.2.1, .int .i64 s21.2.2.2.2.2.2.2.2.2.2.2.2]) rfl rfl rfl z_agg75 ((hout 5 rfl).trans rfl) rfl rfl ?_
   exact st_addNil (hk _ _ (Sto.Le.refl _) rfl)
  intro ρ' τ27 vals hl27 hv hout
  refine st_ord [0, 0, 0, 0] _ rfl ?_
  refine st_env (ρ' := [(80, v1), (81, .int .i64 r12), (82, .agg #[.int .i64 s21.2.1, .int .i64 s21.2.2.1, .int .i64 s21.2.2.2.1, .int .i64 s21.2.2.2.2.1, .int .i64 s21.2.2.2.2.2.1, .bool s21.2.2.2.2.2.2.1, .bool s21.2.2.2.2.2.2.2.1, .int .i64 s21.2.2.2.2.2.2.2.2.1, .int .i64 s21.2.2.2.2.2.2.2.2.2.1, v25, .int .i64 s21.2.2.2.2.2.2.2.2.2.2.2.1, .int .i64 s21.2.2.2.2.2.2.2.2.2.2.2.2])]) ⟨(lv1 hv 3 rfl rfl), (lv1 hv 4 rfl rfl), (lv1 hv 5 rfl rfl), trivial⟩ ?_
  refine o_mapPut (j := 2) (a := r12) (q := s21.2) rfl rfl rfl z_map63 (keyI Tryd.underlying3) rfl (ho5.up ((hl15.trans hl21).trans hl27)) rfl rfl rfl ⟨[.int .i64 s21.2.1, .int .i64 s21.2.2.1, .int .i64 s21.2.2.2.1, .int .i64 s21.2.2.2.2.1, .int .i64 s21.2.2.2.2.2.1, .bool s21.2.2.2.2.2.2.1, .bool s21.2.2.2.2.2.2.2.1, .int .i64 s21.2.2.2.2.2.2.2.2.1, .int .i64 s21.2.2.2.2.2.2.2.2.2.1, v25, .int .i64 s21.2.2.2.2.2.2.2.2.2.2.2.1, .int .i64 s21.2.2.2.2.2.2.2.2.2.2.2.2], ⟨[.int .i64 s21.2.1], _, rfl, rfl, ⟨[.int .i64 s21.2.2.1], _, rfl, rfl, ⟨[.int .i64 s21.2.2.2.1], _, rfl, rfl, ⟨[.int .i64 s21.2.2.2.2.1], _, rfl, rfl, ⟨[.int .i64 s21.2.2.2.2.2.1], _, rfl, rfl, ⟨[.bool s21.2.2.2.2.2.2.1], _, rfl, rfl, ⟨[.bool s21.2.2.2.2.2.2.2.1], _, rfl, rfl, ⟨[.int .i64 s21.2.2.2.2.2.2.2.2.1], _, rfl, rfl, ⟨[.int .i64 s21.2.2.2.2.2.2.2.2.2.1], _, rfl, rfl, ⟨[v25], _, rfl, ⟨_, rfl, (hs26.up hl27)⟩, ⟨[.int .i64 s21.2.2.2.2.2.2.2.2.2.2.2.1], _, rfl, rfl, rfl⟩⟩⟩⟩⟩⟩⟩⟩⟩⟩⟩, rfl⟩ (fun g28 ho29 => ?_)
  refine st_gs [[(ba0, .cells #[v1, v22] 66 (0, 0))], [(b20, .cells #[.int .i64 s21.2.1, .int .i64 s21.2.2.1, .int .i64 s21.2.2.2.1, .int .i64 s21.2.2.2.2.1, .int .i64 s21.2.2.2.2.2.1, .bool s21.2.2.2.2.2.2.1, .bool s21.2.2.2.2.2.2.2.1, .int .i64 s21.2.2.2.2.2.2.2.2.1, .int .i64 s21.2.2.2.2.2.2.2.2.2.1, v25, .int .i64 s21.2.2.2.2.2.2.2.2.2.2.2.1, .int .i64 s21.2.2.2.2.2.2.2.2.2.2.2.2] 75 (0, 0))], g28, g23] rfl ?_
  refine st_end ?_
  refine st_ord [0, 1, 1] _ rfl ?_
  obtain rfl := Eq.symm h
  exact st_fin (gs' := [[(ba0, .cells #[v1, v22] 66 (0, 0))], g28, g23]) Tryd.func31 rfl (List.Sublist.refl _) ((hl15.trans hl21).trans hl27) ⟨_, _, _, _, rfl, rfl, ho29, (ho24.up hl27)⟩
 refine ZZ 11 [1] rfl rfl ?_
 refine st_if rfl h (fun h => ?_) (fun h => ?_)
 ·refine ZZ 12 [0, 0, 0, 1] rfl rfl ?_
  obtain ⟨r30, hr31, h⟩ := h
  refine st_call (foot := []) rfl rfl rfl rfl rfl rfl (callV_fn z_en54 (slices_Clone_msg_Point_msg_Point_ok hr31 τ14 (hs9.up hl15))) ?_
  rintro vτ32 τ32 gsτ32 hl33 ⟨v34, rfl, rfl, hs35⟩
  refine o_fieldAddr rfl rfl rfl z_field75_9 rfl ?_
  refine o_store (j := 0) (vs := [v34]) (cs' := [.int .i64 (((mget a0.1 r12).getD (0, 0, 0, 0, 0, false, false, 0, 0, [], 0, 0)).1), .int .i64 (((mget a0.1 r12).getD (0, 0, 0, 0, 0, false, false, 0, 0, [], 0, 0)).2.1), .int .i64 (((mget a0.1 r12).getD (0, 0, 0, 0, 0, false, false, 0, 0, [], 0, 0)).2.2.1), .int .i64 (((mget a0.1 r12).getD (0, 0, 0, 0, 0, false, false, 0, 0, [], 0, 0)).2.2.2.1), .int .i64 (((mget a0.1 r12).getD (0, 0, 0, 0, 0, false, false, 0, 0, [], 0, 0)).2.2.2.2.1), .bool (((mget a0.1 r12).getD (0, 0, 0, 0, 0, false, false, 0, 0, [], 0, 0)).2.2.2.2.2.1), .bool false, .int .i64 0, .int .i64 0, v34, .int .i64 (((mget a0.1 r12).getD (0, 0, 0, 0, 0, false, false, 0, 0, [], 0, 0)).2.2.2.2.2.2.2.2.2.2.1), .int .i64 (((mget a0.1 r12).getD (0, 0, 0, 0, 0, false, false, 0, 0, [], 0, 0)).2.2.2.2.2.2.2.2.2.2.2)]) rfl rfl rfl z_size36 rfl rfl (oneL_sl hs35) (ones_cons hs35.one' ones_nil) rfl rfl rfl ?_
  refine st_gs [[(b20, .cells #[.int .i64 (((mget a0.1 r12).getD (0, 0, 0, 0, 0, false, false, 0, 0, [], 0, 0)).1), .int .i64 (((mget a0.1 r12).getD (0, 0, 0, 0, 0, false, false, 0, 0, [], 0, 0)).2.1), .int .i64 (((mget a0.1 r12).getD (0, 0, 0, 0, 0, false, false, 0, 0, [], 0, 0)).2.2.1), .int .i64 (((mget a0.1 r12).getD (0, 0, 0, 0, 0, false, false, 0, 0, [], 0, 0)).2.2.2.1), .int .i64 (((mget a0.1 r12).getD (0, 0, 0, 0, 0, false, false, 0, 0, [], 0, 0)).2.2.2.2.1), .bool (((mget a0.1 r12).getD (0, 0, 0, 0, 0, false, false, 0, 0, [], 0, 0)).2.2.2.2.2.1), .bool false, .int .i64 0, .int .i64 0, v34, .int .i64 (((mget a0.1 r12).getD (0, 0, 0, 0, 0, false, false, 0, 0, [], 0, 0)).2.2.2.2.2.2.2.2.2.2.1), .int .i64 (((mget a0.1 r12).getD (0, 0, 0, 0, 0, false, false, 0, 0, [], 0, 0)).2.2.2.2.2.2.2.2.2.2.2)] 75 (0, 0))], [(b11, .cells #[.int .i64 a1.1, .int .i64 (a1.2.1.getD 0 0), .int .i64 (a1.2.1.getD 1 0), .int .i64 (a1.2.1.getD 2 0), .int .i64 (a1.2.1.getD 3 0), .int .i64 (a1.2.1.getD 4 0), .int .i64 (a1.2.1.getD 5 0), v7, v8, .string a1.2.2.2.2.1, .string a1.2.2.2.2.2] 39 (0, 0))], [(ba0, .cells #[v1, v3] 66 (0, 0))], g2, g4] rfl ?_
  refine Z 2 rfl ?_
  refine st_ord [2, 0, 1, 1] _ rfl ?_
  exact hk21 _ _ _ ⟨(a0.2, ((mget a0.1 r12).getD (0, 0, 0, 0, 0, false, false, 0, 0, [], 0, 0)).1, ((mget a0.1 r12).getD (0, 0, 0, 0, 0, false, false, 0, 0, [], 0, 0)).2.1, ((mget a0.1 r12).getD (0, 0, 0, 0, 0, false, false, 0, 0, [], 0, 0)).2.2.1, ((mget a0.1 r12).getD (0, 0, 0, 0, 0, false, false, 0, 0, [], 0, 0)).2.2.2.1, ((mget a0.1 r12).getD (0, 0, 0, 0, 0, false, false, 0, 0, [], 0, 0)).2.2.2.2.1, ((mget a0.1 r12).getD (0, 0, 0, 0, 0, false, false, 0, 0, [], 0, 0)).2.2.2.2.2.1, false, 0, 0, r30, ((mget a0.1 r12).getD (0, 0, 0, 0, 0, false, false, 0, 0, [], 0, 0)).2.2.2.2.2.2.2.2.2.2.1, ((mget a0.1 r12).getD (0, 0, 0, 0, 0, false, false, 0, 0, [], 0, 0)).2.2.2.2.2.2.2.2.2.2.2), _, _, _, h, hl33, rfl, rfl, (ho6.up (hl15.trans hl33)), hs35⟩
 ·refine Z 5 rfl ?_
  refine st_if rfl h (fun h => ?_) (fun h => ?_)
  ·refine st_seq ?_
   obtain ⟨r36, hr37, r40, hr41, h⟩ := h
   refine st_ord [1, 1, 1, 1, 0] _ rfl ?_
   refine st_d41 [[(b11, .cells #[.int .i64 a1.1, .int .i64 (a1.2.1.getD 0 0), .int .i64 (a1.2.1.getD 1 0), .int .i64 (a1.2.1.getD 2 0), .int .i64 (a1.2.1.getD 3 0), .int .i64 (a1.2.1.getD 4 0), .int .i64 (a1.2.1.getD 5 0), v7, v8, .string a1.2.2.2.2.1, .string a1.2.2.2.2.2] 39 (0, 0))], [(ba0, .cells #[v1, v3] 66 (0, 0))], g2, g4] [[(b20, .cells #[.int .i64 (((mget a0.1 r12).getD (0, 0, 0, 0, 0, false, false, 0, 0, [], 0, 0)).1), .int .i64 (((mget a0.1 r12).getD (0, 0, 0, 0, 0, false, false, 0, 0, [], 0, 0)).2.1), .int .i64 (((mget a0.1 r12).getD (0, 0, 0, 0, 0, false, false, 0, 0, [], 0, 0)).2.2.1), .int .i64 (((mget a0.1 r12).getD (0, 0, 0, 0, 0, false, false, 0, 0, [], 0, 0)).2.2.2.1), .int .i64 (((mget a0.1 r12).getD (0, 0, 0, 0, 0, false, false, 0, 0, [], 0, 0)).2.2.2.2.1), .bool (((mget a0.1 r12).getD (0, 0, 0, 0, 0, false, false, 0, 0, [], 0, 0)).2.2.2.2.2.1), .bool (((mget a0.1 r12).getD (0, 0, 0, 0, 0, false, false, 0, 0, [], 0, 0)).2.2.2.2.2.2.1), .int .i64 (((mget a0.1 r12).getD (0, 0, 0, 0, 0, false, false, 0, 0, [], 0, 0)).2.2.2.2.2.2.2.1), .int .i64 (((mget a0.1 r12).getD (0, 0, 0, 0, 0, false, false, 0, 0, [], 0, 0)).2.2.2.2.2.2.2.2.1), v18, .int .i64 (((mget a0.1 r12).getD (0, 0, 0, 0, 0, false, false, 0, 0, [], 0, 0)).2.2.2.2.2.2.2.2.2.2.1), .int .i64 (((mget a0.1 r12).getD (0, 0, 0, 0, 0, false, false, 0, 0, [], 0, 0)).2.2.2.2.2.2.2.2.2.2.2)] 75 (0, 0))]] 8 2 [none, none, none, none, none, some (0, 0), none, some (0, 1)] [none, none, none, none, none, none, none, none] [[none, none, none]] [.v (.agg #[.int .i64 a1.1, .int .i64 (a1.2.1.getD 0 0), .int .i64 (a1.2.1.getD 1 0), .int .i64 (a1.2.1.getD 2 0), .int .i64 (a1.2.1.getD 3 0), .int .i64 (a1.2.1.getD 4 0), .int .i64 (a1.2.1.getD 5 0), v7, v8, .string a1.2.2.2.2.1, .string a1.2.2.2.2.2]), .v (.int .i64 r36), .v (.agg #[.int .i64 a1.1, .int .i64 (a1.2.1.getD 0 0), .int .i64 (a1.2.1.getD 1 0), .int .i64 (a1.2.1.getD 2 0), .int .i64 (a1.2.1.getD 3 0), .int .i64 (a1.2.1.getD 4 0), .int .i64 (a1.2.1.getD 5 0), v7, v8, .string a1.2.2.2.2.1, .string a1.2.2.2.2.2]), .v (.int .i64 r40), .v (.pointer (some ⟨b20, 6, none⟩)), .t fun _ _ => True, .v (.pointer (some ⟨b20, 7, none⟩)), .t fun _ _ => True] [[fun τ u F => F = [[(b20, .cells #[.int .i64 (((mget a0.1 r12).getD (0, 0, 0, 0, 0, false, false, 0, 0, [], 0, 0)).1), .int .i64 (((mget a0.1 r12).getD (0, 0, 0, 0, 0, false, false, 0, 0, [], 0, 0)).2.1), .int .i64 (((mget a0.1 r12).getD (0, 0, 0, 0, 0, false, false, 0, 0, [], 0, 0)).2.2.1), .int .i64 (((mget a0.1 r12).getD (0, 0, 0, 0, 0, false, false, 0, 0, [], 0, 0)).2.2.2.1), .int .i64 (((mget a0.1 r12).getD (0, 0, 0, 0, 0, false, false, 0, 0, [], 0, 0)).2.2.2.2.1), .bool (((mget a0.1 r12).getD (0, 0, 0, 0, 0, false, false, 0, 0, [], 0, 0)).2.2.2.2.2.1), .bool (((mget a0.1 r12).getD (0, 0, 0, 0, 0, false, false, 0, 0, [], 0, 0)).2.2.2.2.2.2.1), .int .i64 (((mget a0.1 r12).getD (0, 0, 0, 0, 0, false, false, 0, 0, [], 0, 0)).2.2.2.2.2.2.2.1), .int .i64 (((mget a0.1 r12).getD (0, 0, 0, 0, 0, false, false, 0, 0, [], 0, 0)).2.2.2.2.2.2.2.2.1), v18, .int .i64 (((mget a0.1 r12).getD (0, 0, 0, 0, 0, false, false, 0, 0, [], 0, 0)).2.2.2.2.2.2.2.2.2.2.1), .int .i64 (((mget a0.1 r12).getD (0, 0, 0, 0, 0, false, false, 0, 0, [], 0, 0)).2.2.2.2.2.2.2.2.2.2.2)] 75 (0, 0))]], fun τ u F => F = [[(b20, .cells #[.int .i64 (((mget a0.1 r12).getD (0, 0, 0, 0, 0, false, false, 0, 0, [], 0, 0)).1), .int .i64 (((mget a0.1 r12).getD (0, 0, 0, 0, 0, false, false, 0, 0, [], 0, 0)).2.1), .int .i64 (((mget a0.1 r12).getD (0, 0, 0, 0, 0, false, false, 0, 0, [], 0, 0)).2.2.1), .int .i64 (((mget a0.1 r12).getD (0, 0, 0, 0, 0, false, false, 0, 0, [], 0, 0)).2.2.2.1), .int .i64 (((mget a0.1 r12).getD (0, 0, 0, 0, 0, false, false, 0, 0, [], 0, 0)).2.2.2.2.1), .bool (((mget a0.1 r12).getD (0, 0, 0, 0, 0, false, false, 0, 0, [], 0, 0)).2.2.2.2.2.1), .bool true, .int .i64 (((mget a0.1 r12).getD (0, 0, 0, 0, 0, false, false, 0, 0, [], 0, 0)).2.2.2.2.2.2.2.1), .int .i64 (((mget a0.1 r12).getD (0, 0, 0, 0, 0, false, false, 0, 0, [], 0, 0)).2.2.2.2.2.2.2.2.1), v18, .int .i64 (((mget a0.1 r12).getD (0, 0, 0, 0, 0, false, false, 0, 0, [], 0, 0)).2.2.2.2.2.2.2.2.2.2.1), .int .i64 (((mget a0.1 r12).getD (0, 0, 0, 0, 0, false, false, 0, 0, [], 0, 0)).2.2.2.2.2.2.2.2.2.2.2)] 75 (0, 0))]], fun τ u F => F = [[(b20, .cells #[.int .i64 (((mget a0.1 r12).getD (0, 0, 0, 0, 0, false, false, 0, 0, [], 0, 0)).1), .int .i64 (((mget a0.1 r12).getD (0, 0, 0, 0, 0, false, false, 0, 0, [], 0, 0)).2.1), .int .i64 (((mget a0.1 r12).getD (0, 0, 0, 0, 0, false, false, 0, 0, [], 0, 0)).2.2.1), .int .i64 (((mget a0.1 r12).getD (0, 0, 0, 0, 0, false, false, 0, 0, [], 0, 0)).2.2.2.1), .int .i64 (((mget a0.1 r12).getD (0, 0, 0, 0, 0, false, false, 0, 0, [], 0, 0)).2.2.2.2.1), .bool (((mget a0.1 r12).getD (0, 0, 0, 0, 0, false, false, 0, 0, [], 0, 0)).2.2.2.2.2.1), .bool true, .int .i64 r36, .int .i64 (((mget a0.1 r12).getD (0, 0, 0, 0, 0, false, false, 0, 0, [], 0, 0)).2.2.2.2.2.2.2.2.1), v18, .int .i64 (((mget a0.1 r12).getD (0, 0, 0, 0, 0, false, false, 0, 0, [], 0, 0)).2.2.2.2.2.2.2.2.2.2.1), .int .i64 (((mget a0.1 r12).getD (0, 0, 0, 0, 0, false, false, 0, 0, [], 0, 0)).2.2.2.2.2.2.2.2.2.2.2)] 75 (0, 0))]]]] rfl z_mix rfl ⟨fun _ _ _ _ _ => trivial, ⟨fun _ _ _ _ _ => trivial, trivial⟩⟩ ⟨⟨fun _ _ _ _ hl h => h, ⟨fun _ _ _ _ hl h => h, ⟨fun _ _ _ _ hl h => h, trivial⟩⟩⟩, trivial⟩ rfl rfl ?_ (allB_cons (allB_cons (allB_cons (allB_cons (allB_cons (allB_cons (allB_cons (allB_cons allB_nil ?_) ?_) ?_) ?_) (p4 dA)) ?_) (p4 dA)) ?_) ?_
   ·exact rfl
   ·intro ρ' τ pool rs hl hd hout hw hk
    refine o_loadN (j := 0) (vs := [.int .i64 a1.1, .int .i64 (a1.2.1.getD 0 0), .int .i64 (a1.2.1.getD 1 0), .int .i64 (a1.2.1.getD 2 0), .int .i64 (a1.2.1.getD 3 0), .int .i64 (a1.2.1.getD 4 0), .int .i64 (a1.2.1.getD 5 0), v7, v8, .string a1.2.2.2.2.1, .string a1.2.2.2.2.2]) rfl rfl rfl z_agg39 ((hout 3 rfl).trans rfl) rfl rfl ?_
    exact hk _ _ (Sto.Le.refl _) rfl
   ·intro ρ' τ pool rs hl hd hout hw hk
    obtain ⟨_, e0, rfl⟩ := hd 0 rfl _ rfl
    refine st_call (foot := []) rfl rfl rfl rfl (evs_cons e0 (evs_cons (ev_str z_str35) rfl)) rfl (callV_fn z_en53 (fleet_value_ok hr37 τ (hs9.up (hl15.trans hl)) (hs10.up (hl15.trans hl)))) ?_
    rintro vτ38 τ38 gsτ38 hl39 ⟨rfl, rfl⟩
    exact hk _ _ hl39 rfl
   ·intro ρ' τ pool rs hl hd hout hw hk
    refine o_loadN (j := 0) (vs := [.int .i64 a1.1, .int .i64 (a1.2.1.getD 0 0), .int .i64 (a1.2.1.getD 1 0), .int .i64 (a1.2.1.getD 2 0), .int .i64 (a1.2.1.getD 3 0), .int .i64 (a1.2.1.getD 4 0), .int .i64 (a1.2.1.getD 5 0), v7, v8, .string a1.2.2.2.2.1, .string a1.2.2.2.2.2]) rfl rfl rfl z_agg39 ((hout 3 rfl).trans rfl) rfl rfl ?_
    exact hk _ _ (Sto.Le.refl _) rfl
   ·intro ρ' τ pool rs hl hd hout hw hk
    obtain ⟨_, e2, rfl⟩ := hd 2 rfl _ rfl
    refine st_call (foot := []) rfl rfl rfl rfl (evs_cons e2 (evs_cons (ev_str z_str36) rfl)) rfl (callV_fn z_en53 (fleet_value_ok hr41 τ (hs9.up (hl15.trans hl)) (hs10.up (hl15.trans hl)))) ?_
    rintro vτ42 τ42 gsτ42 hl43 ⟨rfl, rfl⟩
    exact hk _ _ hl43 rfl
   ·intro ρ' τ u Fv pool rs hl hI hu hd hout hw hk
    obtain ⟨_, e4, rfl⟩ := hd 4 rfl _ rfl
    have hI0 := hI
    obtain rfl := hI
    refine st_gs [[(b11, .cells #[.int .i64 a1.1, .int .i64 (a1.2.1.getD 0 0), .int .i64 (a1.2.1.getD 1 0), .int .i64 (a1.2.1.getD 2 0), .int .i64 (a1.2.1.getD 3 0), .int .i64 (a1.2.1.getD 4 0), .int .i64 (a1.2.1.getD 5 0), v7, v8, .string a1.2.2.2.2.1, .string a1.2.2.2.2.2] 39 (0, 0))], [(ba0, .cells #[v1, v3] 66 (0, 0))], g2, g4, [(b20, .cells #[.int .i64 (((mget a0.1 r12).getD (0, 0, 0, 0, 0, false, false, 0, 0, [], 0, 0)).1), .int .i64 (((mget a0.1 r12).getD (0, 0, 0, 0, 0, false, false, 0, 0, [], 0, 0)).2.1), .int .i64 (((mget a0.1 r12).getD (0, 0, 0, 0, 0, false, false, 0, 0, [], 0, 0)).2.2.1), .int .i64 (((mget a0.1 r12).getD (0, 0, 0, 0, 0, false, false, 0, 0, [], 0, 0)).2.2.2.1), .int .i64 (((mget a0.1 r12).getD (0, 0, 0, 0, 0, false, false, 0, 0, [], 0, 0)).2.2.2.2.1), .bool (((mget a0.1 r12).getD (0, 0, 0, 0, 0, false, false, 0, 0, [], 0, 0)).2.2.2.2.2.1), .bool (((mget a0.1 r12).getD (0, 0, 0, 0, 0, false, false, 0, 0, [], 0, 0)).2.2.2.2.2.2.1), .int .i64 (((mget a0.1 r12).getD (0, 0, 0, 0, 0, false, false, 0, 0, [], 0, 0)).2.2.2.2.2.2.2.1), .int .i64 (((mget a0.1 r12).getD (0, 0, 0, 0, 0, false, false, 0, 0, [], 0, 0)).2.2.2.2.2.2.2.2.1), v18, .int .i64 (((mget a0.1 r12).getD (0, 0, 0, 0, 0, false, false, 0, 0, [], 0, 0)).2.2.2.2.2.2.2.2.2.2.1), .int .i64 (((mget a0.1 r12).getD (0, 0, 0, 0, 0, false, false, 0, 0, [], 0, 0)).2.2.2.2.2.2.2.2.2.2.2)] 75 (0, 0))], pool] rfl ?_
    refine o_store (j := 4) (vs := [.bool true]) (cs' := [.int .i64 (((mget a0.1 r12).getD (0, 0, 0, 0, 0, false, false, 0, 0, [], 0, 0)).1), .int .i64 (((mget a0.1 r12).getD (0, 0, 0, 0, 0, false, false, 0, 0, [], 0, 0)).2.1), .int .i64 (((mget a0.1 r12).getD (0, 0, 0, 0, 0, false, false, 0, 0, [], 0, 0)).2.2.1), .int .i64 (((mget a0.1 r12).getD (0, 0, 0, 0, 0, false, false, 0, 0, [], 0, 0)).2.2.2.1), .int .i64 (((mget a0.1 r12).getD (0, 0, 0, 0, 0, false, false, 0, 0, [], 0, 0)).2.2.2.2.1), .bool (((mget a0.1 r12).getD (0, 0, 0, 0, 0, false, false, 0, 0, [], 0, 0)).2.2.2.2.2.1), .bool true, .int .i64 (((mget a0.1 r12).getD (0, 0, 0, 0, 0, false, false, 0, 0, [], 0, 0)).2.2.2.2.2.2.2.1), .int .i64 (((mget a0.1 r12).getD (0, 0, 0, 0, 0, false, false, 0, 0, [], 0, 0)).2.2.2.2.2.2.2.2.1), v18, .int .i64 (((mget a0.1 r12).getD (0, 0, 0, 0, 0, false, false, 0, 0, [], 0, 0)).2.2.2.2.2.2.2.2.2.2.1), .int .i64 (((mget a0.1 r12).getD (0, 0, 0, 0, 0, false, false, 0, 0, [], 0, 0)).2.2.2.2.2.2.2.2.2.2.2)]) rfl rfl rfl z_size4 e4 rfl rfl (ones_cons rfl ones_nil) rfl rfl rfl ?_
    refine st_gs [[(b11, .cells #[.int .i64 a1.1, .int .i64 (a1.2.1.getD 0 0), .int .i64 (a1.2.1.getD 1 0), .int .i64 (a1.2.1.getD 2 0), .int .i64 (a1.2.1.getD 3 0), .int .i64 (a1.2.1.getD 4 0), .int .i64 (a1.2.1.getD 5 0), v7, v8, .string a1.2.2.2.2.1, .string a1.2.2.2.2.2] 39 (0, 0))], [(ba0, .cells #[v1, v3] 66 (0, 0))], g2, g4, [(b20, .cells #[.int .i64 (((mget a0.1 r12).getD (0, 0, 0, 0, 0, false, false, 0, 0, [], 0, 0)).1), .int .i64 (((mget a0.1 r12).getD (0, 0, 0, 0, 0, false, false, 0, 0, [], 0, 0)).2.1), .int .i64 (((mget a0.1 r12).getD (0, 0, 0, 0, 0, false, false, 0, 0, [], 0, 0)).2.2.1), .int .i64 (((mget a0.1 r12).getD (0, 0, 0, 0, 0, false, false, 0, 0, [], 0, 0)).2.2.2.1), .int .i64 (((mget a0.1 r12).getD (0, 0, 0, 0, 0, false, false, 0, 0, [], 0, 0)).2.2.2.2.1), .bool (((mget a0.1 r12).getD (0, 0, 0, 0, 0, false, false, 0, 0, [], 0, 0)).2.2.2.2.2.1), .bool true, .int .i64 (((mget a0.1 r12).getD (0, 0, 0, 0, 0, false, false, 0, 0, [], 0, 0)).2.2.2.2.2.2.2.1), .int .i64 (((mget a0.1 r12).getD (0, 0, 0, 0, 0, false, false, 0, 0, [], 0, 0)).2.2.2.2.2.2.2.2.1), v18, .int .i64 (((mget a0.1 r12).getD (0, 0, 0, 0, 0, false, false, 0, 0, [], 0, 0)).2.2.2.2.2.2.2.2.2.2.1), .int .i64 (((mget a0.1 r12).getD (0, 0, 0, 0, 0, false, false, 0, 0, [], 0, 0)).2.2.2.2.2.2.2.2.2.2.2)] 75 (0, 0))], pool] rfl ?_
    exact hk _ _ [[(b20, .cells #[.int .i64 (((mget a0.1 r12).getD (0, 0, 0, 0, 0, false, false, 0, 0, [], 0, 0)).1), .int .i64 (((mget a0.1 r12).getD (0, 0, 0, 0, 0, false, false, 0, 0, [], 0, 0)).2.1), .int .i64 (((mget a0.1 r12).getD (0, 0, 0, 0, 0, false, false, 0, 0, [], 0, 0)).2.2.1), .int .i64 (((mget a0.1 r12).getD (0, 0, 0, 0, 0, false, false, 0, 0, [], 0, 0)).2.2.2.1), .int .i64 (((mget a0.1 r12).getD (0, 0, 0, 0, 0, false, false, 0, 0, [], 0, 0)).2.2.2.2.1), .bool (((mget a0.1 r12).getD (0, 0, 0, 0, 0, false, false, 0, 0, [], 0, 0)).2.2.2.2.2.1), .bool true, .int .i64 (((mget a0.1 r12).getD (0, 0, 0, 0, 0, false, false, 0, 0, [], 0, 0)).2.2.2.2.2.2.2.1), .int .i64 (((mget a0.1 r12).getD (0, 0, 0, 0, 0, false, false, 0, 0, [], 0, 0)).2.2.2.2.2.2.2.2.1), v18, .int .i64 (((mget a0.1 r12).getD (0, 0, 0, 0, 0, false, false, 0, 0, [], 0, 0)).2.2.2.2.2.2.2.2.2.2.1), .int .i64 (((mget a0.1 r12).getD (0, 0, 0, 0, 0, false, false, 0, 0, [], 0, 0)).2.2.2.2.2.2.2.2.2.2.2)] 75 (0, 0))]] (Sto.Le.refl _) trivial (by exact rfl)
   ·intro ρ' τ u Fv pool rs hl hI hu hd hout hw hk
    obtain ⟨_, e1, rfl⟩ := hd 1 rfl _ rfl
    obtain ⟨_, e6, rfl⟩ := hd 6 rfl _ rfl
    have hI0 := hI
    obtain rfl := hI
    refine st_gs [[(b11, .cells #[.int .i64 a1.1, .int .i64 (a1.2.1.getD 0 0), .int .i64 (a1.2.1.getD 1 0), .int .i64 (a1.2.1.getD 2 0), .int .i64 (a1.2.1.getD 3 0), .int .i64 (a1.2.1.getD 4 0), .int .i64 (a1.2.1.getD 5 0), v7, v8, .string a1.2.2.2.2.1, .string a1.2.2.2.2.2] 39 (0, 0))], [(ba0, .cells #[v1, v3] 66 (0, 0))], g2, g4, [(b20, .cells #[.int .i64 (((mget a0.1 r12).getD (0, 0, 0, 0, 0, false, false, 0, 0, [], 0, 0)).1), .int .i64 (((mget a0.1 r12).getD (0, 0, 0, 0, 0, false, false, 0, 0, [], 0, 0)).2.1), .int .i64 (((mget a0.1 r12).getD (0, 0, 0, 0, 0, false, false, 0, 0, [], 0, 0)).2.2.1), .int .i64 (((mget a0.1 r12).getD (0, 0, 0, 0, 0, false, false, 0, 0, [], 0, 0)).2.2.2.1), .int .i64 (((mget a0.1 r12).getD (0, 0, 0, 0, 0, false, false, 0, 0, [], 0, 0)).2.2.2.2.1), .bool (((mget a0.1 r12).getD (0, 0, 0, 0, 0, false, false, 0, 0, [], 0, 0)).2.2.2.2.2.1), .bool true, .int .i64 (((mget a0.1 r12).getD (0, 0, 0, 0, 0, false, false, 0, 0, [], 0, 0)).2.2.2.2.2.2.2.1), .int .i64 (((mget a0.1 r12).getD (0, 0, 0, 0, 0, false, false, 0, 0, [], 0, 0)).2.2.2.2.2.2.2.2.1), v18, .int .i64 (((mget a0.1 r12).getD (0, 0, 0, 0, 0, false, false, 0, 0, [], 0, 0)).2.2.2.2.2.2.2.2.2.2.1), .int .i64 (((mget a0.1 r12).getD (0, 0, 0, 0, 0, false, false, 0, 0, [], 0, 0)).2.2.2.2.2.2.2.2.2.2.2)] 75 (0, 0))], pool] rfl ?_
    refine o_store (j := 4) (vs := [.int .i64 r36]) (cs' := [.int .i64 (((mget a0.1 r12).getD (0, 0, 0, 0, 0, false, false, 0, 0, [], 0, 0)).1), .int .i64 (((mget a0.1 r12).getD (0, 0, 0, 0, 0, false, false, 0, 0, [], 0, 0)).2.1), .int .i64 (((mget a0.1 r12).getD (0, 0, 0, 0, 0, false, false, 0, 0, [], 0, 0)).2.2.1), .int .i64 (((mget a0.1 r12).getD (0, 0, 0, 0, 0, false, false, 0, 0, [], 0, 0)).2.2.2.1), .int .i64 (((mget a0.1 r12).getD (0, 0, 0, 0, 0, false, false, 0, 0, [], 0, 0)).2.2.2.2.1), .bool (((mget a0.1 r12).getD (0, 0, 0, 0, 0, false, false, 0, 0, [], 0, 0)).2.2.2.2.2.1), .bool true, .int .i64 r36, .int .i64 (((mget a0.1 r12).getD (0, 0, 0, 0, 0, false, false, 0, 0, [], 0, 0)).2.2.2.2.2.2.2.2.1), v18, .int .i64 (((mget a0.1 r12).getD (0, 0, 0, 0, 0, false, false, 0, 0, [], 0, 0)).2.2.2.2.2.2.2.2.2.2.1), .int .i64 (((mget a0.1 r12).getD (0, 0, 0, 0, 0, false, false, 0, 0, [], 0, 0)).2.2.2.2.2.2.2.2.2.2.2)]) rfl rfl rfl z_size3 e6 e1 rfl (ones_cons rfl ones_nil) rfl rfl rfl ?_
    refine st_gs [[(b11, .cells #[.int .i64 a1.1, .int .i64 (a1.2.1.getD 0 0), .int .i64 (a1.2.1.getD 1 0), .int .i64 (a1.2.1.getD 2 0), .int .i64 (a1.2.1.getD 3 0), .int .i64 (a1.2.1.getD 4 0), .int .i64 (a1.2.1.getD 5 0), v7, v8, .string a1.2.2.2.2.1, .string a1.2.2.2.2.2] 39 (0, 0))], [(ba0, .cells #[v1, v3] 66 (0, 0))], g2, g4, [(b20, .cells #[.int .i64 (((mget a0.1 r12).getD (0, 0, 0, 0, 0, false, false, 0, 0, [], 0, 0)).1), .int .i64 (((mget a0.1 r12).getD (0, 0, 0, 0, 0, false, false, 0, 0, [], 0, 0)).2.1), .int .i64 (((mget a0.1 r12).getD (0, 0, 0, 0, 0, false, false, 0, 0, [], 0, 0)).2.2.1), .int .i64 (((mget a0.1 r12).getD (0, 0, 0, 0, 0, false, false, 0, 0, [], 0, 0)).2.2.2.1), .int .i64 (((mget a0.1 r12).getD (0, 0, 0, 0, 0, false, false, 0, 0, [], 0, 0)).2.2.2.2.1), .bool (((mget a0.1 r12).getD (0, 0, 0, 0, 0, false, false, 0, 0, [], 0, 0)).2.2.2.2.2.1), .bool true, .int .i64 r36, .int .i64 (((mget a0.1 r12).getD (0, 0, 0, 0, 0, false, false, 0, 0, [], 0, 0)).2.2.2.2.2.2.2.2.1), v18, .int .i64 (((mget a0.1 r12).getD (0, 0, 0, 0, 0, false, false, 0, 0, [], 0, 0)).2.2.2.2.2.2.2.2.2.2.1), .int .i64 (((mget a0.1 r12).getD (0, 0, 0, 0, 0, false, false, 0, 0, [], 0, 0)).2.2.2.2.2.2.2.2.2.2.2)] 75 (0, 0))], pool] rfl ?_
    exact hk _ _ [[(b20, .cells #[.int .i64 (((mget a0.1 r12).getD (0, 0, 0, 0, 0, false, false, 0, 0, [], 0, 0)).1), .int .i64 (((mget a0.1 r12).getD (0, 0, 0, 0, 0, false, false, 0, 0, [], 0, 0)).2.1), .int .i64 (((mget a0.1 r12).getD (0, 0, 0, 0, 0, false, false, 0, 0, [], 0, 0)).2.2.1), .int .i64 (((mget a0.1 r12).getD (0, 0, 0, 0, 0, false, false, 0, 0, [], 0, 0)).2.2.2.1), .int .i64 (((mget a0.1 r12).getD (0, 0, 0, 0, 0, false, false, 0, 0, [], 0, 0)).2.2.2.2.1), .bool (((mget a0.1 r12).getD (0, 0, 0, 0, 0, false, false, 0, 0, [], 0, 0)).2.2.2.2.2.1), .bool true, .int .i64 r36, .int .i64 (((mget a0.1 r12).getD (0, 0, 0, 0, 0, false, false, 0, 0, [], 0, 0)).2.2.2.2.2.2.2.2.1), v18, .int .i64 (((mget a0.1 r12).getD (0, 0, 0, 0, 0, false, false, 0, 0, [], 0, 0)).2.2.2.2.2.2.2.2.2.2.1), .int .i64 (((mget a0.1 r12).getD (0, 0, 0, 0, 0, false, false, 0, 0, [], 0, 0)).2.2.2.2.2.2.2.2.2.2.2)] 75 (0, 0))]] (Sto.Le.refl _) trivial (by exact rfl)
   intro ρ' τ44 vals u Fv hl44 hI hu hv hout
   obtain rfl := hI
   refine st_gs [[(b11, .cells #[.int .i64 a1.1, .int .i64 (a1.2.1.getD 0 0), .int .i64 (a1.2.1.getD 1 0), .int .i64 (a1.2.1.getD 2 0), .int .i64 (a1.2.1.getD 3 0), .int .i64 (a1.2.1.getD 4 0), .int .i64 (a1.2.1.getD 5 0), v7, v8, .string a1.2.2.2.2.1, .string a1.2.2.2.2.2] 39 (0, 0))], [(ba0, .cells #[v1, v3] 66 (0, 0))], g2, g4, [(b20, .cells #[.int .i64 (((mget a0.1 r12).getD (0, 0, 0, 0, 0, false, false, 0, 0, [], 0, 0)).1), .int .i64 (((mget a0.1 r12).getD (0, 0, 0, 0, 0, false, false, 0, 0, [], 0, 0)).2.1), .int .i64 (((mget a0.1 r12).getD (0, 0, 0, 0, 0, false, false, 0, 0, [], 0, 0)).2.2.1), .int .i64 (((mget a0.1 r12).getD (0, 0, 0, 0, 0, false, false, 0, 0, [], 0, 0)).2.2.2.1), .int .i64 (((mget a0.1 r12).getD (0, 0, 0, 0, 0, false, false, 0, 0, [], 0, 0)).2.2.2.2.1), .bool (((mget a0.1 r12).getD (0, 0, 0, 0, 0, false, false, 0, 0, [], 0, 0)).2.2.2.2.2.1), .bool true, .int .i64 r36, .int .i64 (((mget a0.1 r12).getD (0, 0, 0, 0, 0, false, false, 0, 0, [], 0, 0)).2.2.2.2.2.2.2.2.1), v18, .int .i64 (((mget a0.1 r12).getD (0, 0, 0, 0, 0, false, false, 0, 0, [], 0, 0)).2.2.2.2.2.2.2.2.2.2.1), .int .i64 (((mget a0.1 r12).getD (0, 0, 0, 0, 0, false, false, 0, 0, [], 0, 0)).2.2.2.2.2.2.2.2.2.2.2)] 75 (0, 0))]] rfl ?_
   refine st_env (ρ' := [(30, .int .i64 r40), (0, .pointer (some ⟨ba0, 0, none⟩)), (4, .int .i64 r12), (5, .pointer (some ⟨b20, 0, none⟩))]) ⟨(lv4 hv 3 rfl rfl rfl), (hout 0 rfl).trans rfl, (hout 4 rfl).trans rfl, (hout 5 rfl).trans rfl, trivial⟩ ?_
   refine ZZ 8 [4, 4] rfl rfl ?_
   refine st_ord [1, 3, 1, 1] _ rfl ?_
   exact hk21 _ _ _ ⟨(a0.2, ((mget a0.1 r12).getD (0, 0, 0, 0, 0, false, false, 0, 0, [], 0, 0)).1, ((mget a0.1 r12).getD (0, 0, 0, 0, 0, false, false, 0, 0, [], 0, 0)).2.1, ((mget a0.1 r12).getD (0, 0, 0, 0, 0, false, false, 0, 0, [], 0, 0)).2.2.1, ((mget a0.1 r12).getD (0, 0, 0, 0, 0, false, false, 0, 0, [], 0, 0)).2.2.2.1, ((mget a0.1 r12).getD (0, 0, 0, 0, 0, false, false, 0, 0, [], 0, 0)).2.2.2.2.1, ((mget a0.1 r12).getD (0, 0, 0, 0, 0, false, false, 0, 0, [], 0, 0)).2.2.2.2.2.1, true, r36, r40, [], ((mget a0.1 r12).getD (0, 0, 0, 0, 0, false, false, 0, 0, [], 0, 0)).2.2.2.2.2.2.2.2.2.2.1, ((mget a0.1 r12).getD (0, 0, 0, 0, 0, false, false, 0, 0, [], 0, 0)).2.2.2.2.2.2.2.2.2.2.2), _, _, _, h, hl44, rfl, rfl, (ho6.up (hl15.trans hl44)), Sl.nil⟩
  ·refine Z 5 rfl ?_
   refine st_if rfl h (fun h => ?_) (fun h => ?_)
   ·obtain ⟨r45, hr46, r49, hr50, h⟩ := h
    refine st_draw 11 (dl [.v (.pointer (some ⟨ba0, 0, none⟩)), .v (.pointer (some ⟨ba0, 0, none⟩)), .v (.pointer (some ⟨ba0, 1, none⟩)), .v (v3), .v (.int .i64 r12), .v (.agg #[.int .i64 a1.1, .int .i64 (a1.2.1.getD 0 0), .int .i64 (a1.2.1.getD 1 0), .int .i64 (a1.2.1.getD 2 0), .int .i64 (a1.2.1.getD 3 0), .int .i64 (a1.2.1.getD 4 0), .int .i64 (a1.2.1.getD 5 0), v7, v8, .string a1.2.2.2.2.1, .string a1.2.2.2.2.2]), .v (.int .i64 r45), .v (.agg #[.int .i64 r12, .int .i64 r45]), .v (.pointer (some ⟨b11, 8, none⟩)), .v (v8), .t fun τ v => ∃ (v53 : Value), (v53 : Value) = v ∧ Sl (kI .i64) τ v53 r49]) (fun _ _ => []) z_mix rfl (dl_mono ⟨fun _ _ _ hl ⟨v53, hv, hs54⟩ => ⟨v53, hv, hs54.up hl⟩, trivial⟩) (allB_cons (allB_cons (allB_cons (allB_cons (allB_cons (allB_cons (allB_cons (allB_cons (allB_cons (allB_cons (allB_cons allB_nil (p1 dA)) (p1 dA)) (p1 dA)) ?_) (p1 dA)) ?_) ?_) ?_) (p1 dA)) ?_) ?_) ?_
    ·intro ρ' τ pool rs hl hd hout hk
     obtain ⟨_, e2, rfl⟩ := hd 2 rfl
     refine o_load (j := 2) (v := v3) rfl rfl rfl z_sc64 e2 rfl rfl ?_
     exact st_addNil (hk _ _ (Sto.Le.refl _) rfl)
    ·intro ρ' τ pool rs hl hd hout hk
     refine o_loadN (j := 1) (vs := [.int .i64 a1.1, .int .i64 (a1.2.1.getD 0 0), .int .i64 (a1.2.1.getD 1 0), .int .i64 (a1.2.1.getD 2 0), .int .i64 (a1.2.1.getD 3 0), .int .i64 (a1.2.1.getD 4 0), .int .i64 (a1.2.1.getD 5 0), v7, v8, .string a1.2.2.2.2.1, .string a1.2.2.2.2.2]) rfl rfl rfl z_agg39 ((hout 3 rfl).trans rfl) rfl rfl ?_
     exact st_addNil (hk _ _ (Sto.Le.refl _) rfl)
    ·intro ρ' τ pool rs hl hd hout hk
     obtain ⟨_, e5, rfl⟩ := hd 5 rfl
     refine st_call (foot := []) rfl rfl rfl rfl (evs_cons e5 (evs_cons (ev_str z_str36) rfl)) rfl (callV_fn z_en53 (fleet_value_ok hr46 τ (hs9.up (hl15.trans hl)) (hs10.up (hl15.trans hl)))) ?_
     rintro vτ47 τ47 gsτ47 hl48 ⟨rfl, rfl⟩
     exact st_addNil (hk _ _ hl48 rfl)
    ·intro ρ' τ pool rs hl hd hout hk
     obtain ⟨_, e4, rfl⟩ := hd 4 rfl
     obtain ⟨_, e6, rfl⟩ := hd 6 rfl
     refine o_build (ps := [(0, [.int .i64 r12]), (1, [.int .i64 r45])]) (cs := [.int .i64 r12, .int .i64 r45]) rfl rfl rfl z_struct79 ⟨rfl, ⟨_, e4, rfl⟩, ⟨rfl, ⟨_, e6, rfl⟩, trivial⟩⟩ rfl ?_
     exact st_addNil (hk _ _ (Sto.Le.refl _) rfl)
    ·intro ρ' τ pool rs hl hd hout hk
     obtain ⟨_, e8, rfl⟩ := hd 8 rfl
     refine o_load (j := 1) (v := v8) rfl rfl rfl z_sc37 e8 rfl rfl ?_
     exact st_addNil (hk _ _ (Sto.Le.refl _) rfl)
    ·intro ρ' τ pool rs hl hd hout hk
     obtain ⟨_, e9, rfl⟩ := hd 9 rfl
     refine st_call (foot := []) rfl rfl rfl rfl (evs_cons e9 rfl) rfl (callV_fn z_en55 (slices_Clone_int_int_ok hr50 τ (hs10.up (hl15.trans hl)))) ?_
     rintro vτ51 τ51 gsτ51 hl52 ⟨v53, rfl, rfl, hs54⟩
     exact st_addNil (hk _ _ hl52 ⟨v53, rfl, hs54⟩)
    intro ρ' τ55 vals hl55 hv hout
    obtain ⟨l10, v53, t10, hs54⟩ := hv 10 (by decide)
    replace l10 : Eng.look ρ' 47 = some (v53) := l10.trans (congrArg some (Eq.symm t10))
    refine st_ord [0, 0, 0, 0, 0] _ rfl ?_
    refine st_env (ρ' := [(40, v3), (44, .agg #[.int .i64 r12, .int .i64 r45]), (47, v53), (0, .pointer (some ⟨ba0, 0, none⟩)), (4, .int .i64 r12), (5, .pointer (some ⟨b20, 0, none⟩))]) ⟨(lv1 hv 3 rfl rfl), (lv1 hv 7 rfl rfl), l10, (hout 0 rfl).trans rfl, (hout 4 rfl).trans rfl, (hout 5 rfl).trans rfl, trivial⟩ ?_
    refine o_mapPut (j := 4) (a := (r12, r45)) (q := r49) rfl rfl rfl z_map64 z_keyP79 rfl (ho6.up (hl15.trans hl55)) rfl rfl rfl hs54 (fun g56 ho57 => ?_)
    refine st_gs [[(b20, .cells #[.int .i64 (((mget a0.1 r12).getD (0, 0, 0, 0, 0, false, false, 0, 0, [], 0, 0)).1), .int .i64 (((mget a0.1 r12).getD (0, 0, 0, 0, 0, false, false, 0, 0, [], 0, 0)).2.1), .int .i64 (((mget a0.1 r12).getD (0, 0, 0, 0, 0, false, false, 0, 0, [], 0, 0)).2.2.1), .int .i64 (((mget a0.1 r12).getD (0, 0, 0, 0, 0, false, false, 0, 0, [], 0, 0)).2.2.2.1), .int .i64 (((mget a0.1 r12).getD (0, 0, 0, 0, 0, false, false, 0, 0, [], 0, 0)).2.2.2.2.1), .bool (((mget a0.1 r12).getD (0, 0, 0, 0, 0, false, false, 0, 0, [], 0, 0)).2.2.2.2.2.1), .bool (((mget a0.1 r12).getD (0, 0, 0, 0, 0, false, false, 0, 0, [], 0, 0)).2.2.2.2.2.2.1), .int .i64 (((mget a0.1 r12).getD (0, 0, 0, 0, 0, false, false, 0, 0, [], 0, 0)).2.2.2.2.2.2.2.1), .int .i64 (((mget a0.1 r12).getD (0, 0, 0, 0, 0, false, false, 0, 0, [], 0, 0)).2.2.2.2.2.2.2.2.1), v18, .int .i64 (((mget a0.1 r12).getD (0, 0, 0, 0, 0, false, false, 0, 0, [], 0, 0)).2.2.2.2.2.2.2.2.2.2.1), .int .i64 (((mget a0.1 r12).getD (0, 0, 0, 0, 0, false, false, 0, 0, [], 0, 0)).2.2.2.2.2.2.2.2.2.2.2)] 75 (0, 0))], [(b11, .cells #[.int .i64 a1.1, .int .i64 (a1.2.1.getD 0 0), .int .i64 (a1.2.1.getD 1 0), .int .i64 (a1.2.1.getD 2 0), .int .i64 (a1.2.1.getD 3 0), .int .i64 (a1.2.1.getD 4 0), .int .i64 (a1.2.1.getD 5 0), v7, v8, .string a1.2.2.2.2.1, .string a1.2.2.2.2.2] 39 (0, 0))], [(ba0, .cells #[v1, v3] 66 (0, 0))], g2, g56] rfl ?_
    refine Z 2 rfl ?_
    refine st_ord [2, 0, 1, 1] _ rfl ?_
    exact hk21 _ _ _ ⟨((mput a0.2 (r12, r45) r49), ((mget a0.1 r12).getD (0, 0, 0, 0, 0, false, false, 0, 0, [], 0, 0)).1, ((mget a0.1 r12).getD (0, 0, 0, 0, 0, false, false, 0, 0, [], 0, 0)).2.1, ((mget a0.1 r12).getD (0, 0, 0, 0, 0, false, false, 0, 0, [], 0, 0)).2.2.1, ((mget a0.1 r12).getD (0, 0, 0, 0, 0, false, false, 0, 0, [], 0, 0)).2.2.2.1, ((mget a0.1 r12).getD (0, 0, 0, 0, 0, false, false, 0, 0, [], 0, 0)).2.2.2.2.1, ((mget a0.1 r12).getD (0, 0, 0, 0, 0, false, false, 0, 0, [], 0, 0)).2.2.2.2.2.1, ((mget a0.1 r12).getD (0, 0, 0, 0, 0, false, false, 0, 0, [], 0, 0)).2.2.2.2.2.2.1, ((mget a0.1 r12).getD (0, 0, 0, 0, 0, false, false, 0, 0, [], 0, 0)).2.2.2.2.2.2.2.1, ((mget a0.1 r12).getD (0, 0, 0, 0, 0, false, false, 0, 0, [], 0, 0)).2.2.2.2.2.2.2.2.1, ((mget a0.1 r12).getD (0, 0, 0, 0, 0, false, false, 0, 0, [], 0, 0)).2.2.2.2.2.2.2.2.2.1, ((mget a0.1 r12).getD (0, 0, 0, 0, 0, false, false, 0, 0, [], 0, 0)).2.2.2.2.2.2.2.2.2.2.1, ((mget a0.1 r12).getD (0, 0, 0, 0, 0, false, false, 0, 0, [], 0, 0)).2.2.2.2.2.2.2.2.2.2.2), _, _, _, h, hl55, rfl, rfl, ho57, (hs19.up hl55)⟩
   ·refine Z 5 rfl ?_
    refine st_if rfl h (fun h => ?_) (fun h => ?_)
    ·refine st_seq ?_
     obtain ⟨r58, hr59, r62, hr63, r66, hr67, h⟩ := h
     refine st_ord [1, 1, 1, 1, 0] _ rfl ?_
     refine st_d41 [[(b11, .cells #[.int .i64 a1.1, .int .i64 (a1.2.1.getD 0 0), .int .i64 (a1.2.1.getD 1 0), .int .i64 (a1.2.1.getD 2 0), .int .i64 (a1.2.1.getD 3 0), .int .i64 (a1.2.1.getD 4 0), .int .i64 (a1.2.1.getD 5 0), v7, v8, .string a1.2.2.2.2.1, .string a1.2.2.2.2.2] 39 (0, 0))], [(ba0, .cells #[v1, v3] 66 (0, 0))], g2, g4] [[(b20, .cells #[.int .i64 (((mget a0.1 r12).getD (0, 0, 0, 0, 0, false, false, 0, 0, [], 0, 0)).1), .int .i64 (((mget a0.1 r12).getD (0, 0, 0, 0, 0, false, false, 0, 0, [], 0, 0)).2.1), .int .i64 (((mget a0.1 r12).getD (0, 0, 0, 0, 0, false, false, 0, 0, [], 0, 0)).2.2.1), .int .i64 (((mget a0.1 r12).getD (0, 0, 0, 0, 0, false, false, 0, 0, [], 0, 0)).2.2.2.1), .int .i64 (((mget a0.1 r12).getD (0, 0, 0, 0, 0, false, false, 0, 0, [], 0, 0)).2.2.2.2.1), .bool (((mget a0.1 r12).getD (0, 0, 0, 0, 0, false, false, 0, 0, [], 0, 0)).2.2.2.2.2.1), .bool (((mget a0.1 r12).getD (0, 0, 0, 0, 0, false, false, 0, 0, [], 0, 0)).2.2.2.2.2.2.1), .int .i64 (((mget a0.1 r12).getD (0, 0, 0, 0, 0, false, false, 0, 0, [], 0, 0)).2.2.2.2.2.2.2.1), .int .i64 (((mget a0.1 r12).getD (0, 0, 0, 0, 0, false, false, 0, 0, [], 0, 0)).2.2.2.2.2.2.2.2.1), v18, .int .i64 (((mget a0.1 r12).getD (0, 0, 0, 0, 0, false, false, 0, 0, [], 0, 0)).2.2.2.2.2.2.2.2.2.2.1), .int .i64 (((mget a0.1 r12).getD (0, 0, 0, 0, 0, false, false, 0, 0, [], 0, 0)).2.2.2.2.2.2.2.2.2.2.2)] 75 (0, 0))]] 10 2 [none, none, none, none, none, none, none, some (0, 0), none, some (0, 1)] [none, none, none, none, none, none, none, none, none, none] [[none, none, none]] [.v (.agg #[.int .i64 a1.1, .int .i64 (a1.2.1.getD 0 0), .int .i64 (a1.2.1.getD 1 0), .int .i64 (a1.2.1.getD 2 0), .int .i64 (a1.2.1.getD 3 0), .int .i64 (a1.2.1.getD 4 0), .int .i64 (a1.2.1.getD 5 0), v7, v8, .string a1.2.2.2.2.1, .string a1.2.2.2.2.2]), .v (.int .i64 r58), .v (.agg #[.int .i64 a1.1, .int .i64 (a1.2.1.getD 0 0), .int .i64 (a1.2.1.getD 1 0), .int .i64 (a1.2.1.getD 2 0), .int .i64 (a1.2.1.getD 3 0), .int .i64 (a1.2.1.getD 4 0), .int .i64 (a1.2.1.getD 5 0), v7, v8, .string a1.2.2.2.2.1, .string a1.2.2.2.2.2]), .v (.int .i64 r62), .v (.agg #[.int .i64 a1.1, .int .i64 (a1.2.1.getD 0 0), .int .i64 (a1.2.1.getD 1 0), .int .i64 (a1.2.1.getD 2 0), .int .i64 (a1.2.1.getD 3 0), .int .i64 (a1.2.1.getD 4 0), .int .i64 (a1.2.1.getD 5 0), v7, v8, .string a1.2.2.2.2.1, .string a1.2.2.2.2.2]), .v (.int .i64 r66), .v (.pointer (some ⟨b20, 0, none⟩)), .t fun _ _ => True, .v (.pointer (some ⟨b20, 1, none⟩)), .t fun _ _ => True] [[fun τ u F => F = [[(b20, .cells #[.int .i64 (((mget a0.1 r12).getD (0, 0, 0, 0, 0, false, false, 0, 0, [], 0, 0)).1), .int .i64 (((mget a0.1 r12).getD (0, 0, 0, 0, 0, false, false, 0, 0, [], 0, 0)).2.1), .int .i64 (((mget a0.1 r12).getD (0, 0, 0, 0, 0, false, false, 0, 0, [], 0, 0)).2.2.1), .int .i64 (((mget a0.1 r12).getD (0, 0, 0, 0, 0, false, false, 0, 0, [], 0, 0)).2.2.2.1), .int .i64 (((mget a0.1 r12).getD (0, 0, 0, 0, 0, false, false, 0, 0, [], 0, 0)).2.2.2.2.1), .bool (((mget a0.1 r12).getD (0, 0, 0, 0, 0, false, false, 0, 0, [], 0, 0)).2.2.2.2.2.1), .bool (((mget a0.1 r12).getD (0, 0, 0, 0, 0, false, false, 0, 0, [], 0, 0)).2.2.2.2.2.2.1), .int .i64 (((mget a0.1 r12).getD (0, 0, 0, 0, 0, false, false, 0, 0, [], 0, 0)).2.2.2.2.2.2.2.1), .int .i64 (((mget a0.1 r12).getD (0, 0, 0, 0, 0, false, false, 0, 0, [], 0, 0)).2.2.2.2.2.2.2.2.1), v18, .int .i64 (((mget a0.1 r12).getD (0, 0, 0, 0, 0, false, false, 0, 0, [], 0, 0)).2.2.2.2.2.2.2.2.2.2.1), .int .i64 (((mget a0.1 r12).getD (0, 0, 0, 0, 0, false, false, 0, 0, [], 0, 0)).2.2.2.2.2.2.2.2.2.2.2)] 75 (0, 0))]], fun τ u F => F = [[(b20, .cells #[.int .i64 r58, .int .i64 (((mget a0.1 r12).getD (0, 0, 0, 0, 0, false, false, 0, 0, [], 0, 0)).2.1), .int .i64 (((mget a0.1 r12).getD (0, 0, 0, 0, 0, false, false, 0, 0, [], 0, 0)).2.2.1), .int .i64 (((mget a0.1 r12).getD (0, 0, 0, 0, 0, false, false, 0, 0, [], 0, 0)).2.2.2.1), .int .i64 (((mget a0.1 r12).getD (0, 0, 0, 0, 0, false, false, 0, 0, [], 0, 0)).2.2.2.2.1), .bool (((mget a0.1 r12).getD (0, 0, 0, 0, 0, false, false, 0, 0, [], 0, 0)).2.2.2.2.2.1), .bool (((mget a0.1 r12).getD (0, 0, 0, 0, 0, false, false, 0, 0, [], 0, 0)).2.2.2.2.2.2.1), .int .i64 (((mget a0.1 r12).getD (0, 0, 0, 0, 0, false, false, 0, 0, [], 0, 0)).2.2.2.2.2.2.2.1), .int .i64 (((mget a0.1 r12).getD (0, 0, 0, 0, 0, false, false, 0, 0, [], 0, 0)).2.2.2.2.2.2.2.2.1), v18, .int .i64 (((mget a0.1 r12).getD (0, 0, 0, 0, 0, false, false, 0, 0, [], 0, 0)).2.2.2.2.2.2.2.2.2.2.1), .int .i64 (((mget a0.1 r12).getD (0, 0, 0, 0, 0, false, false, 0, 0, [], 0, 0)).2.2.2.2.2.2.2.2.2.2.2)] 75 (0, 0))]], fun τ u F => F = [[(b20, .cells #[.int .i64 r58, .int .i64 r62, .int .i64 (((mget a0.1 r12).getD (0, 0, 0, 0, 0, false, false, 0, 0, [], 0, 0)).2.2.1), .int .i64 (((mget a0.1 r12).getD (0, 0, 0, 0, 0, false, false, 0, 0, [], 0, 0)).2.2.2.1), .int .i64 (((mget a0.1 r12).getD (0, 0, 0, 0, 0, false, false, 0, 0, [], 0, 0)).2.2.2.2.1), .bool (((mget a0.1 r12).getD (0, 0, 0, 0, 0, false, false, 0, 0, [], 0, 0)).2.2.2.2.2.1), .bool (((mget a0.1 r12).getD (0, 0, 0, 0, 0, false, false, 0, 0, [], 0, 0)).2.2.2.2.2.2.1), .int .i64 (((mget a0.1 r12).getD (0, 0, 0, 0, 0, false, false, 0, 0, [], 0, 0)).2.2.2.2.2.2.2.1), .int .i64 (((mget a0.1 r12).getD (0, 0, 0, 0, 0, false, false, 0, 0, [], 0, 0)).2.2.2.2.2.2.2.2.1), v18, .int .i64 (((mget a0.1 r12).getD (0, 0, 0, 0, 0, false, false, 0, 0, [], 0, 0)).2.2.2.2.2.2.2.2.2.2.1), .int .i64 (((mget a0.1 r12).getD (0, 0, 0, 0, 0, false, false, 0, 0, [], 0, 0)).2.2.2.2.2.2.2.2.2.2.2)] 75 (0, 0))]]]] rfl z_mix rfl ⟨fun _ _ _ _ _ => trivial, ⟨fun _ _ _ _ _ => trivial, trivial⟩⟩ ⟨⟨fun _ _ _ _ hl h => h, ⟨fun _ _ _ _ hl h => h, ⟨fun _ _ _ _ hl h => h, trivial⟩⟩⟩, trivial⟩ rfl rfl ?_ (allB_cons (allB_cons (allB_cons (allB_cons (allB_cons (allB_cons (allB_cons (allB_cons (allB_cons (allB_cons allB_nil ?_) ?_) ?_) ?_) ?_) ?_) (p4 dA)) ?_) (p4 dA)) ?_) ?_
     ·exact rfl
     ·intro ρ' τ pool rs hl hd hout hw hk
      refine o_loadN (j := 0) (vs := [.int .i64 a1.1, .int .i64 (a1.2.1.getD 0 0), .int .i64 (a1.2.1.getD 1 0), .int .i64 (a1.2.1.getD 2 0), .int .i64 (a1.2.1.getD 3 0), .int .i64 (a1.2.1.getD 4 0), .int .i64 (a1.2.1.getD 5 0), v7, v8, .string a1.2.2.2.2.1, .string a1.2.2.2.2.2]) rfl rfl rfl z_agg39 ((hout 3 rfl).trans rfl) rfl rfl ?_
      exact hk _ _ (Sto.Le.refl _) rfl
     ·intro ρ' τ pool rs hl hd hout hw hk
      obtain ⟨_, e0, rfl⟩ := hd 0 rfl _ rfl
      refine st_call (foot := []) rfl rfl rfl rfl (evs_cons e0 (evs_cons (ev_str z_str39) rfl)) rfl (callV_fn z_en53 (fleet_value_ok hr59 τ (hs9.up (hl15.trans hl)) (hs10.up (hl15.trans hl)))) ?_
      rintro vτ60 τ60 gsτ60 hl61 ⟨rfl, rfl⟩
      exact hk _ _ hl61 rfl
     ·intro ρ' τ pool rs hl hd hout hw hk
      refine o_loadN (j := 0) (vs := [.int .i64 a1.1, .int .i64 (a1.2.1.getD 0 0), .int .i64 (a1.2.1.getD 1 0), .int .i64 (a1.2.1.getD 2 0), .int .i64 (a1.2.1.getD 3 0), .int .i64 (a1.2.1.getD 4 0), .int .i64 (a1.2.1.getD 5 0), v7, v8, .string a1.2.2.2.2.1, .string a1.2.2.2.2.2]) rfl rfl rfl z_agg39 ((hout 3 rfl).trans rfl) rfl rfl ?_
      exact hk _ _ (Sto.Le.refl _) rfl
     ·intro ρ' τ pool rs hl hd hout hw hk
      obtain ⟨_, e2, rfl⟩ := hd 2 rfl _ rfl
      refine st_call (foot := []) rfl rfl rfl rfl (evs_cons e2 (evs_cons (ev_str z_str40) rfl)) rfl (callV_fn z_en53 (fleet_value_ok hr63 τ (hs9.up (hl15.trans hl)) (hs10.up (hl15.trans hl)))) ?_
      rintro vτ64 τ64 gsτ64 hl65 ⟨rfl, rfl⟩
      exact hk _ _ hl65 rfl
     ·intro ρ' τ pool rs hl hd hout hw hk
      refine o_loadN (j := 0) (vs := [.int .i64 a1.1, .int .i64 (a1.2.1.getD 0 0), .int .i64 (a1.2.1.getD 1 0), .int .i64 (a1.2.1.getD 2 0), .int .i64 (a1.2.1.getD 3 0), .int .i64 (a1.2.1.getD 4 0), .int .i64 (a1.2.1.getD 5 0), v7, v8, .string a1.2.2.2.2.1, .string a1.2.2.2.2.2]) rfl rfl rfl z_agg39 ((hout 3 rfl).trans rfl) rfl rfl ?_
      exact hk _ _ (Sto.Le.refl _) rfl
     ·intro ρ' τ pool rs hl hd hout hw hk
      obtain ⟨_, e4, rfl⟩ := hd 4 rfl _ rfl
      refine st_call (foot := []) rfl rfl rfl rfl (evs_cons e4 (evs_cons (ev_str z_str41) rfl)) rfl (callV_fn z_en53 (fleet_value_ok hr67 τ (hs9.up (hl15.trans hl)) (hs10.up (hl15.trans hl)))) ?_
      rintro vτ68 τ68 gsτ68 hl69 ⟨rfl, rfl⟩
      exact hk _ _ hl69 rfl
     ·intro ρ' τ u Fv pool rs hl hI hu hd hout hw hk
      obtain ⟨_, e1, rfl⟩ := hd 1 rfl _ rfl
      obtain ⟨_, e6, rfl⟩ := hd 6 rfl _ rfl
      have hI0 := hI
      obtain rfl := hI
      refine st_gs [[(b11, .cells #[.int .i64 a1.1, .int .i64 (a1.2.1.getD 0 0), .int .i64 (a1.2.1.getD 1 0), .int .i64 (a1.2.1.getD 2 0), .int .i64 (a1.2.1.getD 3 0), .int .i64 (a1.2.1.getD 4 0), .int .i64 (a1.2.1.getD 5 0), v7, v8, .string a1.2.2.2.2.1, .string a1.2.2.2.2.2] 39 (0, 0))], [(ba0, .cells #[v1, v3] 66 (0, 0))], g2, g4, [(b20, .cells #[.int .i64 (((mget a0.1 r12).getD (0, 0, 0, 0, 0, false, false, 0, 0, [], 0, 0)).1), .int .i64 (((mget a0.1 r12).getD (0, 0, 0, 0, 0, false, false, 0, 0, [], 0, 0)).2.1), .int .i64 (((mget a0.1 r12).getD (0, 0, 0, 0, 0, false, false, 0, 0, [], 0, 0)).2.2.1), .int .i64 (((mget a0.1 r12).getD (0, 0, 0, 0, 0, false, false, 0, 0, [], 0, 0)).2.2.2.1), .int .i64 (((mget a0.1 r12).getD (0, 0, 0, 0, 0, false, false, 0, 0, [], 0, 0)).2.2.2.2.1), .bool (((mget a0.1 r12).getD (0, 0, 0, 0, 0, false, false, 0, 0, [], 0, 0)).2.2.2.2.2.1), .bool (((mget a0.1 r12).getD (0, 0, 0, 0, 0, false, false, 0, 0, [], 0, 0)).2.2.2.2.2.2.1), .int .i64 (((mget a0.1 r12).getD (0, 0, 0, 0, 0, false, false, 0, 0, [], 0, 0)).2.2.2.2.2.2.2.1), .int .i64 (((mget a0.1 r12).getD (0, 0, 0, 0, 0, false, false, 0, 0, [], 0, 0)).2.2.2.2.2.2.2.2.1), v18, .int .i64 (((mget a0.1 r12).getD (0, 0, 0, 0, 0, false, false, 0, 0, [], 0, 0)).2.2.2.2.2.2.2.2.2.2.1), .int .i64 (((mget a0.1 r12).getD (0, 0, 0, 0, 0, false, false, 0, 0, [], 0, 0)).2.2.2.2.2.2.2.2.2.2.2)] 75 (0, 0))], pool] rfl ?_
      refine o_store (j := 4) (vs := [.int .i64 r58]) (cs' := [.int .i64 r58, .int .i64 (((mget a0.1 r12).getD (0, 0, 0, 0, 0, false, false, 0, 0, [], 0, 0)).2.1), .int .i64 (((mget a0.1 r12).getD (0, 0, 0, 0, 0, false, false, 0, 0, [], 0, 0)).2.2.1), .int .i64 (((mget a0.1 r12).getD (0, 0, 0, 0, 0, false, false, 0, 0, [], 0, 0)).2.2.2.1), .int .i64 (((mget a0.1 r12).getD (0, 0, 0, 0, 0, false, false, 0, 0, [], 0, 0)).2.2.2.2.1), .bool (((mget a0.1 r12).getD (0, 0, 0, 0, 0, false, false, 0, 0, [], 0, 0)).2.2.2.2.2.1), .bool (((mget a0.1 r12).getD (0, 0, 0, 0, 0, false, false, 0, 0, [], 0, 0)).2.2.2.2.2.2.1), .int .i64 (((mget a0.1 r12).getD (0, 0, 0, 0, 0, false, false, 0, 0, [], 0, 0)).2.2.2.2.2.2.2.1), .int .i64 (((mget a0.1 r12).getD (0, 0, 0, 0, 0, false, false, 0, 0, [], 0, 0)).2.2.2.2.2.2.2.2.1), v18, .int .i64 (((mget a0.1 r12).getD (0, 0, 0, 0, 0, false, false, 0, 0, [], 0, 0)).2.2.2.2.2.2.2.2.2.2.1), .int .i64 (((mget a0.1 r12).getD (0, 0, 0, 0, 0, false, false, 0, 0, [], 0, 0)).2.2.2.2.2.2.2.2.2.2.2)]) rfl rfl rfl z_size3 e6 e1 rfl (ones_cons rfl ones_nil) rfl rfl rfl ?_
      refine st_gs [[(b11, .cells #[.int .i64 a1.1, .int .i64 (a1.2.1.getD 0 0), .int .i64 (a1.2.1.getD 1 0), .int .i64 (a1.2.1.getD 2 0), .int .i64 (a1.2.1.getD 3 0), .int .i64 (a1.2.1.getD 4 0), .int .i64 (a1.2.1.getD 5 0), v7, v8, .string a1.2.2.2.2.1, .string a1.2.2.2.2.2] 39 (0, 0))], [(ba0, .cells #[v1, v3] 66 (0, 0))], g2, g4, [(b20, .cells #[.int .i64 r58, .int .i64 (((mget a0.1 r12).getD (0, 0, 0, 0, 0, false, false, 0, 0, [], 0, 0)).2.1), .int .i64 (((mget a0.1 r12).getD (0, 0, 0, 0, 0, false, false, 0, 0, [], 0, 0)).2.2.1), .int .i64 (((mget a0.1 r12).getD (0, 0, 0, 0, 0, false, false, 0, 0, [], 0, 0)).2.2.2.1), .int .i64 (((mget a0.1 r12).getD (0, 0, 0, 0, 0, false, false, 0, 0, [], 0, 0)).2.2.2.2.1), .bool (((mget a0.1 r12).getD (0, 0, 0, 0, 0, false, false, 0, 0, [], 0, 0)).2.2.2.2.2.1), .bool (((mget a0.1 r12).getD (0, 0, 0, 0, 0, false, false, 0, 0, [], 0, 0)).2.2.2.2.2.2.1), .int .i64 (((mget a0.1 r12).getD (0, 0, 0, 0, 0, false, false, 0, 0, [], 0, 0)).2.2.2.2.2.2.2.1), .int .i64 (((mget a0.1 r12).getD (0, 0, 0, 0, 0, false, false, 0, 0, [], 0, 0)).2.2.2.2.2.2.2.2.1), v18, .int .i64 (((mget a0.1 r12).getD (0, 0, 0, 0, 0, false, false, 0, 0, [], 0, 0)).2.2.2.2.2.2.2.2.2.2.1), .int .i64 (((mget a0.1 r12).getD (0, 0, 0, 0, 0, false, false, 0, 0, [], 0, 0)).2.2.2.2.2.2.2.2.2.2.2)] 75 (0, 0))], pool] rfl ?_
      exact hk _ _ [[(b20, .cells #[.int .i64 r58, .int .i64 (((mget a0.1 r12).getD (0, 0, 0, 0, 0, false, false, 0, 0, [], 0, 0)).2.1), .int .i64 (((mget a0.1 r12).getD (0, 0, 0, 0, 0, false, false, 0, 0, [], 0, 0)).2.2.1), .int .i64 (((mget a0.1 r12).getD (0, 0, 0, 0, 0, false, false, 0, 0, [], 0, 0)).2.2.2.1), .int .i64 (((mget a0.1 r12).getD (0, 0, 0, 0, 0, false, false, 0, 0, [], 0, 0)).2.2.2.2.1), .bool (((mget a0.1 r12).getD (0, 0, 0, 0, 0, false, false, 0, 0, [], 0, 0)).2.2.2.2.2.1), .bool (((mget a0.1 r12).getD (0, 0, 0, 0, 0, false, false, 0, 0, [], 0, 0)).2.2.2.2.2.2.1), .int .i64 (((mget a0.1 r12).getD (0, 0, 0, 0, 0, false, false, 0, 0, [], 0, 0)).2.2.2.2.2.2.2.1), .int .i64 (((mget a0.1 r12).getD (0, 0, 0, 0, 0, false, false, 0, 0, [], 0, 0)).2.2.2.2.2.2.2.2.1), v18, .int .i64 (((mget a0.1 r12).getD (0, 0, 0, 0, 0, false, false, 0, 0, [], 0, 0)).2.2.2.2.2.2.2.2.2.2.1), .int .i64 (((mget a0.1 r12).getD (0, 0, 0, 0, 0, false, false, 0, 0, [], 0, 0)).2.2.2.2.2.2.2.2.2.2.2)] 75 (0, 0))]] (Sto.Le.refl _) trivial (by exact rfl)
     ·intro ρ' τ u Fv pool rs hl hI hu hd hout hw hk
      obtain ⟨_, e3, rfl⟩ := hd 3 rfl _ rfl
      obtain ⟨_, e8, rfl⟩ := hd 8 rfl _ rfl
      have hI0 := hI
      obtain rfl := hI
      refine st_gs [[(b11, .cells #[.int .i64 a1.1, .int .i64 (a1.2.1.getD 0 0), .int .i64 (a1.2.1.getD 1 0), .int .i64 (a1.2.1.getD 2 0), .int .i64 (a1.2.1.getD 3 0), .int .i64 (a1.2.1.getD 4 0), .int .i64 (a1.2.1.getD 5 0), v7, v8, .string a1.2.2.2.2.1, .string a1.2.2.2.2.2] 39 (0, 0))], [(ba0, .cells #[v1, v3] 66 (0, 0))], g2, g4, [(b20, .cells #[.int .i64 r58, .int .i64 (((mget a0.1 r12).getD (0, 0, 0, 0, 0, false, false, 0, 0, [], 0, 0)).2.1), .int .i64 (((mget a0.1 r12).getD (0, 0, 0, 0, 0, false, false, 0, 0, [], 0, 0)).2.2.1), .int .i64 (((mget a0.1 r12).getD (0, 0, 0, 0, 0, false, false, 0, 0, [], 0, 0)).2.2.2.1), .int .i64 (((mget a0.1 r12).getD (0, 0, 0, 0, 0, false, false, 0, 0, [], 0, 0)).2.2.2.2.1), .bool (((mget a0.1 r12).getD (0, 0, 0, 0, 0, false, false, 0, 0, [], 0, 0)).2.2.2.2.2.1), .bool (((mget a0.1 r12).getD (0, 0, 0, 0, 0, false, false, 0, 0, [], 0, 0)).2.2.2.2.2.2.1), .int .i64 (((mget a0.1 r12).getD (0, 0, 0, 0, 0, false, false, 0, 0, [], 0, 0)).2.2.2.2.2.2.2.1), .int .i64 (((mget a0.1 r12).getD (0, 0, 0, 0, 0, false, false, 0, 0, [], 0, 0)).2.2.2.2.2.2.2.2.1), v18, .int .i64 (((mget a0.1 r12).getD (0, 0, 0, 0, 0, false, false, 0, 0, [], 0, 0)).2.2.2.2.2.2.2.2.2.2.1), .int .i64 (((mget a0.1 r12).getD (0, 0, 0, 0, 0, false, false, 0, 0, [], 0, 0)).2.2.2.2.2.2.2.2.2.2.2)] 75 (0, 0))], pool] rfl ?_
      refine o_store (j := 4) (vs := [.int .i64 r62]) (cs' := [.int .i64 r58, .int .i64 r62, .int .i64 (((mget a0.1 r12).getD (0, 0, 0, 0, 0, false, false, 0, 0, [], 0, 0)).2.2.1), .int .i64 (((mget a0.1 r12).getD (0, 0, 0, 0, 0, false, false, 0, 0, [], 0, 0)).2.2.2.1), .int .i64 (((mget a0.1 r12).getD (0, 0, 0, 0, 0, false, false, 0, 0, [], 0, 0)).2.2.2.2.1), .bool (((mget a0.1 r12).getD (0, 0, 0, 0, 0, false, false, 0, 0, [], 0, 0)).2.2.2.2.2.1), .bool (((mget a0.1 r12).getD (0, 0, 0, 0, 0, false, false, 0, 0, [], 0, 0)).2.2.2.2.2.2.1), .int .i64 (((mget a0.1 r12).getD (0, 0, 0, 0, 0, false, false, 0, 0, [], 0, 0)).2.2.2.2.2.2.2.1), .int .i64 (((mget a0.1 r12).getD (0, 0, 0, 0, 0, false, false, 0, 0, [], 0, 0)).2.2.2.2.2.2.2.2.1), v18, .int .i64 (((mget a0.1 r12).getD (0, 0, 0, 0, 0, false, false, 0, 0, [], 0, 0)).2.2.2.2.2.2.2.2.2.2.1), .int .i64 (((mget a0.1 r12).getD (0, 0, 0, 0, 0, false, false, 0, 0, [], 0, 0)).2.2.2.2.2.2.2.2.2.2.2)]) rfl rfl rfl z_size3 e8 e3 rfl (ones_cons rfl ones_nil) rfl rfl rfl ?_
      refine st_gs [[(b11, .cells #[.int .i64 a1.1, .int .i64 (a1.2.1.getD 0 0), .int .i64 (a1.2.1.getD 1 0), .int .i64 (a1.2.1.getD 2 0), .int .i64 (a1.2.1.getD 3 0), .int .i64 (a1.2.1.getD 4 0), .int .i64 (a1.2.1.getD 5 0), v7, v8, .string a1.2.2.2.2.1, .string a1.2.2.2.2.2] 39 (0, 0))], [(ba0, .cells #[v1, v3] 66 (0, 0))], g2, g4, [(b20, .cells #[.int .i64 r58, .int .i64 r62, .int .i64 (((mget a0.1 r12).getD (0, 0, 0, 0, 0, false, false, 0, 0, [], 0, 0)).2.2.1), .int .i64 (((mget a0.1 r12).getD (0, 0, 0, 0, 0, false, false, 0, 0, [], 0, 0)).2.2.2.1), .int .i64 (((mget a0.1 r12).getD (0, 0, 0, 0, 0, false, false, 0, 0, [], 0, 0)).2.2.2.2.1), .bool (((mget a0.1 r12).getD (0, 0, 0, 0, 0, false, false, 0, 0, [], 0, 0)).2.2.2.2.2.1), .bool (((mget a0.1 r12).getD (0, 0, 0, 0, 0, false, false, 0, 0, [], 0, 0)).2.2.2.2.2.2.1), .int .i64 (((mget a0.1 r12).getD (0, 0, 0, 0, 0, false, false, 0, 0, [], 0, 0)).2.2.2.2.2.2.2.1), .int .i64 (((mget a0.1 r12).getD (0, 0, 0, 0, 0, false, false, 0, 0, [], 0, 0)).2.2.2.2.2.2.2.2.1), v18, .int .i64 (((mget a0.1 r12).getD (0, 0, 0, 0, 0, false, false, 0, 0, [], 0, 0)).2.2.2.2.2.2.2.2.2.2.1), .int .i64 (((mget a0.1 r12).getD (0, 0, 0, 0, 0, false, false, 0, 0, [], 0, 0)).2.2.2.2.2.2.2.2.2.2.2)] 75 (0, 0))], pool] rfl ?_
      exact hk _ _ [[(b20, .cells #[.int .i64 r58, .int .i64 r62, .int .i64 (((mget a0.1 r12).getD (0, 0, 0, 0, 0, false, false, 0, 0, [], 0, 0)).2.2.1), .int .i64 (((mget a0.1 r12).getD (0, 0, 0, 0, 0, false, false, 0, 0, [], 0, 0)).2.2.2.1), .int .i64 (((mget a0.1 r12).getD (0, 0, 0, 0, 0, false, false, 0, 0, [], 0, 0)).2.2.2.2.1), .bool (((mget a0.1 r12).getD (0, 0, 0, 0, 0, false, false, 0, 0, [], 0, 0)).2.2.2.2.2.1), .bool (((mget a0.1 r12).getD (0, 0, 0, 0, 0, false, false, 0, 0, [], 0, 0)).2.2.2.2.2.2.1), .int .i64 (((mget a0.1 r12).getD (0, 0, 0, 0, 0, false, false, 0, 0, [], 0, 0)).2.2.2.2.2.2.2.1), .int .i64 (((mget a0.1 r12).getD (0, 0, 0, 0, 0, false, false, 0, 0, [], 0, 0)).2.2.2.2.2.2.2.2.1), v18, .int .i64 (((mget a0.1 r12).getD (0, 0, 0, 0, 0, false, false, 0, 0, [], 0, 0)).2.2.2.2.2.2.2.2.2.2.1), .int .i64 (((mget a0.1 r12).getD (0, 0, 0, 0, 0, false, false, 0, 0, [], 0, 0)).2.2.2.2.2.2.2.2.2.2.2)] 75 (0, 0))]] (Sto.Le.refl _) trivial (by exact rfl)
     intro ρ' τ70 vals u Fv hl70 hI hu hv hout
     obtain rfl := hI
     refine st_gs [[(b11, .cells #[.int .i64 a1.1, .int .i64 (a1.2.1.getD 0 0), .int .i64 (a1.2.1.getD 1 0), .int .i64 (a1.2.1.getD 2 0), .int .i64 (a1.2.1.getD 3 0), .int .i64 (a1.2.1.getD 4 0), .int .i64 (a1.2.1.getD 5 0), v7, v8, .string a1.2.2.2.2.1, .string a1.2.2.2.2.2] 39 (0, 0))], [(ba0, .cells #[v1, v3] 66 (0, 0))], g2, g4, [(b20, .cells #[.int .i64 r58, .int .i64 r62, .int .i64 (((mget a0.1 r12).getD (0, 0, 0, 0, 0, false, false, 0, 0, [], 0, 0)).2.2.1), .int .i64 (((mget a0.1 r12).getD (0, 0, 0, 0, 0, false, false, 0, 0, [], 0, 0)).2.2.2.1), .int .i64 (((mget a0.1 r12).getD (0, 0, 0, 0, 0, false, false, 0, 0, [], 0, 0)).2.2.2.2.1), .bool (((mget a0.1 r12).getD (0, 0, 0, 0, 0, false, false, 0, 0, [], 0, 0)).2.2.2.2.2.1), .bool (((mget a0.1 r12).getD (0, 0, 0, 0, 0, false, false, 0, 0, [], 0, 0)).2.2.2.2.2.2.1), .int .i64 (((mget a0.1 r12).getD (0, 0, 0, 0, 0, false, false, 0, 0, [], 0, 0)).2.2.2.2.2.2.2.1), .int .i64 (((mget a0.1 r12).getD (0, 0, 0, 0, 0, false, false, 0, 0, [], 0, 0)).2.2.2.2.2.2.2.2.1), v18, .int .i64 (((mget a0.1 r12).getD (0, 0, 0, 0, 0, false, false, 0, 0, [], 0, 0)).2.2.2.2.2.2.2.2.2.2.1), .int .i64 (((mget a0.1 r12).getD (0, 0, 0, 0, 0, false, false, 0, 0, [], 0, 0)).2.2.2.2.2.2.2.2.2.2.2)] 75 (0, 0))]] rfl ?_
     refine st_env (ρ' := [(55, .int .i64 r66), (0, .pointer (some ⟨ba0, 0, none⟩)), (3, .pointer (some ⟨b11, 0, none⟩)), (4, .int .i64 r12), (5, .pointer (some ⟨b20, 0, none⟩))]) ⟨(lv4 hv 5 rfl rfl rfl), (hout 0 rfl).trans rfl, (hout 3 rfl).trans rfl, (hout 4 rfl).trans rfl, (hout 5 rfl).trans rfl, trivial⟩ ?_
     refine ZZ 3 [4] rfl rfl ?_
     obtain ⟨r71, hr72, r75, hr76, h⟩ := h
     refine st_d41 [[(b11, .cells #[.int .i64 a1.1, .int .i64 (a1.2.1.getD 0 0), .int .i64 (a1.2.1.getD 1 0), .int .i64 (a1.2.1.getD 2 0), .int .i64 (a1.2.1.getD 3 0), .int .i64 (a1.2.1.getD 4 0), .int .i64 (a1.2.1.getD 5 0), v7, v8, .string a1.2.2.2.2.1, .string a1.2.2.2.2.2] 39 (0, 0))], [(ba0, .cells #[v1, v3] 66 (0, 0))], g2, g4] [[(b20, .cells #[.int .i64 r58, .int .i64 r62, .int .i64 r66, .int .i64 (((mget a0.1 r12).getD (0, 0, 0, 0, 0, false, false, 0, 0, [], 0, 0)).2.2.2.1), .int .i64 (((mget a0.1 r12).getD (0, 0, 0, 0, 0, false, false, 0, 0, [], 0, 0)).2.2.2.2.1), .bool (((mget a0.1 r12).getD (0, 0, 0, 0, 0, false, false, 0, 0, [], 0, 0)).2.2.2.2.2.1), .bool (((mget a0.1 r12).getD (0, 0, 0, 0, 0, false, false, 0, 0, [], 0, 0)).2.2.2.2.2.2.1), .int .i64 (((mget a0.1 r12).getD (0, 0, 0, 0, 0, false, false, 0, 0, [], 0, 0)).2.2.2.2.2.2.2.1), .int .i64 (((mget a0.1 r12).getD (0, 0, 0, 0, 0, false, false, 0, 0, [], 0, 0)).2.2.2.2.2.2.2.2.1), v18, .int .i64 (((mget a0.1 r12).getD (0, 0, 0, 0, 0, false, false, 0, 0, [], 0, 0)).2.2.2.2.2.2.2.2.2.2.1), .int .i64 (((mget a0.1 r12).getD (0, 0, 0, 0, 0, false, false, 0, 0, [], 0, 0)).2.2.2.2.2.2.2.2.2.2.2)] 75 (0, 0))]] 6 1 [none, none, none, none, none, some (0, 0)] [none, none, none, none, none, none] [[none, none]] [.v (.agg #[.int .i64 a1.1, .int .i64 (a1.2.1.getD 0 0), .int .i64 (a1.2.1.getD 1 0), .int .i64 (a1.2.1.getD 2 0), .int .i64 (a1.2.1.getD 3 0), .int .i64 (a1.2.1.getD 4 0), .int .i64 (a1.2.1.getD 5 0), v7, v8, .string a1.2.2.2.2.1, .string a1.2.2.2.2.2]), .v (.int .i64 r71), .v (.agg #[.int .i64 a1.1, .int .i64 (a1.2.1.getD 0 0), .int .i64 (a1.2.1.getD 1 0), .int .i64 (a1.2.1.getD 2 0), .int .i64 (a1.2.1.getD 3 0), .int .i64 (a1.2.1.getD 4 0), .int .i64 (a1.2.1.getD 5 0), v7, v8, .string a1.2.2.2.2.1, .string a1.2.2.2.2.2]), .v (.int .i64 r75), .v (.pointer (some ⟨b20, 3, none⟩)), .t fun _ _ => True] [[fun τ u F => F = [[(b20, .cells #[.int .i64 r58, .int .i64 r62, .int .i64 r66, .int .i64 (((mget a0.1 r12).getD (0, 0, 0, 0, 0, false, false, 0, 0, [], 0, 0)).2.2.2.1), .int .i64 (((mget a0.1 r12).getD (0, 0, 0, 0, 0, false, false, 0, 0, [], 0, 0)).2.2.2.2.1), .bool (((mget a0.1 r12).getD (0, 0, 0, 0, 0, false, false, 0, 0, [], 0, 0)).2.2.2.2.2.1), .bool (((mget a0.1 r12).getD (0, 0, 0, 0, 0, false, false, 0, 0, [], 0, 0)).2.2.2.2.2.2.1), .int .i64 (((mget a0.1 r12).getD (0, 0, 0, 0, 0, false, false, 0, 0, [], 0, 0)).2.2.2.2.2.2.2.1), .int .i64 (((mget a0.1 r12).getD (0, 0, 0, 0, 0, false, false, 0, 0, [], 0, 0)).2.2.2.2.2.2.2.2.1), v18, .int .i64 (((mget a0.1 r12).getD (0, 0, 0, 0, 0, false, false, 0, 0, [], 0, 0)).2.2.2.2.2.2.2.2.2.2.1), .int .i64 (((mget a0.1 r12).getD (0, 0, 0, 0, 0, false, false, 0, 0, [], 0, 0)).2.2.2.2.2.2.2.2.2.2.2)] 75 (0, 0))]], fun τ u F => F = [[(b20, .cells #[.int .i64 r58, .int .i64 r62, .int .i64 r66, .int .i64 r71, .int .i64 (((mget a0.1 r12).getD (0, 0, 0, 0, 0, false, false, 0, 0, [], 0, 0)).2.2.2.2.1), .bool (((mget a0.1 r12).getD (0, 0, 0, 0, 0, false, false, 0, 0, [], 0, 0)).2.2.2.2.2.1), .bool (((mget a0.1 r12).getD (0, 0, 0, 0, 0, false, false, 0, 0, [], 0, 0)).2.2.2.2.2.2.1), .int .i64 (((mget a0.1 r12).getD (0, 0, 0, 0, 0, false, false, 0, 0, [], 0, 0)).2.2.2.2.2.2.2.1), .int .i64 (((mget a0.1 r12).getD (0, 0, 0, 0, 0, false, false, 0, 0, [], 0, 0)).2.2.2.2.2.2.2.2.1), v18, .int .i64 (((mget a0.1 r12).getD (0, 0, 0, 0, 0, false, false, 0, 0, [], 0, 0)).2.2.2.2.2.2.2.2.2.2.1), .int .i64 (((mget a0.1 r12).getD (0, 0, 0, 0, 0, false, false, 0, 0, [], 0, 0)).2.2.2.2.2.2.2.2.2.2.2)] 75 (0, 0))]]]] rfl z_mix rfl ⟨fun _ _ _ _ _ => trivial, trivial⟩ ⟨⟨fun _ _ _ _ hl h => h, ⟨fun _ _ _ _ hl h => h, trivial⟩⟩, trivial⟩ rfl rfl ?_ (allB_cons (allB_cons (allB_cons (allB_cons (allB_cons (allB_cons allB_nil ?_) ?_) ?_) ?_) (p4 dA)) ?_) ?_
     ·exact rfl
     ·intro ρ' τ pool rs hl hd hout hw hk
      refine o_loadN (j := 0) (vs := [.int .i64 a1.1, .int .i64 (a1.2.1.getD 0 0), .int .i64 (a1.2.1.getD 1 0), .int .i64 (a1.2.1.getD 2 0), .int .i64 (a1.2.1.getD 3 0), .int .i64 (a1.2.1.getD 4 0), .int .i64 (a1.2.1.getD 5 0), v7, v8, .string a1.2.2.2.2.1, .string a1.2.2.2.2.2]) rfl rfl rfl z_agg39 ((hout 3 rfl).trans rfl) rfl rfl ?_
      exact hk _ _ (Sto.Le.refl _) rfl
     ·intro ρ' τ pool rs hl hd hout hw hk
      obtain ⟨_, e0, rfl⟩ := hd 0 rfl _ rfl
      refine st_call (foot := []) rfl rfl rfl rfl (evs_cons e0 (evs_cons (ev_str z_str42) rfl)) rfl (callV_fn z_en53 (fleet_value_ok hr72 τ (hs9.up ((hl15.trans hl70).trans hl)) (hs10.up ((hl15.trans hl70).trans hl)))) ?_
      rintro vτ73 τ73 gsτ73 hl74 ⟨rfl, rfl⟩
      exact hk _ _ hl74 rfl
     ·intro ρ' τ pool rs hl hd hout hw hk
      refine o_loadN (j := 0) (vs := [.int .i64 a1.1, .int .i64 (a1.2.1.getD 0 0), .int .i64 (a1.2.1.getD 1 0), .int .i64 (a1.2.1.getD 2 0), .int .i64 (a1.2.1.getD 3 0), .int .i64 (a1.2.1.getD 4 0), .int .i64 (a1.2.1.getD 5 0), v7, v8, .string a1.2.2.2.2.1, .string a1.2.2.2.2.2]) rfl rfl rfl z_agg39 ((hout 3 rfl).trans rfl) rfl rfl ?_
      exact hk _ _ (Sto.Le.refl _) rfl
     ·intro ρ' τ pool rs hl hd hout hw hk
      obtain ⟨_, e2, rfl⟩ := hd 2 rfl _ rfl
      refine st_call (foot := []) rfl rfl rfl rfl (evs_cons e2 (evs_cons (ev_str z_str43) rfl)) rfl (callV_fn z_en53 (fleet_value_ok hr76 τ (hs9.up ((hl15.trans hl70).trans hl)) (hs10.up ((hl15.trans hl70).trans hl)))) ?_
      rintro vτ77 τ77 gsτ77 hl78 ⟨rfl, rfl⟩
      exact hk _ _ hl78 rfl
     ·intro ρ' τ u Fv pool rs hl hI hu hd hout hw hk
      obtain ⟨_, e1, rfl⟩ := hd 1 rfl _ rfl
      obtain ⟨_, e4, rfl⟩ := hd 4 rfl _ rfl
      have hI0 := hI
      obtain rfl := hI
      refine st_gs [[(b11, .cells #[.int .i64 a1.1, .int .i64 (a1.2.1.getD 0 0), .int .i64 (a1.2.1.getD 1 0), .int .i64 (a1.2.1.getD 2 0), .int .i64 (a1.2.1.getD 3 0), .int .i64 (a1.2.1.getD 4 0), .int .i64 (a1.2.1.getD 5 0), v7, v8, .string a1.2.2.2.2.1, .string a1.2.2.2.2.2] 39 (0, 0))], [(ba0, .cells #[v1, v3] 66 (0, 0))], g2, g4, [(b20, .cells #[.int .i64 r58, .int .i64 r62, .int .i64 r66, .int .i64 (((mget a0.1 r12).getD (0, 0, 0, 0, 0, false, false, 0, 0, [], 0, 0)).2.2.2.1), .int .i64 (((mget a0.1 r12).getD (0, 0, 0, 0, 0, false, false, 0, 0, [], 0, 0)).2.2.2.2.1), .bool (((mget a0.1 r12).getD (0, 0, 0, 0, 0, false, false, 0, 0, [], 0, 0)).2.2.2.2.2.1), .bool (((mget a0.1 r12).getD (0, 0, 0, 0, 0, false, false, 0, 0, [], 0, 0)).2.2.2.2.2.2.1), .int .i64 (((mget a0.1 r12).getD (0, 0, 0, 0, 0, false, false, 0, 0, [], 0, 0)).2.2.2.2.2.2.2.1), .int .i64 (((mget a0.1 r12).getD (0, 0, 0, 0, 0, false, false, 0, 0, [], 0, 0)).2.2.2.2.2.2.2.2.1), v18, .int .i64 (((mget a0.1 r12).getD (0, 0, 0, 0, 0, false, false, 0, 0, [], 0, 0)).2.2.2.2.2.2.2.2.2.2.1), .int .i64 (((mget a0.1 r12).getD (0, 0, 0, 0, 0, false, false, 0, 0, [], 0, 0)).2.2.2.2.2.2.2.2.2.2.2)] 75 (0, 0))], pool] rfl ?_
      refine o_store (j := 4) (vs := [.int .i64 r71]) (cs' := [.int .i64 r58, .int .i64 r62, .int .i64 r66, .int .i64 r71, .int .i64 (((mget a0.1 r12).getD (0, 0, 0, 0, 0, false, false, 0, 0, [], 0, 0)).2.2.2.2.1), .bool (((mget a0.1 r12).getD (0, 0, 0, 0, 0, false, false, 0, 0, [], 0, 0)).2.2.2.2.2.1), .bool (((mget a0.1 r12).getD (0, 0, 0, 0, 0, false, false, 0, 0, [], 0, 0)).2.2.2.2.2.2.1), .int .i64 (((mget a0.1 r12).getD (0, 0, 0, 0, 0, false, false, 0, 0, [], 0, 0)).2.2.2.2.2.2.2.1), .int .i64 (((mget a0.1 r12).getD (0, 0, 0, 0, 0, false, false, 0, 0, [], 0, 0)).2.2.2.2.2.2.2.2.1), v18, .int .i64 (((mget a0.1 r12).getD (0, 0, 0, 0, 0, false, false, 0, 0, [], 0, 0)).2.2.2.2.2.2.2.2.2.2.1), .int .i64 (((mget a0.1 r12).getD (0, 0, 0, 0, 0, false, false, 0, 0, [], 0, 0)).2.2.2.2.2.2.2.2.2.2.2)]) rfl rfl rfl z_size3 e4 e1 rfl (ones_cons rfl ones_nil) rfl rfl rfl ?_
      refine st_gs [[(b11, .cells #[.int .i64 a1.1, .int .i64 (a1.2.1.getD 0 0), .int .i64 (a1.2.1.getD 1 0), .int .i64 (a1.2.1.getD 2 0), .int .i64 (a1.2.1.getD 3 0), .int .i64 (a1.2.1.getD 4 0), .int .i64 (a1.2.1.getD 5 0), v7, v8, .string a1.2.2.2.2.1, .string a1.2.2.2.2.2] 39 (0, 0))], [(ba0, .cells #[v1, v3] 66 (0, 0))], g2, g4, [(b20, .cells #[.int .i64 r58, .int .i64 r62, .int .i64 r66, .int .i64 r71, .int .i64 (((mget a0.1 r12).getD (0, 0, 0, 0, 0, false, false, 0, 0, [], 0, 0)).2.2.2.2.1), .bool (((mget a0.1 r12).getD (0, 0, 0, 0, 0, false, false, 0, 0, [], 0, 0)).2.2.2.2.2.1), .bool (((mget a0.1 r12).getD (0, 0, 0, 0, 0, false, false, 0, 0, [], 0, 0)).2.2.2.2.2.2.1), .int .i64 (((mget a0.1 r12).getD (0, 0, 0, 0, 0, false, false, 0, 0, [], 0, 0)).2.2.2.2.2.2.2.1), .int .i64 (((mget a0.1 r12).getD (0, 0, 0, 0, 0, false, false, 0, 0, [], 0, 0)).2.2.2.2.2.2.2.2.1), v18, .int .i64 (((mget a0.1 r12).getD (0, 0, 0, 0, 0, false, false, 0, 0, [], 0, 0)).2.2.2.2.2.2.2.2.2.2.1), .int .i64 (((mget a0.1 r12).getD (0, 0, 0, 0, 0, false, false, 0, 0, [], 0, 0)).2.2.2.2.2.2.2.2.2.2.2)] 75 (0, 0))], pool] rfl ?_
      exact hk _ _ [[(b20, .cells #[.int .i64 r58, .int .i64 r62, .int .i64 r66, .int .i64 r71, .int .i64 (((mget a0.1 r12).getD (0, 0, 0, 0, 0, false, false, 0, 0, [], 0, 0)).2.2.2.2.1), .bool (((mget a0.1 r12).getD (0, 0, 0, 0, 0, false, false, 0, 0, [], 0, 0)).2.2.2.2.2.1), .bool (((mget a0.1 r12).getD (0, 0, 0, 0, 0, false, false, 0, 0, [], 0, 0)).2.2.2.2.2.2.1), .int .i64 (((mget a0.1 r12).getD (0, 0, 0, 0, 0, false, false, 0, 0, [], 0, 0)).2.2.2.2.2.2.2.1), .int .i64 (((mget a0.1 r12).getD (0, 0, 0, 0, 0, false, false, 0, 0, [], 0, 0)).2.2.2.2.2.2.2.2.1), v18, .int .i64 (((mget a0.1 r12).getD (0, 0, 0, 0, 0, false, false, 0, 0, [], 0, 0)).2.2.2.2.2.2.2.2.2.2.1), .int .i64 (((mget a0.1 r12).getD (0, 0, 0, 0, 0, false, false, 0, 0, [], 0, 0)).2.2.2.2.2.2.2.2.2.2.2)] 75 (0, 0))]] (Sto.Le.refl _) trivial (by exact rfl)
     intro ρ' τ79 vals u Fv hl79 hI hu hv hout
     obtain rfl := hI
     refine st_gs [[(b11, .cells #[.int .i64 a1.1, .int .i64 (a1.2.1.getD 0 0), .int .i64 (a1.2.1.getD 1 0), .int .i64 (a1.2.1.getD 2 0), .int .i64 (a1.2.1.getD 3 0), .int .i64 (a1.2.1.getD 4 0), .int .i64 (a1.2.1.getD 5 0), v7, v8, .string a1.2.2.2.2.1, .string a1.2.2.2.2.2] 39 (0, 0))], [(ba0, .cells #[v1, v3] 66 (0, 0))], g2, g4, [(b20, .cells #[.int .i64 r58, .int .i64 r62, .int .i64 r66, .int .i64 r71, .int .i64 (((mget a0.1 r12).getD (0, 0, 0, 0, 0, false, false, 0, 0, [], 0, 0)).2.2.2.2.1), .bool (((mget a0.1 r12).getD (0, 0, 0, 0, 0, false, false, 0, 0, [], 0, 0)).2.2.2.2.2.1), .bool (((mget a0.1 r12).getD (0, 0, 0, 0, 0, false, false, 0, 0, [], 0, 0)).2.2.2.2.2.2.1), .int .i64 (((mget a0.1 r12).getD (0, 0, 0, 0, 0, false, false, 0, 0, [], 0, 0)).2.2.2.2.2.2.2.1), .int .i64 (((mget a0.1 r12).getD (0, 0, 0, 0, 0, false, false, 0, 0, [], 0, 0)).2.2.2.2.2.2.2.2.1), v18, .int .i64 (((mget a0.1 r12).getD (0, 0, 0, 0, 0, false, false, 0, 0, [], 0, 0)).2.2.2.2.2.2.2.2.2.2.1), .int .i64 (((mget a0.1 r12).getD (0, 0, 0, 0, 0, false, false, 0, 0, [], 0, 0)).2.2.2.2.2.2.2.2.2.2.2)] 75 (0, 0))]] rfl ?_
     refine st_env (ρ' := [(62, .int .i64 r75), (0, .pointer (some ⟨ba0, 0, none⟩)), (4, .int .i64 r12), (5, .pointer (some ⟨b20, 0, none⟩))]) ⟨(lv4 hv 3 rfl rfl rfl), (hout 0 rfl).trans rfl, (hout 4 rfl).trans rfl, (hout 5 rfl).trans rfl, trivial⟩ ?_
     refine ZZ 6 [4, 4] rfl rfl ?_
     refine st_ord [1, 3, 1, 1] _ rfl ?_
     exact hk21 _ _ _ ⟨(a0.2, r58, r62, r66, r71, r75, true, ((mget a0.1 r12).getD (0, 0, 0, 0, 0, false, false, 0, 0, [], 0, 0)).2.2.2.2.2.2.1, ((mget a0.1 r12).getD (0, 0, 0, 0, 0, false, false, 0, 0, [], 0, 0)).2.2.2.2.2.2.2.1, ((mget a0.1 r12).getD (0, 0, 0, 0, 0, false, false, 0, 0, [], 0, 0)).2.2.2.2.2.2.2.2.1, ((mget a0.1 r12).getD (0, 0, 0, 0, 0, false, false, 0, 0, [], 0, 0)).2.2.2.2.2.2.2.2.2.1, ((mget a0.1 r12).getD (0, 0, 0, 0, 0, false, false, 0, 0, [], 0, 0)).2.2.2.2.2.2.2.2.2.2.1, ((mget a0.1 r12).getD (0, 0, 0, 0, 0, false, false, 0, 0, [], 0, 0)).2.2.2.2.2.2.2.2.2.2.2), _, _, _, h, (hl70.trans hl79), rfl, rfl, (ho6.up ((hl15.trans hl70).trans hl79)), (hs19.up (hl70.trans hl79))⟩
    ·refine Z 5 rfl ?_
     refine st_if rfl h (fun h => ?_) (fun h => ?_)
     ·refine st_seq ?_
      obtain ⟨r80, hr81, h⟩ := h
      refine st_draw 5 (dl [.v (.pointer (some ⟨b20, 10, none⟩)), .v (.int .i64 (((mget a0.1 r12).getD (0, 0, 0, 0, 0, false, false, 0, 0, [], 0, 0)).2.2.2.2.2.2.2.2.2.2.1)), .v (.agg #[.int .i64 a1.1, .int .i64 (a1.2.1.getD 0 0), .int .i64 (a1.2.1.getD 1 0), .int .i64 (a1.2.1.getD 2 0), .int .i64 (a1.2.1.getD 3 0), .int .i64 (a1.2.1.getD 4 0), .int .i64 (a1.2.1.getD 5 0), v7, v8, .string a1.2.2.2.2.1, .string a1.2.2.2.2.2]), .v (.int .i64 r80), .v (.int .i64 (IntKind.i64.wrap ((((mget a0.1 r12).getD (0, 0, 0, 0, 0, false, false, 0, 0, [], 0, 0)).2.2.2.2.2.2.2.2.2.2.1) + r80)))]) (fun _ _ => []) z_mix rfl (dl_mono trivial) (allB_cons (allB_cons (allB_cons (allB_cons (allB_cons allB_nil (p1 dA)) ?_) ?_) ?_) (p1 dA)) ?_
      ·intro ρ' τ pool rs hl hd hout hk
       obtain ⟨_, e0, rfl⟩ := hd 0 rfl
       refine o_load (j := 0) (v := .int .i64 (((mget a0.1 r12).getD (0, 0, 0, 0, 0, false, false, 0, 0, [], 0, 0)).2.2.2.2.2.2.2.2.2.2.1)) rfl rfl rfl z_sc3 e0 rfl rfl ?_
       exact st_addNil (hk _ _ (Sto.Le.refl _) rfl)
      ·intro ρ' τ pool rs hl hd hout hk
       refine o_loadN (j := 1) (vs := [.int .i64 a1.1, .int .i64 (a1.2.1.getD 0 0), .int .i64 (a1.2.1.getD 1 0), .int .i64 (a1.2.1.getD 2 0), .int .i64 (a1.2.1.getD 3 0), .int .i64 (a1.2.1.getD 4 0), .int .i64 (a1.2.1.getD 5 0), v7, v8, .string a1.2.2.2.2.1, .string a1.2.2.2.2.2]) rfl rfl rfl z_agg39 ((hout 3 rfl).trans rfl) rfl rfl ?_
       exact st_addNil (hk _ _ (Sto.Le.refl _) rfl)
      ·intro ρ' τ pool rs hl hd hout hk
       obtain ⟨_, e2, rfl⟩ := hd 2 rfl
       refine st_call (foot := []) rfl rfl rfl rfl (evs_cons e2 (evs_cons (ev_str z_str47) rfl)) rfl (callV_fn z_en53 (fleet_value_ok hr81 τ (hs9.up (hl15.trans hl)) (hs10.up (hl15.trans hl)))) ?_
       rintro vτ82 τ82 gsτ82 hl83 ⟨rfl, rfl⟩
       exact st_addNil (hk _ _ hl83 rfl)
      intro ρ' τ84 vals hl84 hv hout
      refine st_ord [0, 0, 0, 0, 0] _ rfl ?_
      refine st_env (ρ' := [(72, .int .i64 (IntKind.i64.wrap ((((mget a0.1 r12).getD (0, 0, 0, 0, 0, false, false, 0, 0, [], 0, 0)).2.2.2.2.2.2.2.2.2.2.1) + r80))), (0, .pointer (some ⟨ba0, 0, none⟩)), (3, .pointer (some ⟨b11, 0, none⟩)), (4, .int .i64 r12), (5, .pointer (some ⟨b20, 0, none⟩))]) ⟨(lv1 hv 4 rfl rfl), (hout 0 rfl).trans rfl, (hout 3 rfl).trans rfl, (hout 4 rfl).trans rfl, (hout 5 rfl).trans rfl, trivial⟩ ?_
      refine ZZ 5 [0, 1] rfl rfl ?_
      obtain ⟨r85, hr86, h⟩ := h
      refine st_call (foot := []) rfl rfl rfl rfl (evs_cons rfl (evs_cons (ev_str z_str44) rfl)) rfl (callV_fn z_en53 (fleet_value_ok hr86 τ84 (hs9.up (hl15.trans hl84)) (hs10.up (hl15.trans hl84)))) ?_
      rintro vτ87 τ87 gsτ87 hl88 ⟨rfl, rfl⟩
      refine ZZ 4 [0] rfl rfl ?_
      refine st_ord [2, 0, 1, 1] _ rfl ?_
      exact hk21 _ _ _ ⟨(a0.2, ((mget a0.1 r12).getD (0, 0, 0, 0, 0, false, false, 0, 0, [], 0, 0)).1, ((mget a0.1 r12).getD (0, 0, 0, 0, 0, false, false, 0, 0, [], 0, 0)).2.1, ((mget a0.1 r12).getD (0, 0, 0, 0, 0, false, false, 0, 0, [], 0, 0)).2.2.1, ((mget a0.1 r12).getD (0, 0, 0, 0, 0, false, false, 0, 0, [], 0, 0)).2.2.2.1, ((mget a0.1 r12).getD (0, 0, 0, 0, 0, false, false, 0, 0, [], 0, 0)).2.2.2.2.1, ((mget a0.1 r12).getD (0, 0, 0, 0, 0, false, false, 0, 0, [], 0, 0)).2.2.2.2.2.1, ((mget a0.1 r12).getD (0, 0, 0, 0, 0, false, false, 0, 0, [], 0, 0)).2.2.2.2.2.2.1, ((mget a0.1 r12).getD (0, 0, 0, 0, 0, false, false, 0, 0, [], 0, 0)).2.2.2.2.2.2.2.1, ((mget a0.1 r12).getD (0, 0, 0, 0, 0, false, false, 0, 0, [], 0, 0)).2.2.2.2.2.2.2.2.1, ((mget a0.1 r12).getD (0, 0, 0, 0, 0, false, false, 0, 0, [], 0, 0)).2.2.2.2.2.2.2.2.2.1, (IntKind.i64.wrap ((((mget a0.1 r12).getD (0, 0, 0, 0, 0, false, false, 0, 0, [], 0, 0)).2.2.2.2.2.2.2.2.2.2.1) + r80)), r85), _, _, _, h, (hl84.trans hl88), rfl, rfl, (ho6.up ((hl15.trans hl84).trans hl88)), (hs19.up (hl84.trans hl88))⟩
     ·refine Z 2 rfl ?_
      refine st_ord [2, 0, 1, 1] _ rfl ?_
      exact hk21 _ _ _ ⟨(a0.2, ((mget a0.1 r12).getD (0, 0, 0, 0, 0, false, false, 0, 0, [], 0, 0)).1, ((mget a0.1 r12).getD (0, 0, 0, 0, 0, false, false, 0, 0, [], 0, 0)).2.1, ((mget a0.1 r12).getD (0, 0, 0, 0, 0, false, false, 0, 0, [], 0, 0)).2.2.1, ((mget a0.1 r12).getD (0, 0, 0, 0, 0, false, false, 0, 0, [], 0, 0)).2.2.2.1, ((mget a0.1 r12).getD (0, 0, 0, 0, 0, false, false, 0, 0, [], 0, 0)).2.2.2.2.1, ((mget a0.1 r12).getD (0, 0, 0, 0, 0, false, false, 0, 0, [], 0, 0)).2.2.2.2.2.1, ((mget a0.1 r12).getD (0, 0, 0, 0, 0, false, false, 0, 0, [], 0, 0)).2.2.2.2.2.2.1, ((mget a0.1 r12).getD (0, 0, 0, 0, 0, false, false, 0, 0, [], 0, 0)).2.2.2.2.2.2.2.1, ((mget a0.1 r12).getD (0, 0, 0, 0, 0, false, false, 0, 0, [], 0, 0)).2.2.2.2.2.2.2.2.1, ((mget a0.1 r12).getD (0, 0, 0, 0, 0, false, false, 0, 0, [], 0, 0)).2.2.2.2.2.2.2.2.2.1, ((mget a0.1 r12).getD (0, 0, 0, 0, 0, false, false, 0, 0, [], 0, 0)).2.2.2.2.2.2.2.2.2.2.1, ((mget a0.1 r12).getD (0, 0, 0, 0, 0, false, false, 0, 0, [], 0, 0)).2.2.2.2.2.2.2.2.2.2.2), _, _, _, h, (Sto.Le.refl _), rfl, rfl, (ho6.up hl15), hs19⟩
theorem fleet_Fleet_Apply_ok {a0 : List (Int × (Int × Int × Int × Int × Int × Bool × Bool × Int × Int × List (Int × Int) × Int × Int)) × List ((Int × Int) × List Int)} {a1 : List (Int × List Int × List (Int × Int) × List Int × ByteArray × ByteArray)} {ba0 : Nat} {v1 : Value} {g2 : Grp} {v3 : Value} {g4 : Grp} {v7 : Value} {r : Int × (List (Int × (Int × Int × Int × Int × Int × Bool × Bool × Int × Int × List (Int × Int) × Int × Int)) × List ((Int × Int) × List Int))} (h : fleet_Fleet_Apply a0 a1 r) (σ : Sto) (ho5 : Mp (Value.int .i64) (rK (kP (kI .i64) (kP (kI .i64) (kP (kI .i64) (kP (kI .i64) (kP (kI .i64) (kP kB (kP kB (kP (kI .i64) (kP (kI .i64) (kP (kSl (kP (kI .i64) (kI .i64))) (kP (kI .i64) (kI .i64))))))))))))) σ v1 a0.1 g2) (ho6 : Mp kPr (rSl (kI .i64)) σ v3 a0.2 g4) (hs8 : Sl (kP (kI .i64) (kP (kA .i64 6) (kP (kSl (kP (kI .i64) (kI .i64))) (kP (kSl (kI .i64)) (kP kS kS))))) σ v7 a1) :
    Does Tryd.prog 17 [.pointer (some ⟨ba0, 0, none⟩), v7] σ [[(ba0, .cells [v1, v3].toArray 66 (0, 0))], g2, g4] (fun v τ gs => ∃ (v55 : Value) (g56 : Grp) (v57 : Value) (g58 : Grp), gs = [[(ba0, .cells [v55, v57].toArray 66 (0, 0))], g56, g58] ∧ .int .i64 r.1 = v ∧ Mp (Value.int .i64) (rK (kP (kI .i64) (kP (kI .i64) (kP (kI .i64) (kP (kI .i64) (kP (kI .i64) (kP kB (kP kB (kP (kI .i64) (kP (kI .i64) (kP (kSl (kP (kI .i64) (kI .i64))) (kP (kI .i64) (kI .i64))))))))))))) τ v55 r.2.1 g56 ∧ Mp kPr (rSl (kI .i64)) τ v57 r.2.2 g58) := by
 refine call_of Tryd.func17 Tryd.ntmps17 rfl rfl (fun cs fs => ?_)
 refine Z 20 rfl ?_
 refine st_cut (fun ρ τ9 gs => ∃ (s9 : Int × (List (Int × (Int × Int × Int × Int × Int × Bool × Bool × Int × Int × List (Int × Int) × Int × Int))) × (List ((Int × Int) × List Int))) (v10 : Value) (g11 : Grp) (v13 : Value) (g14 : Grp), fleet_Fleet_Apply_j1 s9 r ∧ σ.Le τ9 ∧ ESub ρ [(4, .int .i64 0), (5, .int .i64 s9.1)] ∧ gs = [[(ba0, .cells #[v10, v13] 66 (0, 0))], g11, g14] ∧ Mp (Value.int .i64) (rK (kP (kI .i64) (kP (kI .i64) (kP (kI .i64) (kP (kI .i64) (kP (kI .i64) (kP kB (kP kB (kP (kI .i64) (kP (kI .i64) (kP (kSl (kP (kI .i64) (kI .i64))) (kP (kI .i64) (kI .i64))))))))))))) τ9 v10 s9.2.1 g11 ∧ Mp kPr (rSl (kI .i64)) τ9 v13 s9.2.2 g14) ?_ (fun hk9 => ?_)
 ·rintro ρ9 τ9 gs9 ⟨s9, v10, g11, v13, g14, h, hl9, hρ, rfl, ho12, ho15⟩
  refine st_es hρ ?_
  refine Z 5 rfl ?_
  obtain rfl := Eq.symm h
  exact st_ret (gs' := [[(ba0, .cells #[v10, v13] 66 (0, 0))], g11, g14]) Tryd.func17 rfl (List.Sublist.refl _) hl9 ⟨_, _, _, _, rfl, rfl, ho12, ho15⟩
 refine Z 3 rfl ?_
 refine o_lenI rfl rfl rfl z_slT32 rfl hs8 ?_
 refine Z 2 rfl ?_
 obtain ⟨e16, hL16, hA16⟩ := h
 refine st_loop hL16 (fun (s16 : Int × Int × (List (Int × (Int × Int × Int × Int × Int × Bool × Bool × Int × Int × List (Int × Int) × Int × Int))) × (List ((Int × Int) × List Int))) ρ τ16 gs => σ.Le τ16 ∧ ∃ (v17 : Value) (g18 : Grp) (v20 : Value) (g21 : Grp), ESub ρ [(0, .pointer (some ⟨ba0, 0, none⟩)), (4, .int .i64 0), (5, .int .i64 s16.1), (10, v7), (11, .int .i64 (a1.length : Int)), (12, .int .i64 s16.2.1)] ∧ gs = [[(ba0, .cells #[v17, v20] 66 (0, 0))], g18, g21] ∧ Mp (Value.int .i64) (rK (kP (kI .i64) (kP (kI .i64) (kP (kI .i64) (kP (kI .i64) (kP (kI .i64) (kP kB (kP kB (kP (kI .i64) (kP (kI .i64) (kP (kSl (kP (kI .i64) (kI .i64))) (kP (kI .i64) (kI .i64))))))))))))) τ16 v17 s16.2.2.1 g18 ∧ Mp kPr (rSl (kI .i64)) τ16 v20 s16.2.2.2 g21) ⟨Sto.Le.refl _, _, _, _, _, rfl, rfl, ho5, ho6⟩ ?_
 rintro s16 o16 h he16 ρ16 τ16 gs16 ⟨hl16, v17, g18, v20, g21, hρ, rfl, ho19, ho22⟩ hn16
 refine st_es hρ ?_
 refine Z 5 rfl ?_
 refine st_if rfl h (fun h => ?_) (fun h => ?_)
 ·refine Z 2 rfl ?_
  refine st_cut (fun ρ τ23 gs => ∃ (s23 : Int × (List (Int × (Int × Int × Int × Int × Int × Bool × Bool × Int × Int × List (Int × Int) × Int × Int))) × (List ((Int × Int) × List Int))) (v24 : Value) (g25 : Grp) (v27 : Value) (g28 : Grp), fleet_Fleet_Apply_j3 s16 s23 o16 ∧ τ16.Le τ23 ∧ ESub ρ [(0, .pointer (some ⟨ba0, 0, none⟩)), (4, .int .i64 0), (5, .int .i64 s23.1), (10, v7), (11, .int .i64 (a1.length : Int)), (12, .int .i64 s16.2.1)] ∧ gs = [[(ba0, .cells #[v24, v27] 66 (0, 0))], g25, g28] ∧ Mp (Value.int .i64) (rK (kP (kI .i64) (kP (kI .i64) (kP (kI .i64) (kP (kI .i64) (kP (kI .i64) (kP kB (kP kB (kP (kI .i64) (kP (kI .i64) (kP (kSl (kP (kI .i64) (kI .i64))) (kP (kI .i64) (kI .i64))))))))))))) τ23 v24 s23.2.1 g25 ∧ Mp kPr (rSl (kI .i64)) τ23 v27 s23.2.2 g28) ?_ (fun hk23 => ?_)
  ·rintro ρ23 τ23 gs23 ⟨s23, v24, g25, v27, g28, h, hl23, hρ, rfl, ho26, ho29⟩
   refine st_es hρ ?_
   refine Z 4 rfl ?_
   exact hn16 _ _ _ _ h ⟨(hl16.trans hl23), _, _, _, _, rfl, rfl, ho26, ho29⟩
  refine Z 3 rfl ?_
  obtain ⟨q30, hf31, h⟩ := h
  refine o_index rfl rfl rfl z_slT32 rfl rfl (hs8.up hl16) rfl hf31 (fun b32 of33 vs hc36 hrep => ?_)
  obtain ⟨_, _, rfl, rfl, ⟨_, _, rfl, rfl, ⟨_, _, rfl, ⟨v34, rfl, hs37⟩, ⟨_, _, rfl, ⟨v35, rfl, hs38⟩, ⟨_, _, rfl, rfl, rfl⟩⟩⟩⟩⟩ := hrep
  refine o_loadIN (vs := [.int .i64 q30.1, .int .i64 (q30.2.1.getD 0 0), .int .i64 (q30.2.1.getD 1 0), .int .i64 (q30.2.1.getD 2 0), .int .i64 (q30.2.1.getD 3 0), .int .i64 (q30.2.1.getD 4 0), .int .i64 (q30.2.1.getD 5 0), v34, v35, .string q30.2.2.2.2.1, .string q30.2.2.2.2.2]) rfl rfl rfl z_agg39 rfl rfl (celn_part 0 rfl hc36) ?_
  refine o_alloc rfl rfl rfl z_zero39 (fun b39 => ?_)
  refine o_store (j := 0) (vs := [.int .i64 q30.1, .int .i64 (q30.2.1.getD 0 0), .int .i64 (q30.2.1.getD 1 0), .int .i64 (q30.2.1.getD 2 0), .int .i64 (q30.2.1.getD 3 0), .int .i64 (q30.2.1.getD 4 0), .int .i64 (q30.2.1.getD 5 0), v34, v35, .string q30.2.2.2.2.1, .string q30.2.2.2.2.2]) (cs' := [.int .i64 q30.1, .int .i64 (q30.2.1.getD 0 0), .int .i64 (q30.2.1.getD 1 0), .int .i64 (q30.2.1.getD 2 0), .int .i64 (q30.2.1.getD 3 0), .int .i64 (q30.2.1.getD 4 0), .int .i64 (q30.2.1.getD 5 0), v34, v35, .string q30.2.2.2.2.1, .string q30.2.2.2.2.2]) rfl rfl rfl z_size39 rfl rfl rfl (ones_cons rfl (ones_cons rfl (ones_cons rfl (ones_cons rfl (ones_cons rfl (ones_cons rfl (ones_cons rfl (ones_cons hs37.one' (ones_cons hs38.one' (ones_cons rfl (ones_cons rfl ones_nil))))))))))) rfl rfl rfl ?_
  refine st_gs [[(b39, .cells #[.int .i64 q30.1, .int .i64 (q30.2.1.getD 0 0), .int .i64 (q30.2.1.getD 1 0), .int .i64 (q30.2.1.getD 2 0), .int .i64 (q30.2.1.getD 3 0), .int .i64 (q30.2.1.getD 4 0), .int .i64 (q30.2.1.getD 5 0), v34, v35, .string q30.2.2.2.2.1, .string q30.2.2.2.2.2] 39 (0, 0))], [(ba0, .cells #[v17, v20] 66 (0, 0))], g18, g21] rfl ?_
  refine ZZ 5 [0] rfl rfl ?_
  obtain ⟨r40, hr41, h⟩ := h
  refine st_call (foot := []) rfl rfl rfl rfl rfl rfl (callV_fn z_en30 (msg_Check_ok hr41 τ16 hs37 hs38)) ?_
  rintro vτ42 τ42 gsτ42 hl43 ⟨rfl, rfl⟩
  refine Z 2 rfl ?_
  refine st_if rfl h (fun h => ?_) (fun h => ?_)
  ·refine st_exit rfl ?_
   refine st_ord [1, 1, 1] _ rfl ?_
   exact hk23 _ _ _ ⟨(s16.1, s16.2.2.1, s16.2.2.2), _, _, _, _, h, hl43, rfl, rfl, (ho19.up hl43), (ho22.up hl43)⟩
  ·refine ZZ 5 [0] rfl rfl ?_
   obtain ⟨r44, hr45, h⟩ := h
   refine st_ord [1, 1, 1, 0] _ rfl ?_
   refine st_call (foot := [[(ba0, .cells #[v17, v20] 66 (0, 0))], g18, g21]) rfl rfl rfl rfl rfl rfl (callV_fn z_en31 (fleet_Fleet_apply_ok hr45 τ42 (ho19.up hl43) (ho22.up hl43) (hs37.up hl43) (hs38.up hl43))) ?_
   rintro vτ46 τ46 gsτ46 hl47 ⟨v48, g49, v50, g51, rfl, rfl, ho52, ho53⟩
   refine Z 7 rfl ?_
   refine st_ord [0, 0, 0] _ rfl ?_
   exact hk23 _ _ _ ⟨((IntKind.i64.wrap (s16.1 + 1)), r44.1, r44.2), _, _, _, _, h, (hl43.trans hl47), rfl, rfl, ho52, ho53⟩
 ·refine st_exit rfl ?_
  obtain rfl := he16 _ h
  replace h := hA16
  exact hk9 _ _ _ ⟨(s16.1, s16.2.2.1, s16.2.2.2), _, _, _, _, h, hl16, rfl, rfl, ho19, ho22⟩
theorem fleet_Fleet_Contested_ok {a0 : List (Int × (Int × Int × Int × Int × Int × Bool × Bool × Int × Int × List (Int × Int) × Int × Int)) × List ((Int × Int) × List Int)} {ba0 : Nat} {v1 : Value} {g2 : Grp} {v3 : Value} {g4 : Grp} {r : (List (Int × Int))} (h : fleet_Fleet_Contested a0 r) (σ : Sto) (ho5 : Mp (Value.int .i64) (rK (kP (kI .i64) (kP (kI .i64) (kP (kI .i64) (kP (kI .i64) (kP (kI .i64) (kP kB (kP kB (kP (kI .i64) (kP (kI .i64) (kP (kSl (kP (kI .i64) (kI .i64))) (kP (kI .i64) (kI .i64))))))))))))) σ v1 a0.1 g2) (ho6 : Mp kPr (rSl (kI .i64)) σ v3 a0.2 g4) :
    Does Tryd.prog 32 [.pointer (some ⟨ba0, 0, none⟩)] σ [[(ba0, .cells [v1, v3].toArray 66 (0, 0))], g2, g4] (fun v τ gs => ∃ (v92 : Value), gs = [[(ba0, .cells [v1, v3].toArray 66 (0, 0))], g2, g4] ∧ v92 = v ∧ Sl (kP (kI .i64) (kI .i64)) τ v92 r) := by
 refine call_of Tryd.func32 Tryd.ntmps32 rfl rfl (fun cs fs => ?_)
 refine Z 14 rfl ?_
 refine o_makeMap (fk := kPr) (rv := (rF (Value.int .i64))) rfl rfl rfl (fun v7 g8 ho9 => ?_)
 refine Z 3 rfl ?_
 refine st_cut (fun ρ τ10 gs => ∃ (s10 : (List ((Int × Int) × Int))) (v11 : Value) (g12 : Grp), fleet_Fleet_Contested_j1 s10 r ∧ σ.Le τ10 ∧ ESub ρ [(2, .slice none 0 0), (3, v11)] ∧ gs = [[(ba0, .cells #[v1, v3] 66 (0, 0))], g2, g4, g12] ∧ Mp kPr (rF (Value.int .i64)) τ10 v11 s10 g12) ?_ (fun hk10 => ?_)
 ·rintro ρ10 τ10 gs10 ⟨s10, v11, g12, h, hl10, hρ, rfl, ho13⟩
  refine st_es hρ ?_
  refine Z 5 rfl ?_
  refine st_cut (fun ρ τ14 gs => ∃ (s14 : (List (Int × Int))) (v15 : Value) (g16 : Grp), fleet_Fleet_Contested_j2 s14 r ∧ τ10.Le τ14 ∧ ESub ρ [(2, .slice none 0 0), (8, v15)] ∧ gs = [[(ba0, .cells #[v1, v3] 66 (0, 0))], g2, g4, g16] ∧ Ow (kP (kI .i64) (kI .i64)) 72 τ14 v15 s14 g16) ?_ (fun hk14 => ?_)
  ·rintro ρ14 τ14 gs14 ⟨s14, v15, g16, h, hl14, hρ, rfl, ho17⟩
   refine st_es hρ ?_
   refine Z 3 rfl ?_
   obtain ⟨hf20, h⟩ := h
   refine st_ord [3, 0, 0, 0] _ rfl ?_
   refine st_call (foot := [g16]) rfl rfl rfl rfl rfl rfl (callV_fn z_en56 (sortF_does ⟨Tryd.sortf56, Tryd.sortn56⟩ ho17 hf20)) ?_
   rintro vτ18 τ18 gsτ18 hl19 ⟨g21, rfl, rfl, ho22⟩
   refine Z 6 rfl ?_
   refine st_freeze (fun τ23 hl24 hg25 => ?_)
   have hs26 := ho22.freeze hl24 hg25
   obtain rfl := Eq.symm h
   exact st_ret (gs' := [[(ba0, .cells #[v1, v3] 66 (0, 0))], g2, g4]) Tryd.func32 rfl (List.Sublist.refl _) (((hl10.trans hl14).trans hl19).trans hl24) ⟨_, rfl, rfl, hs26⟩
  refine Z 3 rfl ?_
  refine o_range (jm := 3) rfl rfl rfl z_map111 rfl ho13 rfl (fun v30 g31 hm32 => ?_)
  refine st_end ?_
  have hL33 := h
  refine st_addNil ?_
  refine st_ord [2, 4, 2, 2, 0, 0] _ rfl ?_
  refine st_loopD hL33 (fun (s33 : (List (Int × Int)) × (List ((Int × Int) × Int))) ρ τ33 gs => τ10.Le τ33 ∧ ∃ (v34 : Value) (g35 : Grp) (g37 : Grp), ESub ρ [(2, .slice none 0 0), (8, v34), (41, v30)] ∧ gs = [[(ba0, .cells #[v1, v3] 66 (0, 0))], g12, g2, g4, g35, g37] ∧ Ow (kP (kI .i64) (kI .i64)) 72 τ33 v34 s33.1 g35 ∧ MIt kPr (rF (Value.int .i64)) τ33 v30 v11 s33.2 g37 g12) ⟨Sto.Le.refl _, _, _, _, rfl, rfl, Ow.nil, hm32⟩ ?_
  rintro s33 hD33 ρ33 τ33 gs33 ⟨hl33, v34, g35, g37, hρ, rfl, ho36, hm38⟩
  refine st_es hρ ?_
  refine Z 2 rfl ?_
  refine o_next (j := 5) (jm := 1) rfl rfl rfl kPr_inj rfl hm38 rfl rfl (fun hc => ?_) (fun p39 g40 v41 hp42 hv43 hm44 he45 => ?_)
  ·obtain ⟨o33, h, he33, hn33⟩ := hD33 none hc
   replace h := h.1 rfl
   refine Z 5 rfl ?_
   replace h := he33 _ h
   refine st_ord [0, 1, 1, 1] _ rfl ?_
   exact hk14 _ _ _ ⟨s33.1, _, _, h, hl33, rfl, rfl, ho36⟩
  ·obtain ⟨o33, h, he33, hn33⟩ := hD33 (some p39) hp42
   replace h := h.2 _ rfl
   obtain rfl : v41 = .int .i64 p39.2 := hv43
   refine st_gs [[(ba0, .cells #[v1, v3] 66 (0, 0))], g12, g2, g4, g35, g40] rfl ?_
   refine Z 8 rfl ?_
   refine o_entry (j := 5) (jm := 1) (p := p39) rfl rfl rfl rfl he45 rfl rfl (fun v46 hv47 => ?_)
   obtain rfl : v46 = .int .i64 p39.2 := hv47
   refine Z 2 rfl ?_
   refine o_alloc rfl rfl rfl z_zero72 (fun b48 => ?_)
   refine ZZ 8 [0] rfl rfl ?_
   refine st_if rfl h (fun h => ?_) (fun h => ?_)
   ·refine ZZ 3 [0] rfl rfl ?_
    refine o_litE (eP (eI .i64) (eI .i64)) [p39.1] rfl rfl rfl z_slT69 z_zero72 ⟨rfl, ⟨_, rfl, rfl⟩, trivial⟩ rfl rfl rfl rfl (fun v49 g50 ho51 => ?_)
    obtain ⟨hf55, hf56, h⟩ := h
    refine st_ord [6, 0, 0, 0, 0, 0, 0, 0] _ rfl ?_
    refine o_append (dk := (kP (kI .i64) (kI .i64))) (xs := s33.1) (ys := [p39.1]) rfl rfl rfl rfl z_slT69 rfl ho36 rfl (Ow.src (j := 1) ho51 rfl) hf55 hf56 (fun v52 g53 ho54 => ?_)
    refine Z 3 rfl ?_
    refine st_ord [3, 3, 3, 3, 0, 2] _ rfl ?_
    exact hn33 _ _ _ _ h ⟨hl33, _, _, _, rfl, rfl, ho54, hm44⟩
   ·refine Z 2 rfl ?_
    refine st_ord [1, 1, 1, 1, 1, 1] _ rfl ?_
    exact hn33 _ _ _ _ h ⟨hl33, _, _, _, rfl, rfl, ho36, hm44⟩
 refine ZZ 6 [1] rfl rfl ?_
 refine o_range (jm := 3) rfl rfl rfl z_map64 rfl ho6 rfl (fun v58 g59 hm60 => ?_)
 refine st_end ?_
 have hL61 := h
 refine st_ord [2, 3, 2, 1, 0] _ rfl ?_
 refine st_loopD hL61 (fun (s61 : (List ((Int × Int) × Int)) × (List ((Int × Int) × List Int))) ρ τ61 gs => σ.Le τ61 ∧ ∃ (v62 : Value) (g63 : Grp) (g65 : Grp), ESub ρ [(2, .slice none 0 0), (3, v62), (18, v58)] ∧ gs = [[(ba0, .cells #[v1, v3] 66 (0, 0))], g4, g2, g63, g65] ∧ Mp kPr (rF (Value.int .i64)) τ61 v62 s61.1 g63 ∧ MIt kPr (rSl (kI .i64)) τ61 v58 v3 s61.2 g65 g4) ⟨Sto.Le.refl _, _, _, _, rfl, rfl, ho9, hm60⟩ ?_
 rintro s61 hD61 ρ61 τ61 gs61 ⟨hl61, v62, g63, g65, hρ, rfl, ho64, hm66⟩
 refine st_es hρ ?_
 refine Z 2 rfl ?_
 refine o_next (j := 4) (jm := 1) rfl rfl rfl kPr_inj rfl hm66 rfl rfl (fun hc => ?_) (fun p67 g68 v69 hp70 hv71 hm72 he73 => ?_)
 ·obtain ⟨o61, h, he61, hn61⟩ := hD61 none hc
  replace h := h.1 rfl
  refine Z 5 rfl ?_
  replace h := he61 _ h
  refine st_ord [0, 1, 0, 0] _ rfl ?_
  exact hk10 _ _ _ ⟨s61.1, _, _, h, hl61, rfl, rfl, ho64⟩
 ·obtain ⟨o61, h, he61, hn61⟩ := hD61 (some p67) hp70
  replace h := h.2 _ rfl
  refine st_gs [[(ba0, .cells #[v1, v3] 66 (0, 0))], g4, g2, g63, g68] rfl ?_
  refine Z 8 rfl ?_
  refine o_entry (j := 4) (jm := 1) (p := p67) rfl rfl rfl rfl he73 rfl rfl (fun v74 hv75 => ?_)
  refine Z 2 rfl ?_
  refine o_alloc rfl rfl rfl z_zero79 (fun b76 => ?_)
  refine ZZ 6 [0] rfl rfl ?_
  refine o_lenI rfl rfl rfl z_slT37 rfl hv75 ?_
  refine Z 2 rfl ?_
  obtain ⟨e77, hL77, hA77⟩ := h
  refine st_ord [1, 0, 3, 0, 0, 0] _ rfl ?_
  refine st_loop hL77 (fun (s77 : (List ((Int × Int) × Int)) × Int) ρ τ77 gs => τ61.Le τ77 ∧ ∃ (v78 : Value) (g79 : Grp), ESub ρ [(2, .slice none 0 0), (3, v78), (18, v58), (4, .pointer (some ⟨b76, 0, none⟩)), (24, v74), (25, .int .i64 (p67.2.length : Int)), (26, .int .i64 s77.2)] ∧ gs = [[(ba0, .cells #[v1, v3] 66 (0, 0))], [(b76, .cells #[.int .i64 p67.1.1, .int .i64 p67.1.2] 79 (0, 0))], g68, g4, g2, g79] ∧ Mp kPr (rF (Value.int .i64)) τ77 v78 s77.1 g79) ⟨Sto.Le.refl _, _, _, rfl, rfl, ho64⟩ ?_
  rintro s77 o77 h he77 ρ77 τ77 gs77 ⟨hl77, v78, g79, hρ, rfl, ho80⟩ hn77
  refine st_es hρ ?_
  refine Z 5 rfl ?_
  refine st_if rfl h (fun h => ?_) (fun h => ?_)
  ·refine Z 5 rfl ?_
   obtain ⟨q81, hf82, h⟩ := h
   refine o_index rfl rfl rfl z_slT37 rfl rfl (hv75.up hl77) rfl hf82 (fun b83 of84 vs hc85 hrep => ?_)
   obtain rfl := hrep
   refine o_loadI (v := .int .i64 q81) rfl rfl rfl z_sc3 rfl (hc85 0 _ rfl) ?_
   refine Z 2 rfl ?_
   refine st_incr (gs := [[(ba0, .cells #[v1, v3] 66 (0, 0))], [(b76, .cells #[.int .i64 p67.1.1, .int .i64 p67.1.2] 79 (0, 0))], g68, g4, g2]) (j := 1) (y := p67.1.2) (q := q81) (tm := 111) (tl := 79) (ti := 3) (tk := 72) z_mix rfl z_map111 z_keyP72 z_zeroV3 z_field79_1 z_sc3 z_struct72 rfl rfl rfl rfl rfl ho80 (fun ρ' τ88 g86 hl89 ho87 hout => ?_)
   refine st_gs [[(ba0, .cells #[v1, v3] 66 (0, 0))], [(b76, .cells #[.int .i64 p67.1.1, .int .i64 p67.1.2] 79 (0, 0))], g68, g4, g2, g86] rfl ?_
   refine st_env (ρ' := [(2, .slice none 0 0), (3, v78), (18, v58), (4, .pointer (some ⟨b76, 0, none⟩)), (24, v74), (25, .int .i64 (p67.2.length : Int)), (26, .int .i64 s77.2)]) ⟨(hout 2 rfl).trans rfl, (hout 3 rfl).trans rfl, (hout 18 rfl).trans rfl, (hout 4 rfl).trans rfl, (hout 24 rfl).trans rfl, (hout 25 rfl).trans rfl, (hout 26 rfl).trans rfl, trivial⟩ ?_
   refine Z 5 rfl ?_
   exact hn77 _ _ _ _ h ⟨(hl77.trans hl89), _, _, rfl, rfl, ho87⟩
  ·refine Z 2 rfl ?_
   obtain rfl := he77 _ h
   replace h := hA77
   refine st_ord [0, 2, 2, 2, 1] _ rfl ?_
   exact hn61 _ _ _ _ h ⟨(hl61.trans hl77), _, _, _, rfl, rfl, ho80, (hm72.up hl77)⟩
theorem law30_known_ok  {r : Bool} (h : law30_known r) (σ : Sto)  :
    Does Tryd.prog 18 [] σ [] (fun v τ gs => gs = [] ∧ .bool r = v) := by
 refine call_of Tryd.func18 Tryd.ntmps18 rfl rfl (fun cs fs => ?_)
 refine Z 6 rfl ?_
 obtain ⟨r1, hr2, h⟩ := h
 refine st_call (foot := []) rfl rfl rfl rfl rfl rfl (callV_fn z_en15 (fleet_New_ok hr2 σ)) ?_
 rintro vτ3 τ3 gsτ3 hl4 ⟨b5, v6, g7, v8, g9, rfl, rfl, ho10, ho11⟩
 refine Z 9 rfl ?_
 refine o_buildA (ps := [(0, [.int .i64 1]), (1, [.int .i64 5]), (2, [.int .i64 1])]) (cs := [.int .i64 1, .int .i64 5, .int .i64 1, .int .i64 0, .int .i64 0, .int .i64 0]) rfl rfl rfl z_arrz35 ⟨rfl, ⟨_, rfl, rfl⟩, ⟨rfl, ⟨_, rfl, rfl⟩, ⟨rfl, ⟨_, rfl, rfl⟩, trivial⟩⟩⟩ rfl ?_
 refine o_litE (eI .i64) [1, 2] rfl rfl rfl z_slT37 z_zero3 ⟨rfl, ⟨_, rfl, rfl⟩, ⟨rfl, ⟨_, rfl, rfl⟩, trivial⟩⟩ rfl rfl rfl rfl (fun v12 g13 ho14 => ?_)
 refine o_build (ps := [(0, [.int .i64 3]), (1, [.int .i64 1, .int .i64 5, .int .i64 1, .int .i64 0, .int .i64 0, .int .i64 0]), (3, [v12])]) (cs := [.int .i64 3, .int .i64 1, .int .i64 5, .int .i64 1, .int .i64 0, .int .i64 0, .int .i64 0, .slice none 0 0, v12, .string (bstr []), .string (bstr [])]) rfl rfl rfl z_struct39 ⟨rfl, ⟨_, rfl, rfl⟩, ⟨rfl, ⟨_, rfl, rfl⟩, ⟨rfl, ⟨_, rfl, (oneL_ow ho14)⟩, trivial⟩⟩⟩ rfl ?_
 refine o_buildA (ps := [(0, [.int .i64 2]), (1, [.int .i64 5]), (2, [.int .i64 1])]) (cs := [.int .i64 2, .int .i64 5, .int .i64 1, .int .i64 0, .int .i64 0, .int .i64 0]) rfl rfl rfl z_arrz35 ⟨rfl, ⟨_, rfl, rfl⟩, ⟨rfl, ⟨_, rfl, rfl⟩, ⟨rfl, ⟨_, rfl, rfl⟩, trivial⟩⟩⟩ rfl ?_
 refine o_litE (eI .i64) [2, 3] rfl rfl rfl z_slT37 z_zero3 ⟨rfl, ⟨_, rfl, rfl⟩, ⟨rfl, ⟨_, rfl, rfl⟩, trivial⟩⟩ rfl rfl rfl rfl (fun v15 g16 ho17 => ?_)
 refine o_build (ps := [(0, [.int .i64 3]), (1, [.int .i64 2, .int .i64 5, .int .i64 1, .int .i64 0, .int .i64 0, .int .i64 0]), (3, [v15])]) (cs := [.int .i64 3, .int .i64 2, .int .i64 5, .int .i64 1, .int .i64 0, .int .i64 0, .int .i64 0, .slice none 0 0, v15, .string (bstr []), .string (bstr [])]) rfl rfl rfl z_struct39 ⟨rfl, ⟨_, rfl, rfl⟩, ⟨rfl, ⟨_, rfl, rfl⟩, ⟨rfl, ⟨_, rfl, (oneL_ow ho17)⟩, trivial⟩⟩⟩ rfl ?_
 refine st_ord [1, 0, 0, 0, 0] _ rfl ?_
 refine st_freeze (fun τ18 hl19 hg20 => ?_)
 have hs21 := ho14.freeze hl19 hg20
 refine st_freeze (fun τ23 hl24 hg25 => ?_)
 have hs26 := ho17.freeze (hl19.trans hl24) hg25
 refine o_lit (dk := (kP (kI .i64) (kP (kA .i64 6) (kP (kSl (kP (kI .i64) (kI .i64))) (kP (kSl (kI .i64)) (kP kS kS)))))) (xs := [(3, [1, 5, 1, 0, 0, 0], [], [1, 2], (bstr []), (bstr [])), (3, [2, 5, 1, 0, 0, 0], [], [2, 3], (bstr []), (bstr []))]) (ps := [(0, [.int .i64 3, .int .i64 1, .int .i64 5, .int .i64 1, .int .i64 0, .int .i64 0, .int .i64 0, .slice none 0 0, v12, .string (bstr []), .string (bstr [])]), (1, [.int .i64 3, .int .i64 2, .int .i64 5, .int .i64 1, .int .i64 0, .int .i64 0, .int .i64 0, .slice none 0 0, v15, .string (bstr []), .string (bstr [])])]) (cs := [.int .i64 3, .int .i64 1, .int .i64 5, .int .i64 1, .int .i64 0, .int .i64 0, .int .i64 0, .slice none 0 0, v12, .string (bstr []), .string (bstr []), .int .i64 3, .int .i64 2, .int .i64 5, .int .i64 1, .int .i64 0, .int .i64 0, .int .i64 0, .slice none 0 0, v15, .string (bstr []), .string (bstr [])]) rfl rfl rfl z_slT32 z_zero39 ⟨rfl, ⟨_, rfl, rfl⟩, ⟨rfl, ⟨_, rfl, rfl⟩, trivial⟩⟩ rfl rfl rfl rfl (Kd.Many.cons (d := (kP (kI .i64) (kP (kA .i64 6) (kP (kSl (kP (kI .i64) (kI .i64))) (kP (kSl (kI .i64)) (kP kS kS)))))) (x := (3, [1, 5, 1, 0, 0, 0], [], [1, 2], (bstr []), (bstr []))) (a := [.int .i64 3, .int .i64 1, .int .i64 5, .int .i64 1, .int .i64 0, .int .i64 0, .int .i64 0, .slice none 0 0, v12, .string (bstr []), .string (bstr [])]) ⟨[.int .i64 3], _, rfl, rfl, ⟨[.int .i64 1, .int .i64 5, .int .i64 1, .int .i64 0, .int .i64 0, .int .i64 0], _, rfl, rfl, ⟨[.slice none 0 0], _, rfl, ⟨_, rfl, Sl.nil⟩, ⟨[v12], _, rfl, ⟨_, rfl, (hs21.up hl24)⟩, ⟨[.string (bstr [])], _, rfl, rfl, rfl⟩⟩⟩⟩⟩ (Kd.Many.cons (d := (kP (kI .i64) (kP (kA .i64 6) (kP (kSl (kP (kI .i64) (kI .i64))) (kP (kSl (kI .i64)) (kP kS kS)))))) (x := (3, [2, 5, 1, 0, 0, 0], [], [2, 3], (bstr []), (bstr []))) (a := [.int .i64 3, .int .i64 2, .int .i64 5, .int .i64 1, .int .i64 0, .int .i64 0, .int .i64 0, .slice none 0 0, v15, .string (bstr []), .string (bstr [])]) ⟨[.int .i64 3], _, rfl, rfl, ⟨[.int .i64 2, .int .i64 5, .int .i64 1, .int .i64 0, .int .i64 0, .int .i64 0], _, rfl, rfl, ⟨[.slice none 0 0], _, rfl, ⟨_, rfl, Sl.nil⟩, ⟨[v15], _, rfl, ⟨_, rfl, hs26⟩, ⟨[.string (bstr [])], _, rfl, rfl, rfl⟩⟩⟩⟩⟩ Kd.Many.nil)) (fun v28 g29 ho30 => ?_)
 obtain ⟨r35, hr36, h⟩ := h
 refine st_freeze (fun τ31 hl32 hg33 => ?_)
 have hs34 := ho30.freeze hl32 hg33
 refine st_call (foot := [[(b5, .cells #[v6, v8] 66 (0, 0))], g7, g9]) rfl rfl rfl rfl rfl rfl (callV_fn z_en17 (fleet_Fleet_Apply_ok hr36 τ31 (ho10.up ((hl19.trans hl24).trans hl32)) (ho11.up ((hl19.trans hl24).trans hl32)) hs34)) ?_
 rintro vτ37 τ37 gsτ37 hl38 ⟨v39, g40, v41, g42, rfl, rfl, ho43, ho44⟩
 refine Z 3 rfl ?_
 refine st_if rfl h (fun h => ?_) (fun h => ?_)
 ·refine Z 4 rfl ?_
  refine st_ord [] _ rfl ?_
  obtain rfl := Eq.symm h
  exact st_ret (gs' := []) Tryd.func18 rfl (List.Sublist.refl _) ((((hl4.trans hl19).trans hl24).trans hl32).trans hl38) ⟨rfl, rfl⟩
 ·refine Z 4 rfl ?_
  obtain ⟨r45, hr46, h⟩ := h
  refine st_call (foot := [[(b5, .cells #[v39, v41] 66 (0, 0))], g40, g42]) rfl rfl rfl rfl rfl rfl (callV_fn z_en32 (fleet_Fleet_Contested_ok hr46 τ37 ho43 ho44)) ?_
  rintro vτ47 τ47 gsτ47 hl48 ⟨v49, rfl, rfl, hs50⟩
  refine Z 3 rfl ?_
  refine st_cut (fun ρ τ51 gs => ∃ (s51 : Bool), law30_known_j1 s51 r ∧ τ47.Le τ51 ∧ ESub ρ [(0, .bool s51)] ∧ gs = []) ?_ (fun hk51 => ?_)
  ·rintro ρ51 τ51 gs51 ⟨s51, h, hl51, hρ, rfl⟩
   refine st_es hρ ?_
   obtain rfl := Eq.symm h
   exact st_ret (gs' := []) Tryd.func18 rfl (List.Sublist.refl _) ((((((hl4.trans hl19).trans hl24).trans hl32).trans hl38).trans hl48).trans hl51) ⟨rfl, rfl⟩
  refine Z 2 rfl ?_
  refine o_lenI rfl rfl rfl z_slT69 rfl hs50 ?_
  refine o_ibin (v := .bool (decide ((r45.length : Int) = 1))) rfl rfl rfl rfl rfl rfl ?_
  refine o_mif rfl rfl rfl rfl h (fun h => ?_) (fun h => ?_)
  ·refine o_move rfl rfl rfl rfl ?_
   obtain ⟨q52, hf53, h⟩ := h
   refine o_index rfl rfl rfl z_slT69 rfl rfl hs50 rfl hf53 (fun b54 of55 vs hc56 hrep => ?_)
   obtain ⟨_, _, rfl, rfl, rfl⟩ := hrep
   refine o_loadIN (vs := [.int .i64 q52.1, .int .i64 q52.2]) rfl rfl rfl z_agg72 rfl rfl (celn_part 0 rfl hc56) ?_
   refine ZZ 1 [] rfl rfl ?_
   refine o_aggEq (b := ((decide (q52.1 = 5)) && ((decide (q52.2 = 2)) && true))) (e := ((decide (q52.1 = 5)) && ((decide (q52.2 = 2)) && true))) rfl rfl rfl z_eqg72 rfl rfl (fun w => by refine eq_struct Tryd.underlying72 z_held72 ?_; refine eqf_cons (r := (decide (q52.1 = 5))) (r' := ((decide (q52.2 = 2)) && true)) rfl (part_one z_sc3 rfl) (part_one z_sc3 rfl) (by exact eq_int Tryd.underlying3 _ _) ?_; refine eqf_cons (r := (decide (q52.2 = 2))) (r' := true) rfl (part_one z_sc3 rfl) (part_one z_sc3 rfl) (by exact eq_int Tryd.underlying3 _ _) ?_; exact eqf_nil _ _ _ _) rfl ?_
   refine Z 3 rfl ?_
   refine st_ord [] _ rfl ?_
   exact hk51 _ _ _ ⟨((decide (q52.1 = 5)) && ((decide (q52.2 = 2)) && true)), h, (Sto.Le.refl _), rfl, rfl⟩
  ·refine Z 8 rfl ?_
   refine st_ord [] _ rfl ?_
   exact hk51 _ _ _ ⟨false, h, (Sto.Le.refl _), rfl, rfl⟩
theorem fleet_same_ok {a0 : Int × Int × Int × Int × Int × Bool × Bool × Int × Int × List (Int × Int) × Int × Int} {a1 : Int × Int × Int × Int × Int × Bool × Bool × Int × Int × List (Int × Int) × Int × Int} {v1 : Value} {v3 : Value} {r : Bool} (h : fleet_same a0 a1 r) (σ : Sto) (hs2 : Sl (kP (kI .i64) (kI .i64)) σ v1 a0.2.2.2.2.2.2.2.2.2.1) (hs4 : Sl (kP (kI .i64) (kI .i64)) σ v3 a1.2.2.2.2.2.2.2.2.2.1) :
    Does Tryd.prog 34 [.agg [.int .i64 a0.1, .int .i64 a0.2.1, .int .i64 a0.2.2.1, .int .i64 a0.2.2.2.1, .int .i64 a0.2.2.2.2.1, .bool a0.2.2.2.2.2.1, .bool a0.2.2.2.2.2.2.1, .int .i64 a0.2.2.2.2.2.2.2.1, .int .i64 a0.2.2.2.2.2.2.2.2.1, v1, .int .i64 a0.2.2.2.2.2.2.2.2.2.2.1, .int .i64 a0.2.2.2.2.2.2.2.2.2.2.2].toArray, .agg [.int .i64 a1.1, .int .i64 a1.2.1, .int .i64 a1.2.2.1, .int .i64 a1.2.2.2.1, .int .i64 a1.2.2.2.2.1, .bool a1.2.2.2.2.2.1, .bool a1.2.2.2.2.2.2.1, .int .i64 a1.2.2.2.2.2.2.2.1, .int .i64 a1.2.2.2.2.2.2.2.2.1, v3, .int .i64 a1.2.2.2.2.2.2.2.2.2.2.1, .int .i64 a1.2.2.2.2.2.2.2.2.2.2.2].toArray] σ [] (fun v τ gs => gs = [] ∧ .bool r = v) := by
 refine call_of Tryd.func34 Tryd.ntmps34 rfl rfl (fun cs fs => ?_)
 refine Z 2 rfl ?_
 refine o_box (cs := [.int .i64 a0.1, .int .i64 a0.2.1, .int .i64 a0.2.2.1, .int .i64 a0.2.2.2.1, .int .i64 a0.2.2.2.2.1, .bool a0.2.2.2.2.2.1, .bool a0.2.2.2.2.2.2.1, .int .i64 a0.2.2.2.2.2.2.2.1, .int .i64 a0.2.2.2.2.2.2.2.2.1, v1, .int .i64 a0.2.2.2.2.2.2.2.2.2.2.1, .int .i64 a0.2.2.2.2.2.2.2.2.2.2.2]) rfl rfl rfl rfl rfl (fun b5 => ?_)
 refine o_box (cs := [.int .i64 a1.1, .int .i64 a1.2.1, .int .i64 a1.2.2.1, .int .i64 a1.2.2.2.1, .int .i64 a1.2.2.2.2.1, .bool a1.2.2.2.2.2.1, .bool a1.2.2.2.2.2.2.1, .int .i64 a1.2.2.2.2.2.2.2.1, .int .i64 a1.2.2.2.2.2.2.2.2.1, v3, .int .i64 a1.2.2.2.2.2.2.2.2.2.2.1, .int .i64 a1.2.2.2.2.2.2.2.2.2.2.2]) rfl rfl rfl rfl rfl (fun b6 => ?_)
 refine ZZ 9 [1, 0] rfl rfl ?_
 obtain ⟨r7, hr8, h⟩ := h
 refine st_call (foot := []) rfl rfl rfl rfl rfl rfl (callV_fn z_en58 (slices_Equal_msg_Point_msg_Point_ok hr8 σ hs2 hs4)) ?_
 rintro vτ9 τ9 gsτ9 hl10 ⟨rfl, rfl⟩
 refine Z 2 rfl ?_
 refine st_if rfl h (fun h => ?_) (fun h => ?_)
 ·refine Z 4 rfl ?_
  refine st_ord [] _ rfl ?_
  obtain rfl := Eq.symm h
  exact st_ret (gs' := []) Tryd.func34 rfl (List.Sublist.refl _) hl10 ⟨rfl, rfl⟩
 ·refine ZZ 9 [1, 0] rfl rfl ?_
  refine st_cut (fun ρ τ11 gs => ∃ (s11 : Bool), fleet_same_j1 s11 r ∧ τ9.Le τ11 ∧ ESub ρ [(4, .bool s11)] ∧ gs = []) ?_ (fun hk11 => ?_)
  ·rintro ρ11 τ11 gs11 ⟨s11, h, hl11, hρ, rfl⟩
   refine st_es hρ ?_
   obtain rfl := Eq.symm h
   exact st_ret (gs' := []) Tryd.func34 rfl (List.Sublist.refl _) (hl10.trans hl11) ⟨rfl, rfl⟩
  refine ZZ 6 [1, 0] rfl rfl ?_
  refine o_mif rfl rfl rfl rfl h (fun h => ?_) (fun h => ?_)
  ·refine ZZ 6 [1, 0] rfl rfl ?_
   refine o_mif rfl rfl rfl rfl h (fun h => ?_) (fun h => ?_)
   ·refine ZZ 6 [1, 0] rfl rfl ?_
    refine o_mif rfl rfl rfl rfl h (fun h => ?_) (fun h => ?_)
    ·refine ZZ 6 [1, 0] rfl rfl ?_
     refine o_mif rfl rfl rfl rfl h (fun h => ?_) (fun h => ?_)
     ·refine ZZ 6 [1, 0] rfl rfl ?_
      refine o_mif rfl rfl rfl rfl h (fun h => ?_) (fun h => ?_)
      ·refine ZZ 6 [1, 0] rfl rfl ?_
       refine o_mif rfl rfl rfl rfl h (fun h => ?_) (fun h => ?_)
       ·refine ZZ 6 [1, 0] rfl rfl ?_
        refine o_mif rfl rfl rfl rfl h (fun h => ?_) (fun h => ?_)
        ·refine ZZ 6 [1, 0] rfl rfl ?_
         refine o_mif rfl rfl rfl rfl h (fun h => ?_) (fun h => ?_)
         ·refine ZZ 6 [1, 0] rfl rfl ?_
          refine o_mif rfl rfl rfl rfl h (fun h => ?_) (fun h => ?_)
          ·refine ZZ 6 [1, 0] rfl rfl ?_
           refine o_mif rfl rfl rfl rfl h (fun h => ?_) (fun h => ?_)
           ·refine ZZ 8 [1, 0] rfl rfl ?_
            refine st_ord [] _ rfl ?_
            exact hk11 _ _ _ ⟨(decide (a0.2.2.2.2.2.2.2.2.2.2.2 = a1.2.2.2.2.2.2.2.2.2.2.2)), h, (Sto.Le.refl _), rfl, rfl⟩
           ·refine Z 8 rfl ?_
            refine st_ord [] _ rfl ?_
            exact hk11 _ _ _ ⟨false, h, (Sto.Le.refl _), rfl, rfl⟩
          ·refine Z 15 rfl ?_
           refine st_ord [] _ rfl ?_
           exact hk11 _ _ _ ⟨false, h, (Sto.Le.refl _), rfl, rfl⟩
         ·refine Z 22 rfl ?_
          refine st_ord [] _ rfl ?_
          exact hk11 _ _ _ ⟨false, h, (Sto.Le.refl _), rfl, rfl⟩
        ·refine Z 29 rfl ?_
         refine st_ord [] _ rfl ?_
         exact hk11 _ _ _ ⟨false, h, (Sto.Le.refl _), rfl, rfl⟩
       ·refine Z 36 rfl ?_
        refine st_ord [] _ rfl ?_
        exact hk11 _ _ _ ⟨false, h, (Sto.Le.refl _), rfl, rfl⟩
      ·refine Z 43 rfl ?_
       refine st_ord [] _ rfl ?_
       exact hk11 _ _ _ ⟨false, h, (Sto.Le.refl _), rfl, rfl⟩
     ·refine Z 50 rfl ?_
      refine st_ord [] _ rfl ?_
      exact hk11 _ _ _ ⟨false, h, (Sto.Le.refl _), rfl, rfl⟩
    ·refine Z 57 rfl ?_
     refine st_ord [] _ rfl ?_
     exact hk11 _ _ _ ⟨false, h, (Sto.Le.refl _), rfl, rfl⟩
   ·refine Z 64 rfl ?_
    refine st_ord [] _ rfl ?_
    exact hk11 _ _ _ ⟨false, h, (Sto.Le.refl _), rfl, rfl⟩
  ·refine Z 71 rfl ?_
   refine st_ord [] _ rfl ?_
   exact hk11 _ _ _ ⟨false, h, (Sto.Le.refl _), rfl, rfl⟩
theorem maps_EqualFunc_map_int_fleet_Robot_map_int_fleet_Robot_int_fleet_Robot_fleet_Robot__fleet_same_ok {a0 : List (Int × (Int × Int × Int × Int × Int × Bool × Bool × Int × Int × List (Int × Int) × Int × Int))} {a1 : List (Int × (Int × Int × Int × Int × Int × Bool × Bool × Int × Int × List (Int × Int) × Int × Int))} {va0 : Value} {ga0 : Grp} {va1 : Value} {ga1 : Grp} {r : Bool} (h : maps_EqualFunc_map_int_fleet_Robot_map_int_fleet_Robot_int_fleet_Robot_fleet_Robot__fleet_same a0 a1 r) (σ : Sto) (ho1 : Mp (Value.int .i64) (rK (kP (kI .i64) (kP (kI .i64) (kP (kI .i64) (kP (kI .i64) (kP (kI .i64) (kP kB (kP kB (kP (kI .i64) (kP (kI .i64) (kP (kSl (kP (kI .i64) (kI .i64))) (kP (kI .i64) (kI .i64))))))))))))) σ va0 a0 ga0) (ho2 : Mp (Value.int .i64) (rK (kP (kI .i64) (kP (kI .i64) (kP (kI .i64) (kP (kI .i64) (kP (kI .i64) (kP kB (kP kB (kP (kI .i64) (kP (kI .i64) (kP (kSl (kP (kI .i64) (kI .i64))) (kP (kI .i64) (kI .i64))))))))))))) σ va1 a1 ga1) :
    Does Tryd.prog 33 [va0, va1, .func (.func 34) #[] [].toArray] σ [ga0, ga1] (fun v τ gs => gs = [ga0, ga1] ∧ .bool r = v) := by
 refine call_of Tryd.func33 Tryd.ntmps33 rfl rfl (fun cs fs => ?_)
 refine Z 8 rfl ?_
 refine o_lenM (j := 0) rfl rfl rfl z_map63 rfl ho1 rfl ?_
 refine o_move rfl rfl rfl rfl ?_
 refine o_lenM (j := 1) rfl rfl rfl z_map63 rfl ho2 rfl ?_
 refine Z 2 rfl ?_
 refine st_cond rfl (fun hc => ?_) (fun hc => ?_)
 ·replace h := (if_pos hc).mp h
  refine Z 4 rfl ?_
  obtain rfl := Eq.symm h
  exact st_ret (gs' := [ga0, ga1]) Tryd.func33 rfl (List.Sublist.refl _) (Sto.Le.refl _) ⟨rfl, rfl⟩
 ·replace h := (if_neg (ne_t hc)).mp h
  refine Z 2 rfl ?_
  refine st_cut (fun ρ τ3 gs => ∃ (s3 : Unit), maps_EqualFunc_map_int_fleet_Robot_map_int_fleet_Robot_int_fleet_Robot_fleet_Robot__fleet_same_j1 s3 r ∧ σ.Le τ3 ∧ ESub ρ [(6, .bool false)] ∧ gs = [ga0, ga1]) ?_ (fun hk3 => ?_)
  ·rintro ρ3 τ3 gs3 ⟨s3, h, hl3, hρ, rfl⟩
   refine st_es hρ ?_
   refine Z 4 rfl ?_
   obtain rfl := Eq.symm h
   exact st_ret (gs' := [ga0, ga1]) Tryd.func33 rfl (List.Sublist.refl _) hl3 ⟨rfl, rfl⟩
  refine Z 3 rfl ?_
  refine o_range (jm := 0) rfl rfl rfl z_map63 rfl ho1 rfl (fun v4 g5 hm6 => ?_)
  refine st_end ?_
  have hL7 := h
  refine st_ord [2, 1, 0] _ rfl ?_
  refine st_loopD hL7 (fun (s7 : (List (Int × (Int × Int × Int × Int × Int × Bool × Bool × Int × Int × List (Int × Int) × Int × Int)))) ρ τ7 gs => σ.Le τ7 ∧ ∃ (g8 : Grp), ESub ρ [(1, va1), (2, .func (.func 34) #[] #[]), (6, .bool false), (17, v4)] ∧ gs = [ga1, ga0, g8] ∧ MIt (Value.int .i64) (rK (kP (kI .i64) (kP (kI .i64) (kP (kI .i64) (kP (kI .i64) (kP (kI .i64) (kP kB (kP kB (kP (kI .i64) (kP (kI .i64) (kP (kSl (kP (kI .i64) (kI .i64))) (kP (kI .i64) (kI .i64))))))))))))) τ7 v4 va0 s7 g8 ga0) ⟨Sto.Le.refl _, _, rfl, rfl, hm6⟩ ?_
  rintro s7 hD7 ρ7 τ7 gs7 ⟨hl7, g8, hρ, rfl, hm9⟩
  refine st_es hρ ?_
  refine Z 2 rfl ?_
  refine o_next (j := 2) (jm := 1) rfl rfl rfl (fun a b h => by cases h; rfl) rfl hm9 rfl rfl (fun hc => ?_) (fun p10 g11 v12 hp13 hv14 hm15 he16 => ?_)
  ·obtain ⟨o7, h, he7, hn7⟩ := hD7 none hc
   replace h := h.1 rfl
   refine Z 5 rfl ?_
   replace h := he7 _ h
   refine st_ord [1, 0] _ rfl ?_
   exact hk3 _ _ _ ⟨(), h, hl7, rfl, rfl⟩
  ·obtain ⟨o7, h, he7, hn7⟩ := hD7 (some p10) hp13
   replace h := h.2 _ rfl
   obtain ⟨_, ⟨_, _, rfl, rfl, ⟨_, _, rfl, rfl, ⟨_, _, rfl, rfl, ⟨_, _, rfl, rfl, ⟨_, _, rfl, rfl, ⟨_, _, rfl, rfl, ⟨_, _, rfl, rfl, ⟨_, _, rfl, rfl, ⟨_, _, rfl, rfl, ⟨_, _, rfl, ⟨v17, rfl, hs18⟩, ⟨_, _, rfl, rfl, rfl⟩⟩⟩⟩⟩⟩⟩⟩⟩⟩⟩, rfl⟩ := hv14
   refine st_gs [ga1, ga0, g11] rfl ?_
   refine Z 8 rfl ?_
   refine o_entry (j := 2) (jm := 1) (p := p10) rfl rfl rfl rfl he16 rfl rfl (fun v19 hv20 => ?_)
   obtain ⟨_, ⟨_, _, rfl, rfl, ⟨_, _, rfl, rfl, ⟨_, _, rfl, rfl, ⟨_, _, rfl, rfl, ⟨_, _, rfl, rfl, ⟨_, _, rfl, rfl, ⟨_, _, rfl, rfl, ⟨_, _, rfl, rfl, ⟨_, _, rfl, rfl, ⟨_, _, rfl, ⟨v21, rfl, hs22⟩, ⟨_, _, rfl, rfl, rfl⟩⟩⟩⟩⟩⟩⟩⟩⟩⟩⟩, rfl⟩ := hv20
   refine Z 2 rfl ?_
   refine o_alloc rfl rfl rfl z_zero75 (fun b23 => ?_)
   refine o_assign rfl rfl rfl rfl ?_
   refine o_store (j := 0) (vs := [.int .i64 p10.2.1, .int .i64 p10.2.2.1, .int .i64 p10.2.2.2.1, .int .i64 p10.2.2.2.2.1, .int .i64 p10.2.2.2.2.2.1, .bool p10.2.2.2.2.2.2.1, .bool p10.2.2.2.2.2.2.2.1, .int .i64 p10.2.2.2.2.2.2.2.2.1, .int .i64 p10.2.2.2.2.2.2.2.2.2.1, v21, .int .i64 p10.2.2.2.2.2.2.2.2.2.2.2.1, .int .i64 p10.2.2.2.2.2.2.2.2.2.2.2.2]) (cs' := [.int .i64 p10.2.1, .int .i64 p10.2.2.1, .int .i64 p10.2.2.2.1, .int .i64 p10.2.2.2.2.1, .int .i64 p10.2.2.2.2.2.1, .bool p10.2.2.2.2.2.2.1, .bool p10.2.2.2.2.2.2.2.1, .int .i64 p10.2.2.2.2.2.2.2.2.1, .int .i64 p10.2.2.2.2.2.2.2.2.2.1, v21, .int .i64 p10.2.2.2.2.2.2.2.2.2.2.2.1, .int .i64 p10.2.2.2.2.2.2.2.2.2.2.2.2]) rfl rfl rfl z_size75 rfl rfl rfl (ones_cons rfl (ones_cons rfl (ones_cons rfl (ones_cons rfl (ones_cons rfl (ones_cons rfl (ones_cons rfl (ones_cons rfl (ones_cons rfl (ones_cons hs22.one' (ones_cons rfl (ones_cons rfl ones_nil)))))))))))) rfl rfl rfl ?_
   refine st_gs [[(b23, .cells #[.int .i64 p10.2.1, .int .i64 p10.2.2.1, .int .i64 p10.2.2.2.1, .int .i64 p10.2.2.2.2.1, .int .i64 p10.2.2.2.2.2.1, .bool p10.2.2.2.2.2.2.1, .bool p10.2.2.2.2.2.2.2.1, .int .i64 p10.2.2.2.2.2.2.2.2.1, .int .i64 p10.2.2.2.2.2.2.2.2.2.1, v21, .int .i64 p10.2.2.2.2.2.2.2.2.2.2.2.1, .int .i64 p10.2.2.2.2.2.2.2.2.2.2.2.2] 75 (0, 0))], ga1, ga0, g11] rfl ?_
   refine Z 5 rfl ?_
   refine o_lookR2 (rv := (rK (kP (kI .i64) (kP (kI .i64) (kP (kI .i64) (kP (kI .i64) (kP (kI .i64) (kP kB (kP kB (kP (kI .i64) (kP (kI .i64) (kP (kSl (kP (kI .i64) (kI .i64))) (kP (kI .i64) (kI .i64)))))))))))))) (q0 := (0, 0, 0, 0, 0, false, false, 0, 0, [], 0, 0)) (j := 1) (a := p10.1) rfl rfl rfl z_map63 (keyI Tryd.underlying3) z_zeroV75 ⟨[.int .i64 0, .int .i64 0, .int .i64 0, .int .i64 0, .int .i64 0, .bool false, .bool false, .int .i64 0, .int .i64 0, .slice none 0 0, .int .i64 0, .int .i64 0], ⟨[.int .i64 0], _, rfl, rfl, ⟨[.int .i64 0], _, rfl, rfl, ⟨[.int .i64 0], _, rfl, rfl, ⟨[.int .i64 0], _, rfl, rfl, ⟨[.int .i64 0], _, rfl, rfl, ⟨[.bool false], _, rfl, rfl, ⟨[.bool false], _, rfl, rfl, ⟨[.int .i64 0], _, rfl, rfl, ⟨[.int .i64 0], _, rfl, rfl, ⟨[.slice none 0 0], _, rfl, ⟨_, rfl, Sl.nil⟩, ⟨[.int .i64 0], _, rfl, rfl, rfl⟩⟩⟩⟩⟩⟩⟩⟩⟩⟩⟩, rfl⟩ rfl (ho2.up hl7) rfl rfl (fun v24 hv25 => ?_)
   obtain ⟨_, ⟨_, _, rfl, rfl, ⟨_, _, rfl, rfl, ⟨_, _, rfl, rfl, ⟨_, _, rfl, rfl, ⟨_, _, rfl, rfl, ⟨_, _, rfl, rfl, ⟨_, _, rfl, rfl, ⟨_, _, rfl, rfl, ⟨_, _, rfl, rfl, ⟨_, _, rfl, ⟨v26, rfl, hs27⟩, ⟨_, _, rfl, rfl, rfl⟩⟩⟩⟩⟩⟩⟩⟩⟩⟩⟩, rfl⟩ := hv25
   refine Z 3 rfl ?_
   refine o_alloc rfl rfl rfl z_zero75 (fun b28 => ?_)
   refine o_store (j := 0) (vs := [.int .i64 (((mget a1 p10.1).getD (0, 0, 0, 0, 0, false, false, 0, 0, [], 0, 0)).1), .int .i64 (((mget a1 p10.1).getD (0, 0, 0, 0, 0, false, false, 0, 0, [], 0, 0)).2.1), .int .i64 (((mget a1 p10.1).getD (0, 0, 0, 0, 0, false, false, 0, 0, [], 0, 0)).2.2.1), .int .i64 (((mget a1 p10.1).getD (0, 0, 0, 0, 0, false, false, 0, 0, [], 0, 0)).2.2.2.1), .int .i64 (((mget a1 p10.1).getD (0, 0, 0, 0, 0, false, false, 0, 0, [], 0, 0)).2.2.2.2.1), .bool (((mget a1 p10.1).getD (0, 0, 0, 0, 0, false, false, 0, 0, [], 0, 0)).2.2.2.2.2.1), .bool (((mget a1 p10.1).getD (0, 0, 0, 0, 0, false, false, 0, 0, [], 0, 0)).2.2.2.2.2.2.1), .int .i64 (((mget a1 p10.1).getD (0, 0, 0, 0, 0, false, false, 0, 0, [], 0, 0)).2.2.2.2.2.2.2.1), .int .i64 (((mget a1 p10.1).getD (0, 0, 0, 0, 0, false, false, 0, 0, [], 0, 0)).2.2.2.2.2.2.2.2.1), v26, .int .i64 (((mget a1 p10.1).getD (0, 0, 0, 0, 0, false, false, 0, 0, [], 0, 0)).2.2.2.2.2.2.2.2.2.2.1), .int .i64 (((mget a1 p10.1).getD (0, 0, 0, 0, 0, false, false, 0, 0, [], 0, 0)).2.2.2.2.2.2.2.2.2.2.2)]) (cs' := [.int .i64 (((mget a1 p10.1).getD (0, 0, 0, 0, 0, false, false, 0, 0, [], 0, 0)).1), .int .i64 (((mget a1 p10.1).getD (0, 0, 0, 0, 0, false, false, 0, 0, [], 0, 0)).2.1), .int .i64 (((mget a1 p10.1).getD (0, 0, 0, 0, 0, false, false, 0, 0, [], 0, 0)).2.2.1), .int .i64 (((mget a1 p10.1).getD (0, 0, 0, 0, 0, false, false, 0, 0, [], 0, 0)).2.2.2.1), .int .i64 (((mget a1 p10.1).getD (0, 0, 0, 0, 0, false, false, 0, 0, [], 0, 0)).2.2.2.2.1), .bool (((mget a1 p10.1).getD (0, 0, 0, 0, 0, false, false, 0, 0, [], 0, 0)).2.2.2.2.2.1), .bool (((mget a1 p10.1).getD (0, 0, 0, 0, 0, false, false, 0, 0, [], 0, 0)).2.2.2.2.2.2.1), .int .i64 (((mget a1 p10.1).getD (0, 0, 0, 0, 0, false, false, 0, 0, [], 0, 0)).2.2.2.2.2.2.2.1), .int .i64 (((mget a1 p10.1).getD (0, 0, 0, 0, 0, false, false, 0, 0, [], 0, 0)).2.2.2.2.2.2.2.2.1), v26, .int .i64 (((mget a1 p10.1).getD (0, 0, 0, 0, 0, false, false, 0, 0, [], 0, 0)).2.2.2.2.2.2.2.2.2.2.1), .int .i64 (((mget a1 p10.1).getD (0, 0, 0, 0, 0, false, false, 0, 0, [], 0, 0)).2.2.2.2.2.2.2.2.2.2.2)]) rfl rfl rfl z_size75 rfl rfl rfl (ones_cons rfl (ones_cons rfl (ones_cons rfl (ones_cons rfl (ones_cons rfl (ones_cons rfl (ones_cons rfl (ones_cons rfl (ones_cons rfl (ones_cons hs27.one' (ones_cons rfl (ones_cons rfl ones_nil)))))))))))) rfl rfl rfl ?_
   refine st_gs [[(b28, .cells #[.int .i64 (((mget a1 p10.1).getD (0, 0, 0, 0, 0, false, false, 0, 0, [], 0, 0)).1), .int .i64 (((mget a1 p10.1).getD (0, 0, 0, 0, 0, false, false, 0, 0, [], 0, 0)).2.1), .int .i64 (((mget a1 p10.1).getD (0, 0, 0, 0, 0, false, false, 0, 0, [], 0, 0)).2.2.1), .int .i64 (((mget a1 p10.1).getD (0, 0, 0, 0, 0, false, false, 0, 0, [], 0, 0)).2.2.2.1), .int .i64 (((mget a1 p10.1).getD (0, 0, 0, 0, 0, false, false, 0, 0, [], 0, 0)).2.2.2.2.1), .bool (((mget a1 p10.1).getD (0, 0, 0, 0, 0, false, false, 0, 0, [], 0, 0)).2.2.2.2.2.1), .bool (((mget a1 p10.1).getD (0, 0, 0, 0, 0, false, false, 0, 0, [], 0, 0)).2.2.2.2.2.2.1), .int .i64 (((mget a1 p10.1).getD (0, 0, 0, 0, 0, false, false, 0, 0, [], 0, 0)).2.2.2.2.2.2.2.1), .int .i64 (((mget a1 p10.1).getD (0, 0, 0, 0, 0, false, false, 0, 0, [], 0, 0)).2.2.2.2.2.2.2.2.1), v26, .int .i64 (((mget a1 p10.1).getD (0, 0, 0, 0, 0, false, false, 0, 0, [], 0, 0)).2.2.2.2.2.2.2.2.2.2.1), .int .i64 (((mget a1 p10.1).getD (0, 0, 0, 0, 0, false, false, 0, 0, [], 0, 0)).2.2.2.2.2.2.2.2.2.2.2)] 75 (0, 0))], [(b23, .cells #[.int .i64 p10.2.1, .int .i64 p10.2.2.1, .int .i64 p10.2.2.2.1, .int .i64 p10.2.2.2.2.1, .int .i64 p10.2.2.2.2.2.1, .bool p10.2.2.2.2.2.2.1, .bool p10.2.2.2.2.2.2.2.1, .int .i64 p10.2.2.2.2.2.2.2.2.1, .int .i64 p10.2.2.2.2.2.2.2.2.2.1, v21, .int .i64 p10.2.2.2.2.2.2.2.2.2.2.2.1, .int .i64 p10.2.2.2.2.2.2.2.2.2.2.2.2] 75 (0, 0))], ga1, ga0, g11] rfl ?_
   refine Z 3 rfl ?_
   refine st_cut (fun ρ τ29 gs => ∃ (s29 : Bool), maps_EqualFunc_map_int_fleet_Robot_map_int_fleet_Robot_int_fleet_Robot_fleet_Robot__fleet_same_j3 s7 p10 s29 o7 ∧ τ7.Le τ29 ∧ ESub ρ [(1, va1), (2, .func (.func 34) #[] #[]), (6, .bool false), (17, v4), (37, .bool s29)] ∧ gs = [ga1, g11, ga0]) ?_ (fun hk29 => ?_)
   ·rintro ρ29 τ29 gs29 ⟨s29, h, hl29, hρ, rfl⟩
    refine st_es hρ ?_
    refine st_if rfl h (fun h => ?_) (fun h => ?_)
    ·refine Z 4 rfl ?_
     refine st_ord [2, 0] _ rfl ?_
     replace h := he7 _ h
     obtain rfl := Eq.symm h
     exact st_ret (gs' := [ga0, ga1]) Tryd.func33 rfl (List.Sublist.refl _) (hl7.trans hl29) ⟨rfl, rfl⟩
    ·refine Z 2 rfl ?_
     refine st_ord [0, 1, 0] _ rfl ?_
     exact hn7 _ _ _ _ h ⟨(hl7.trans hl29), _, rfl, rfl, (hm15.up hl29)⟩
   refine Z 3 rfl ?_
   refine o_mif rfl rfl rfl rfl h (fun h => ?_) (fun h => ?_)
   ·refine Z 7 rfl ?_
    refine st_ord [2, 3, 2] _ rfl ?_
    exact hk29 _ _ _ ⟨true, h, (Sto.Le.refl _), rfl, rfl⟩
   ·refine ZZ 3 [1, 0] rfl rfl ?_
    obtain ⟨r30, hr31, h⟩ := h
    refine st_call (foot := []) rfl rfl rfl rfl rfl rfl (callV_fn z_en34 (fleet_same_ok hr31 τ7 hs22 hs27)) ?_
    rintro vτ32 τ32 gsτ32 hl33 ⟨rfl, rfl⟩
    refine Z 3 rfl ?_
    refine st_ord [2, 3, 2] _ rfl ?_
    exact hk29 _ _ _ ⟨(!r30), h, hl33, rfl, rfl⟩
theorem maps_EqualFunc_map_fleet_lot_int_map_fleet_lot_int_fleet_lot_int_int__slices_Equal_int_int_ok {a0 : List ((Int × Int) × List Int)} {a1 : List ((Int × Int) × List Int)} {va0 : Value} {ga0 : Grp} {va1 : Value} {ga1 : Grp} {r : Bool} (h : maps_EqualFunc_map_fleet_lot_int_map_fleet_lot_int_fleet_lot_int_int__slices_Equal_int_int a0 a1 r) (σ : Sto) (ho1 : Mp kPr (rSl (kI .i64)) σ va0 a0 ga0) (ho2 : Mp kPr (rSl (kI .i64)) σ va1 a1 ga1) :
    Does Tryd.prog 35 [va0, va1, .func (.func 36) #[] [].toArray] σ [ga0, ga1] (fun v τ gs => gs = [ga0, ga1] ∧ .bool r = v) := by
 refine call_of Tryd.func35 Tryd.ntmps35 rfl rfl (fun cs fs => ?_)
 refine Z 8 rfl ?_
 refine o_lenM (j := 0) rfl rfl rfl z_map64 rfl ho1 rfl ?_
 refine o_move rfl rfl rfl rfl ?_
 refine o_lenM (j := 1) rfl rfl rfl z_map64 rfl ho2 rfl ?_
 refine Z 2 rfl ?_
 refine st_cond rfl (fun hc => ?_) (fun hc => ?_)
 ·replace h := (if_pos hc).mp h
  refine Z 4 rfl ?_
  obtain rfl := Eq.symm h
  exact st_ret (gs' := [ga0, ga1]) Tryd.func35 rfl (List.Sublist.refl _) (Sto.Le.refl _) ⟨rfl, rfl⟩
 ·replace h := (if_neg (ne_t hc)).mp h
  refine Z 2 rfl ?_
  refine st_cut (fun ρ τ3 gs => ∃ (s3 : Unit), maps_EqualFunc_map_fleet_lot_int_map_fleet_lot_int_fleet_lot_int_int__slices_Equal_int_int_j1 s3 r ∧ σ.Le τ3 ∧ ESub ρ [(6, .bool false)] ∧ gs = [ga0, ga1]) ?_ (fun hk3 => ?_)
  ·rintro ρ3 τ3 gs3 ⟨s3, h, hl3, hρ, rfl⟩
   refine st_es hρ ?_
   refine Z 4 rfl ?_
   obtain rfl := Eq.symm h
   exact st_ret (gs' := [ga0, ga1]) Tryd.func35 rfl (List.Sublist.refl _) hl3 ⟨rfl, rfl⟩
  refine Z 3 rfl ?_
  refine o_range (jm := 0) rfl rfl rfl z_map64 rfl ho1 rfl (fun v4 g5 hm6 => ?_)
  refine st_end ?_
  have hL7 := h
  refine st_ord [2, 1, 0] _ rfl ?_
  refine st_loopD hL7 (fun (s7 : (List ((Int × Int) × List Int))) ρ τ7 gs => σ.Le τ7 ∧ ∃ (g8 : Grp), ESub ρ [(1, va1), (2, .func (.func 36) #[] #[]), (6, .bool false), (17, v4)] ∧ gs = [ga1, ga0, g8] ∧ MIt kPr (rSl (kI .i64)) τ7 v4 va0 s7 g8 ga0) ⟨Sto.Le.refl _, _, rfl, rfl, hm6⟩ ?_
  rintro s7 hD7 ρ7 τ7 gs7 ⟨hl7, g8, hρ, rfl, hm9⟩
  refine st_es hρ ?_
  refine Z 2 rfl ?_
  refine o_next (j := 2) (jm := 1) rfl rfl rfl kPr_inj rfl hm9 rfl rfl (fun hc => ?_) (fun p10 g11 v12 hp13 hv14 hm15 he16 => ?_)
  ·obtain ⟨o7, h, he7, hn7⟩ := hD7 none hc
   replace h := h.1 rfl
   refine Z 5 rfl ?_
   replace h := he7 _ h
   refine st_ord [1, 0] _ rfl ?_
   exact hk3 _ _ _ ⟨(), h, hl7, rfl, rfl⟩
  ·obtain ⟨o7, h, he7, hn7⟩ := hD7 (some p10) hp13
   replace h := h.2 _ rfl
   refine st_gs [ga1, ga0, g11] rfl ?_
   refine Z 8 rfl ?_
   refine o_entry (j := 2) (jm := 1) (p := p10) rfl rfl rfl rfl he16 rfl rfl (fun v17 hv18 => ?_)
   refine Z 2 rfl ?_
   refine o_alloc rfl rfl rfl z_zero79 (fun b19 => ?_)
   refine ZZ 7 [0, 0] rfl rfl ?_
   refine o_lookR2 (rv := (rSl (kI .i64))) (q0 := []) (j := 1) (a := p10.1) rfl rfl rfl z_map64 z_keyP79 z_zeroV37 Sl.nil rfl (ho2.up hl7) rfl rfl (fun v20 hv21 => ?_)
   refine Z 7 rfl ?_
   refine st_cut (fun ρ τ22 gs => ∃ (s22 : Bool), maps_EqualFunc_map_fleet_lot_int_map_fleet_lot_int_fleet_lot_int_int__slices_Equal_int_int_j3 s7 p10 s22 o7 ∧ τ7.Le τ22 ∧ ESub ρ [(1, va1), (2, .func (.func 36) #[] #[]), (6, .bool false), (17, v4), (37, .bool s22)] ∧ gs = [ga1, g11, ga0]) ?_ (fun hk22 => ?_)
   ·rintro ρ22 τ22 gs22 ⟨s22, h, hl22, hρ, rfl⟩
    refine st_es hρ ?_
    refine st_if rfl h (fun h => ?_) (fun h => ?_)
    ·refine Z 4 rfl ?_
     refine st_ord [2, 0] _ rfl ?_
     replace h := he7 _ h
     obtain rfl := Eq.symm h
     exact st_ret (gs' := [ga0, ga1]) Tryd.func35 rfl (List.Sublist.refl _) (hl7.trans hl22) ⟨rfl, rfl⟩
    ·refine Z 2 rfl ?_
     refine st_ord [0, 1, 0] _ rfl ?_
     exact hn7 _ _ _ _ h ⟨(hl7.trans hl22), _, rfl, rfl, (hm15.up hl22)⟩
   refine Z 3 rfl ?_
   refine o_mif rfl rfl rfl rfl h (fun h => ?_) (fun h => ?_)
   ·refine Z 7 rfl ?_
    refine st_ord [1, 2, 1] _ rfl ?_
    exact hk22 _ _ _ ⟨true, h, (Sto.Le.refl _), rfl, rfl⟩
   ·refine Z 3 rfl ?_
    obtain ⟨r23, hr24, h⟩ := h
    refine st_call (foot := []) rfl rfl rfl rfl rfl rfl (callV_fn z_en36 (slices_Equal_int_int_ok hr24 τ7 hv18 hv21)) ?_
    rintro vτ25 τ25 gsτ25 hl26 ⟨rfl, rfl⟩
    refine Z 3 rfl ?_
    refine st_ord [1, 2, 1] _ rfl ?_
    exact hk22 _ _ _ ⟨(!r23), h, hl26, rfl, rfl⟩
theorem fleet_Same_ok {a0 : List (Int × (Int × Int × Int × Int × Int × Bool × Bool × Int × Int × List (Int × Int) × Int × Int)) × List ((Int × Int) × List Int)} {a1 : List (Int × (Int × Int × Int × Int × Int × Bool × Bool × Int × Int × List (Int × Int) × Int × Int)) × List ((Int × Int) × List Int)} {ba0 : Nat} {v1 : Value} {g2 : Grp} {v3 : Value} {g4 : Grp} {ba1 : Nat} {v7 : Value} {g8 : Grp} {v9 : Value} {g10 : Grp} {r : Bool} (h : fleet_Same a0 a1 r) (σ : Sto) (ho5 : Mp (Value.int .i64) (rK (kP (kI .i64) (kP (kI .i64) (kP (kI .i64) (kP (kI .i64) (kP (kI .i64) (kP kB (kP kB (kP (kI .i64) (kP (kI .i64) (kP (kSl (kP (kI .i64) (kI .i64))) (kP (kI .i64) (kI .i64))))))))))))) σ v1 a0.1 g2) (ho6 : Mp kPr (rSl (kI .i64)) σ v3 a0.2 g4) (ho11 : Mp (Value.int .i64) (rK (kP (kI .i64) (kP (kI .i64) (kP (kI .i64) (kP (kI .i64) (kP (kI .i64) (kP kB (kP kB (kP (kI .i64) (kP (kI .i64) (kP (kSl (kP (kI .i64) (kI .i64))) (kP (kI .i64) (kI .i64))))))))))))) σ v7 a1.1 g8) (ho12 : Mp kPr (rSl (kI .i64)) σ v9 a1.2 g10) :
    Does Tryd.prog 19 [.pointer (some ⟨ba0, 0, none⟩), .pointer (some ⟨ba1, 0, none⟩)] σ [[(ba0, .cells [v1, v3].toArray 66 (0, 0))], g2, g4, [(ba1, .cells [v7, v9].toArray 66 (0, 0))], g8, g10] (fun v τ gs => gs = [[(ba0, .cells [v1, v3].toArray 66 (0, 0))], g2, g4, [(ba1, .cells [v7, v9].toArray 66 (0, 0))], g8, g10] ∧ .bool r = v) := by
 refine call_of Tryd.func19 Tryd.ntmps19 rfl rfl (fun cs fs => ?_)
 refine Z 21 rfl ?_
 obtain ⟨r13, hr14, r18, hr19, h⟩ := h
 let cc17 : Prop := r13 = true
 refine st_draw 20 (dl [.v (.pointer (some ⟨ba0, 0, none⟩)), .v (.pointer (some ⟨ba0, 0, none⟩)), .v (.pointer (some ⟨ba0, 0, none⟩)), .v (v1), .v (.pointer (some ⟨ba1, 0, none⟩)), .v (.pointer (some ⟨ba1, 0, none⟩)), .v (.pointer (some ⟨ba1, 0, none⟩)), .v (v7), .v (.bool r13), .v (.bool r13), .g cc17 (.pointer (some ⟨ba0, 0, none⟩)), .g cc17 (.pointer (some ⟨ba0, 0, none⟩)), .g cc17 (.pointer (some ⟨ba0, 1, none⟩)), .g cc17 (v3), .g cc17 (.pointer (some ⟨ba1, 0, none⟩)), .g cc17 (.pointer (some ⟨ba1, 0, none⟩)), .g cc17 (.pointer (some ⟨ba1, 1, none⟩)), .g cc17 (v9), .g cc17 (.bool r18), .v (.bool (r13 && r18))]) (fun _ _ => []) z_mix rfl (dl_mono trivial) (allB_cons (allB_cons (allB_cons (allB_cons (allB_cons (allB_cons (allB_cons (allB_cons (allB_cons (allB_cons (allB_cons (allB_cons (allB_cons (allB_cons (allB_cons (allB_cons (allB_cons (allB_cons (allB_cons (allB_cons allB_nil (p1 dA)) (p1 dA)) (p1 dA)) ?_) (p1 dA)) (p1 dA)) (p1 dA)) ?_) ?_) (p1 dA)) (p1 (dG []))) (p1 (dG [10]))) (p1 (dG [11]))) ?_) (p1 (dG []))) (p1 (dG [14]))) (p1 (dG [15]))) ?_) ?_) (p1 dK)) ?_
 ·intro ρ' τ pool rs hl hd hout hk
  obtain ⟨_, e2, rfl⟩ := hd 2 rfl
  refine o_load (j := 0) (v := v1) rfl rfl rfl z_sc63 e2 rfl rfl ?_
  exact st_addNil (hk _ _ (Sto.Le.refl _) rfl)
 ·intro ρ' τ pool rs hl hd hout hk
  obtain ⟨_, e6, rfl⟩ := hd 6 rfl
  refine o_load (j := 3) (v := v7) rfl rfl rfl z_sc63 e6 rfl rfl ?_
  exact st_addNil (hk _ _ (Sto.Le.refl _) rfl)
 ·intro ρ' τ pool rs hl hd hout hk
  obtain ⟨_, e3, rfl⟩ := hd 3 rfl
  obtain ⟨_, e7, rfl⟩ := hd 7 rfl
  refine st_ord [1, 3, 0, 0, 0, 0, 0] _ rfl ?_
  refine st_call (foot := [g2, g8]) rfl rfl rfl rfl (evs_cons e3 (evs_cons e7 (evs_cons rfl rfl))) rfl (callV_fn z_en33 (maps_EqualFunc_map_int_fleet_Robot_map_int_fleet_Robot_int_fleet_Robot_fleet_Robot__fleet_same_ok hr14 τ (ho5.up hl) (ho11.up hl))) ?_
  rintro vτ15 τ15 gsτ15 hl16 ⟨rfl, rfl⟩
  refine st_ord [2, 0, 1, 1, 0, 0, 0] _ rfl ?_
  exact st_addNil (hk _ _ hl16 rfl)
 ·intro ρ' τ pool rs hl hd hout hk
  obtain ⟨_, e9, rfl⟩ := hd 9 rfl
  obtain ⟨w12, e12, t12⟩ := hd 12 rfl
  by_cases hG : r13 = true
  ·have hC := hG
   obtain ⟨rfl⟩ := t12.1 hC
   refine o_load (j := 0) (v := v3) rfl (wants_of rfl e9 hG) rfl z_sc64 e12 rfl rfl ?_
   exact st_addNil (hk _ _ (Sto.Le.refl _) ⟨fun _ => rfl, fun hn => absurd hC hn⟩)
  ·refine st_pass rfl rfl rfl e9 (beq_off hG) rfl ?_
   exact st_addNil (hk _ _ (Sto.Le.refl _) ⟨fun h => absurd h hG, fun _ => rfl⟩)
 ·intro ρ' τ pool rs hl hd hout hk
  obtain ⟨_, e9, rfl⟩ := hd 9 rfl
  obtain ⟨w16, e16, t16⟩ := hd 16 rfl
  by_cases hG : r13 = true
  ·have hC := hG
   obtain ⟨rfl⟩ := t16.1 hC
   refine o_load (j := 3) (v := v9) rfl (wants_of rfl e9 hG) rfl z_sc64 e16 rfl rfl ?_
   exact st_addNil (hk _ _ (Sto.Le.refl _) ⟨fun _ => rfl, fun hn => absurd hC hn⟩)
  ·refine st_pass rfl rfl rfl e9 (beq_off hG) rfl ?_
   exact st_addNil (hk _ _ (Sto.Le.refl _) ⟨fun h => absurd h hG, fun _ => rfl⟩)
 ·intro ρ' τ pool rs hl hd hout hk
  obtain ⟨_, e9, rfl⟩ := hd 9 rfl
  obtain ⟨w13, e13, t13⟩ := hd 13 rfl
  obtain ⟨w17, e17, t17⟩ := hd 17 rfl
  by_cases hG : r13 = true
  ·have hC := hG
   replace hr19 := hr19 hC
   obtain ⟨rfl⟩ := t13.1 hC
   obtain ⟨rfl⟩ := t17.1 hC
   refine st_ord [2, 4, 0, 0, 0, 0, 0] _ rfl ?_
   refine st_call (foot := [g4, g10]) rfl (wants_of rfl e9 hG) rfl rfl (evs_cons e13 (evs_cons e17 (evs_cons rfl rfl))) rfl (callV_fn z_en35 (maps_EqualFunc_map_fleet_lot_int_map_fleet_lot_int_fleet_lot_int_int__slices_Equal_int_int_ok hr19 τ (ho6.up hl) (ho12.up hl))) ?_
   rintro vτ20 τ20 gsτ20 hl21 ⟨rfl, rfl⟩
   refine st_ord [2, 2, 0, 1, 1, 0, 0] _ rfl ?_
   exact st_addNil (hk _ _ hl21 ⟨fun _ => rfl, fun hn => absurd hC hn⟩)
  ·refine st_pass rfl rfl rfl e9 (beq_off hG) rfl ?_
   exact st_addNil (hk _ _ (Sto.Le.refl _) ⟨fun h => absurd h hG, fun _ => rfl⟩)
 intro ρ' τ22 vals hl22 hv hout
 refine st_ord [0, 0, 0, 0, 0, 0] _ rfl ?_
 refine st_env (ρ' := [(30, .bool (r13 && r18)), (4, .bool false)]) ⟨(lv1 hv 19 rfl rfl), (hout 4 rfl).trans rfl, trivial⟩ ?_
 refine Z 2 rfl ?_
 obtain rfl := Eq.symm h
 exact st_ret (gs' := [[(ba0, .cells #[v1, v3] 66 (0, 0))], g2, g4, [(ba1, .cells #[v7, v9] 66 (0, 0))], g8, g10]) Tryd.func19 rfl (List.Sublist.refl _) hl22 ⟨rfl, rfl⟩
theorem fleet_Fleet_Robots_1_ok {c0 : List (Int × (Int × Int × Int × Int × Int × Bool × Bool × Int × Int × List (Int × Int) × Int × Int)) × List ((Int × Int) × List Int)} {bc0 : Nat} {bp0 : Nat} {v1 : Value} {g2 : Grp} {v3 : Value} {g4 : Grp} {σ0 : Sto} (hc0_0 : Cel σ0 ⟨bc0, 0, none⟩ (.pointer (some ⟨bp0, 0, none⟩))) (ho5 : Mp (Value.int .i64) (rK (kP (kI .i64) (kP (kI .i64) (kP (kI .i64) (kP (kI .i64) (kP (kI .i64) (kP kB (kP kB (kP (kI .i64) (kP (kI .i64) (kP (kSl (kP (kI .i64) (kI .i64))) (kP (kI .i64) (kI .i64))))))))))))) σ0 v1 c0.1 g2) (ho6 : Mp kPr (rSl (kI .i64)) σ0 v3 c0.2 g4) :
    IterS Tryd.prog (fun _ x vx => vx = [.int .i64 x]) (.func (.func 59) #[] [.pointer (some ⟨bc0, 0, none⟩)].toArray) σ0 ((([(bp0, .cells [v1, v3].toArray 66 (0, 0))] ++ g2) ++ g4)) (fleet_Fleet_Robots_1 c0) := by
 intro S Y I y hyc hyo hIm hY s s' hR σ gR hle hIg
 obtain ⟨r, hr0⟩ : ∃ r, r = (s', ()) := ⟨_, rfl⟩
 rw [← hr0] at hR
 have h := hR
 obtain ⟨g, hG⟩ : ∃ g, g = (([(bp0, .cells #[v1, v3] 66 (0, 0))] ++ g2) ++ g4) ++ gR := ⟨_, rfl⟩
 rw [← hG] at hIg ⊢
 refine callV_of (caps := [.pointer (some ⟨bc0, 0, none⟩)]) z_en59 ?_
 refine call_of Tryd.func59 Tryd.ntmps59 rfl rfl (fun cs fs => ?_)
 refine st_perm (gs' := [[(bp0, .cells #[v1, v3] 66 (0, 0))], g2, g4, gR]) (by subst hG; simp) ?_
 refine Z 4 rfl ?_
 refine o_loadI (v := .pointer (some ⟨bp0, 0, none⟩)) rfl rfl rfl z_sc33 rfl (Cel.up hc0_0 hle) ?_
 refine Z 8 rfl ?_
 refine o_loadI (v := .pointer (some ⟨bp0, 0, none⟩)) rfl rfl rfl z_sc33 rfl (Cel.up hc0_0 hle) ?_
 refine ZZ 3 [0] rfl rfl ?_
 refine st_call (foot := []) rfl rfl rfl rfl rfl rfl (callV_fn z_en61 (keys_does Tryd.keys61 (ho5.up hle))) ?_
 rintro vτ7 τ7 gsτ7 hl8 ⟨b9, rfl, rfl, hc10⟩
 obtain ⟨hf13, hf14, h⟩ := h
 refine st_ord [1, 0, 0, 0] _ rfl ?_
 refine st_call (foot := [g2]) rfl rfl rfl rfl rfl rfl (callV_fn z_en60 (sorted_does Tryd.sorted60 Tryd.keys61 Tryd.sorts60 Tryd.enter62 Tryd.enter78 hc10 (ho5.up (hle.trans hl8)) hf13 hf14)) ?_
 rintro vτ11 τ11 gsτ11 hl12 ⟨v15, g16, rfl, rfl, ho17⟩
 replace ho17 : Ow (kI .i64) 3 τ11 v15 (skeys c0.1) g16 := ho17
 refine o_lenO rfl rfl rfl z_slT37 rfl ho17 ?_
 refine Z 2 rfl ?_
 refine st_ord [2, 1, 1, 1, 0] _ rfl ?_
 refine st_perm (gs' := [g, g16]) (by subst hG; simp) ?_
 obtain ⟨e18, hL18, hA18⟩ := h
 refine st_ord [1, 0] _ rfl ?_
 refine st_loop hL18 (fun (s18 : S × Int) ρ τ18 gs => τ11.Le τ18 ∧ ∃ (g19 : Grp), ESub ρ [(0, y), (12, v15), (13, .int .i64 ((skeys c0.1).length : Int)), (14, .int .i64 s18.2)] ∧ gs = [g16, g19] ∧ I s18.1 τ18 g19) ⟨Sto.Le.refl _, g, rfl, rfl, (hIm _ _ _ _ (hl8.trans hl12) hIg)⟩ ?_
 rintro s18 o18 h he18 ρ18 τ18 gs18 ⟨hl18, g19, hρ, rfl, hI20⟩ hn18
 refine st_es hρ ?_
 refine Z 5 rfl ?_
 refine st_if rfl h (fun h => ?_) (fun h => ?_)
 ·refine Z 5 rfl ?_
  obtain ⟨q21, hf22, h⟩ := h
  refine o_indexOw rfl rfl rfl z_slT37 rfl rfl (ho17.up hl18) rfl hf22 (fun b23 hb24 => ?_)
  obtain ⟨vs25, hrep26, hat27⟩ := Ow.at (ho17.up hl18) hb24 hf22
  obtain rfl := hrep26
  refine o_loadOw (off := 0) (j := 0) (v := .int .i64 q21) rfl rfl rfl z_sc3 rfl hat27 rfl rfl ?_
  refine Z 6 rfl ?_
  obtain ⟨y28, u29, hy30, h⟩ := h
  refine st_ord [1, 0] _ rfl ?_
  refine st_call (foot := [g19]) rfl rfl rfl rfl rfl rfl (hY q21 s18.1 _ _ _ _ _ (hle.trans ((hl8.trans hl12).trans hl18)) hy30 rfl hI20) ?_
  rintro vτ31 τ31 gsτ31 hl32 ⟨rfl, g33, rfl, hI34⟩
  refine Z 2 rfl ?_
  refine st_if rfl h (fun h => ?_) (fun h => ?_)
  ·refine Z 2 rfl ?_
   refine st_ord [0] _ rfl ?_
   obtain rfl := he18 _ h
   replace h := hA18
   obtain rfl := Eq.symm h
   cases hr0
   exact st_fin (gs' := [g33]) Tryd.func59 rfl (by simp) (((hl8.trans hl12).trans hl18).trans hl32) ⟨g33, rfl, hI34⟩
  ·refine Z 6 rfl ?_
   refine st_ord [1, 0] _ rfl ?_
   exact hn18 _ _ _ _ h ⟨(hl18.trans hl32), g33, rfl, rfl, hI34⟩
 ·refine Z 2 rfl ?_
  refine st_ord [1] _ rfl ?_
  obtain rfl := he18 _ h
  replace h := hA18
  obtain rfl := Eq.symm h
  cases hr0
  exact st_fin (gs' := [g19]) Tryd.func59 rfl (by simp) ((hl8.trans hl12).trans hl18) ⟨g19, rfl, hI20⟩
theorem fleet_Fleet_Robots_ok {a0 : List (Int × (Int × Int × Int × Int × Int × Bool × Bool × Int × Int × List (Int × Int) × Int × Int)) × List ((Int × Int) × List Int)} {ba0 : Nat} {v1 : Value} {g2 : Grp} {v3 : Value} {g4 : Grp} {r : (((List (Int × (Int × Int × Int × Int × Int × Bool × Bool × Int × Int × List (Int × Int) × Int × Int)) × List ((Int × Int) × List Int)) → (S : Type) → (Int → S → Bool × S → Prop) → S → S × Unit → Prop))} (h : fleet_Fleet_Robots a0 r) (σ : Sto) (ho5 : Mp (Value.int .i64) (rK (kP (kI .i64) (kP (kI .i64) (kP (kI .i64) (kP (kI .i64) (kP (kI .i64) (kP kB (kP kB (kP (kI .i64) (kP (kI .i64) (kP (kSl (kP (kI .i64) (kI .i64))) (kP (kI .i64) (kI .i64))))))))))))) σ v1 a0.1 g2) (ho6 : Mp kPr (rSl (kI .i64)) σ v3 a0.2 g4) :
    Does Tryd.prog 37 [.pointer (some ⟨ba0, 0, none⟩)] σ [[(ba0, .cells [v1, v3].toArray 66 (0, 0))], g2, g4] (fun v τ gs => ∃ (f18 : Nat) (q19 : Array Value), gs = [[(ba0, .cells [v1, v3].toArray 66 (0, 0))], g2, g4] ∧ .func (.func f18) #[] q19 = v ∧ ∀ (x22 : List (Int × (Int × Int × Int × Int × Int × Bool × Bool × Int × Int × List (Int × Int) × Int × Int)) × List ((Int × Int) × List Int)) (v23 : Value) (g24 : Grp) (v25 : Value) (g26 : Grp) (σ21 : Sto), τ.Le σ21 → Mp (Value.int .i64) (rK (kP (kI .i64) (kP (kI .i64) (kP (kI .i64) (kP (kI .i64) (kP (kI .i64) (kP kB (kP kB (kP (kI .i64) (kP (kI .i64) (kP (kSl (kP (kI .i64) (kI .i64))) (kP (kI .i64) (kI .i64))))))))))))) σ21 v23 x22.1 g24 → Mp kPr (rSl (kI .i64)) σ21 v25 x22.2 g26 → IterS Tryd.prog (fun _ x vx => vx = [.int .i64 x]) (.func (.func f18) #[] q19) σ21 (([(ba0, .cells [v23, v25].toArray 66 (0, 0))] ++ g24) ++ g26) (r x22)) := by
 refine call_of Tryd.func37 Tryd.ntmps37 rfl rfl (fun cs fs => ?_)
 refine Z 2 rfl ?_
 refine o_boxC rfl rfl rfl rfl rfl rfl (fun b7 => ?_)
 refine Z 4 rfl ?_
 refine st_freeze (fun τ8 hl9 hg10 => ?_)
 refine Z 3 rfl ?_
 obtain rfl := Eq.symm h
 exact st_ret (gs' := [[(ba0, .cells #[v1, v3] 66 (0, 0))], g2, g4]) Tryd.func37 rfl (List.Sublist.refl _) hl9 ⟨_, _, rfl, rfl, (fun _ _ _ _ _ _ hl ho16 ho17 => fleet_Fleet_Robots_1_ok ((cel_of hg10 rfl).up hl) ho16 ho17)⟩
theorem fleet_line_ok {a0 : ByteArray} {a1 : List Int} {v1 : Value} {r : ByteArray} (h : fleet_line a0 a1 r) (σ : Sto) (hs2 : Sl (kI .i64) σ v1 a1) (hT : Tab Tryd.prog σ) :
    Does Tryd.prog 38 [.string a0, v1] σ [] (fun v τ gs => gs = [] ∧ .string r = v) := by
 refine call_of Tryd.func38 Tryd.ntmps38 rfl rfl (fun cs fs => ?_)
 refine Z 2 rfl ?_
 refine o_assign rfl rfl rfl (ev_str z_str0) ?_
 refine Z 2 rfl ?_
 refine st_cut (fun ρ τ3 gs => ∃ (s3 : ByteArray), fleet_line_j1 s3 r ∧ σ.Le τ3 ∧ ESub ρ [(0, .string s3), (4, .string (bstr []))] ∧ gs = []) ?_ (fun hk3 => ?_)
 ·rintro ρ3 τ3 gs3 ⟨s3, h, hl3, hρ, rfl⟩
  refine st_es hρ ?_
  refine Z 5 rfl ?_
  obtain rfl := Eq.symm h
  exact st_ret (gs' := []) Tryd.func38 rfl (List.Sublist.refl _) hl3 ⟨rfl, rfl⟩
 refine Z 3 rfl ?_
 refine o_lenI rfl rfl rfl z_slT37 rfl hs2 ?_
 refine Z 2 rfl ?_
 obtain ⟨e4, hL4, hA4⟩ := h
 refine st_loop hL4 (fun (s4 : ByteArray × Int) ρ τ4 gs => σ.Le τ4 ∧ ESub ρ [(0, .string s4.1), (4, .string (bstr [])), (7, v1), (8, .int .i64 (a1.length : Int)), (9, .int .i64 s4.2)] ∧ gs = []) ⟨Sto.Le.refl _, rfl, rfl⟩ ?_
 rintro s4 o4 h he4 ρ4 τ4 gs4 ⟨hl4, hρ, rfl⟩ hn4
 refine st_es hρ ?_
 refine Z 5 rfl ?_
 refine st_if rfl h (fun h => ?_) (fun h => ?_)
 ·refine Z 5 rfl ?_
  obtain ⟨q5, hf6, h⟩ := h
  refine o_index rfl rfl rfl z_slT37 rfl rfl (hs2.up hl4) rfl hf6 (fun b7 of8 vs hc9 hrep => ?_)
  obtain rfl := hrep
  refine o_loadI (v := .int .i64 q5) rfl rfl rfl z_sc3 rfl (hc9 0 _ rfl) ?_
  refine Z 5 rfl ?_
  obtain ⟨r10, hr11, h⟩ := h
  refine st_call (foot := []) rfl rfl rfl rfl rfl rfl (callV_fn z_en45 (say_Number_ok hr11 τ4 (hT.up hl4))) ?_
  rintro vτ12 τ12 gsτ12 hl13 ⟨rfl, rfl⟩
  obtain ⟨hf14, h⟩ := h
  refine o_sadd rfl rfl rfl (ev_str z_str7) rfl hf14 ?_
  obtain ⟨hf15, h⟩ := h
  refine o_sadd rfl rfl rfl rfl rfl hf15 ?_
  refine Z 7 rfl ?_
  exact hn4 _ _ _ _ h ⟨(hl4.trans hl13), rfl, rfl⟩
 ·refine st_exit rfl ?_
  obtain rfl := he4 _ h
  replace h := hA4
  exact hk3 _ _ _ ⟨s4.1, h, hl4, rfl, rfl⟩
theorem fleet_Fleet_zones_ok {a0 : List (Int × (Int × Int × Int × Int × Int × Bool × Bool × Int × Int × List (Int × Int) × Int × Int)) × List ((Int × Int) × List Int)} {a1 : Int} {ba0 : Nat} {v1 : Value} {g2 : Grp} {v3 : Value} {g4 : Grp} {r : List Int} (h : fleet_Fleet_zones a0 a1 r) (σ : Sto) (ho5 : Mp (Value.int .i64) (rK (kP (kI .i64) (kP (kI .i64) (kP (kI .i64) (kP (kI .i64) (kP (kI .i64) (kP kB (kP kB (kP (kI .i64) (kP (kI .i64) (kP (kSl (kP (kI .i64) (kI .i64))) (kP (kI .i64) (kI .i64))))))))))))) σ v1 a0.1 g2) (ho6 : Mp kPr (rSl (kI .i64)) σ v3 a0.2 g4) :
    Does Tryd.prog 39 [.pointer (some ⟨ba0, 0, none⟩), .int .i64 a1] σ [[(ba0, .cells [v1, v3].toArray 66 (0, 0))], g2, g4] (fun v τ gs => ∃ (v51 : Value), gs = [[(ba0, .cells [v1, v3].toArray 66 (0, 0))], g2, g4] ∧ v51 = v ∧ Sl (kI .i64) τ v51 r) := by
 refine call_of Tryd.func39 Tryd.ntmps39 rfl rfl (fun cs fs => ?_)
 refine Z 9 rfl ?_
 refine st_cut (fun ρ τ7 gs => ∃ (s7 : List Int) (v8 : Value) (g9 : Grp), fleet_Fleet_zones_j1 s7 r ∧ σ.Le τ7 ∧ ESub ρ [(4, .slice none 0 0), (5, v8)] ∧ gs = [[(ba0, .cells #[v1, v3] 66 (0, 0))], g2, g4, g9] ∧ Ow (kI .i64) 3 τ7 v8 s7 g9) ?_ (fun hk7 => ?_)
 ·rintro ρ7 τ7 gs7 ⟨s7, v8, g9, h, hl7, hρ, rfl, ho10⟩
  refine st_es hρ ?_
  refine Z 3 rfl ?_
  obtain ⟨hf13, h⟩ := h
  refine st_ord [3, 0, 0, 0] _ rfl ?_
  refine st_call (foot := [g9]) rfl rfl rfl rfl rfl rfl (callV_fn z_en62 (sortI_does Tryd.sort62 ho10 hf13)) ?_
  rintro vτ11 τ11 gsτ11 hl12 ⟨g14, rfl, rfl, ho15⟩
  refine Z 6 rfl ?_
  refine st_freeze (fun τ16 hl17 hg18 => ?_)
  have hs19 := ho15.freeze hl17 hg18
  obtain rfl := Eq.symm h
  exact st_ret (gs' := [[(ba0, .cells #[v1, v3] 66 (0, 0))], g2, g4]) Tryd.func39 rfl (List.Sublist.refl _) ((hl7.trans hl12).trans hl17) ⟨_, rfl, rfl, hs19⟩
 refine ZZ 6 [0] rfl rfl ?_
 refine o_range (jm := 2) rfl rfl rfl z_map64 rfl ho6 rfl (fun v23 g24 hm25 => ?_)
 refine st_end ?_
 have hL26 := h
 refine st_addNil ?_
 refine st_ord [2, 3, 2, 0, 0] _ rfl ?_
 refine st_loopD hL26 (fun (s26 : List Int × (List ((Int × Int) × List Int))) ρ τ26 gs => σ.Le τ26 ∧ ∃ (v27 : Value) (g28 : Grp) (g30 : Grp), ESub ρ [(1, .int .i64 a1), (4, .slice none 0 0), (5, v27), (11, v23)] ∧ gs = [[(ba0, .cells #[v1, v3] 66 (0, 0))], g4, g2, g28, g30] ∧ Ow (kI .i64) 3 τ26 v27 s26.1 g28 ∧ MIt kPr (rSl (kI .i64)) τ26 v23 v3 s26.2 g30 g4) ⟨Sto.Le.refl _, _, _, _, rfl, rfl, Ow.nil, hm25⟩ ?_
 rintro s26 hD26 ρ26 τ26 gs26 ⟨hl26, v27, g28, g30, hρ, rfl, ho29, hm31⟩
 refine st_es hρ ?_
 refine Z 2 rfl ?_
 refine o_next (j := 4) (jm := 1) rfl rfl rfl kPr_inj rfl hm31 rfl rfl (fun hc => ?_) (fun p32 g33 v34 hp35 hv36 hm37 he38 => ?_)
 ·obtain ⟨o26, h, he26, hn26⟩ := hD26 none hc
  replace h := h.1 rfl
  refine Z 5 rfl ?_
  replace h := he26 _ h
  refine st_ord [0, 1, 0, 0] _ rfl ?_
  exact hk7 _ _ _ ⟨s26.1, _, _, h, hl26, rfl, rfl, ho29⟩
 ·obtain ⟨o26, h, he26, hn26⟩ := hD26 (some p32) hp35
  replace h := h.2 _ rfl
  refine st_gs [[(ba0, .cells #[v1, v3] 66 (0, 0))], g4, g2, g28, g33] rfl ?_
  refine Z 8 rfl ?_
  refine o_entry (j := 4) (jm := 1) (p := p32) rfl rfl rfl rfl he38 rfl rfl (fun v39 hv40 => ?_)
  refine o_extract rfl rfl rfl rfl rfl ?_
  refine o_alloc rfl rfl rfl z_zero79 (fun b41 => ?_)
  refine ZZ 9 [0, 0] rfl rfl ?_
  refine st_if rfl h (fun h => ?_) (fun h => ?_)
  ·refine ZZ 4 [0] rfl rfl ?_
   refine o_litE (eI .i64) [p32.1.2] rfl rfl rfl z_slT37 z_zero3 ⟨rfl, ⟨_, rfl, rfl⟩, trivial⟩ rfl rfl rfl rfl (fun v42 g43 ho44 => ?_)
   obtain ⟨hf48, hf49, h⟩ := h
   refine st_ord [5, 0, 0, 0, 0, 0, 0] _ rfl ?_
   refine o_append (dk := (kI .i64)) (xs := s26.1) (ys := [p32.1.2]) rfl rfl rfl rfl z_slT37 rfl ho29 rfl (Ow.src (j := 1) ho44 rfl) hf48 hf49 (fun v45 g46 ho47 => ?_)
   refine Z 3 rfl ?_
   refine st_ord [3, 3, 3, 0, 2] _ rfl ?_
   exact hn26 _ _ _ _ h ⟨hl26, _, _, _, rfl, rfl, ho47, hm37⟩
  ·refine Z 2 rfl ?_
   refine st_ord [1, 1, 1, 1, 1] _ rfl ?_
   exact hn26 _ _ _ _ h ⟨hl26, _, _, _, rfl, rfl, ho29, hm37⟩
theorem fleet_Fleet_Cells_ok {a0 : List (Int × (Int × Int × Int × Int × Int × Bool × Bool × Int × Int × List (Int × Int) × Int × Int)) × List ((Int × Int) × List Int)} {a1 : Int} {a2 : Int} {ba0 : Nat} {v1 : Value} {g2 : Grp} {v3 : Value} {g4 : Grp} {r : List Int} (h : fleet_Fleet_Cells a0 a1 a2 r) (σ : Sto) (ho5 : Mp (Value.int .i64) (rK (kP (kI .i64) (kP (kI .i64) (kP (kI .i64) (kP (kI .i64) (kP (kI .i64) (kP kB (kP kB (kP (kI .i64) (kP (kI .i64) (kP (kSl (kP (kI .i64) (kI .i64))) (kP (kI .i64) (kI .i64))))))))))))) σ v1 a0.1 g2) (ho6 : Mp kPr (rSl (kI .i64)) σ v3 a0.2 g4) :
    Does Tryd.prog 40 [.pointer (some ⟨ba0, 0, none⟩), .int .i64 a1, .int .i64 a2] σ [[(ba0, .cells [v1, v3].toArray 66 (0, 0))], g2, g4] (fun v τ gs => ∃ (v15 : Value), gs = [[(ba0, .cells [v1, v3].toArray 66 (0, 0))], g2, g4] ∧ v15 = v ∧ Sl (kI .i64) τ v15 r) := by
 refine call_of Tryd.func40 Tryd.ntmps40 rfl rfl (fun cs fs => ?_)
 refine ZZ 21 [0] rfl rfl ?_
 refine o_lookR (rv := (rSl (kI .i64))) (q0 := []) (j := 2) (a := (a1, a2)) rfl rfl rfl z_map64 z_keyP79 z_zeroV37 Sl.nil rfl ho6 rfl rfl (fun v7 hv8 => ?_)
 obtain ⟨r9, hr10, h⟩ := h
 refine st_call (foot := []) rfl rfl rfl rfl rfl rfl (callV_fn z_en55 (slices_Clone_int_int_ok hr10 σ hv8)) ?_
 rintro vτ11 τ11 gsτ11 hl12 ⟨v13, rfl, rfl, hs14⟩
 refine Z 2 rfl ?_
 obtain rfl := Eq.symm h
 exact st_ret (gs' := [[(ba0, .cells #[v1, v3] 66 (0, 0))], g2, g4]) Tryd.func40 rfl (List.Sublist.refl _) hl12 ⟨_, rfl, rfl, hs14⟩
end Go.Rel
