import Derived.Test.YtnlghjmngfgmcabGreatDoorURel
import Derived.Test.YtnlghjmngfgmcabGreatDoorUFacts
/-! The walks. -/
set_option linter.unusedVariables false
set_option linter.unusedSimpArgs false
set_option maxRecDepth 4000
set_option maxHeartbeats 4000000
namespace Go.Rel
open Go Go.Eng Go.Proofs
theorem law17_Cut_ok {a0 : Int × List Int × List (Int × Int) × List Int × ByteArray × ByteArray} {v1 : Value} {v2 : Value} {r : (Int × List Int × List (Int × Int) × List Int × ByteArray × ByteArray)} (h : law17_Cut a0 r) (σ : Sto) (hs3 : Sl (kP (kI .i64) (kI .i64)) σ v1 a0.2.2.1) (hs4 : Sl (kI .i64) σ v2 a0.2.2.2.1) :
    Does Tryz.prog 13 [.agg [.int .i64 a0.1, .int .i64 (a0.2.1.getD 0 0), .int .i64 (a0.2.1.getD 1 0), .int .i64 (a0.2.1.getD 2 0), .int .i64 (a0.2.1.getD 3 0), .int .i64 (a0.2.1.getD 4 0), .int .i64 (a0.2.1.getD 5 0), v1, v2, .string a0.2.2.2.2.1, .string a0.2.2.2.2.2].toArray] σ [] (fun v τ gs => ∃ (v23 : Value) (v24 : Value), gs = [] ∧ .agg [.int .i64 r.1, .int .i64 (r.2.1.getD 0 0), .int .i64 (r.2.1.getD 1 0), .int .i64 (r.2.1.getD 2 0), .int .i64 (r.2.1.getD 3 0), .int .i64 (r.2.1.getD 4 0), .int .i64 (r.2.1.getD 5 0), v23, v24, .string r.2.2.2.2.1, .string r.2.2.2.2.2].toArray = v ∧ Sl (kP (kI .i64) (kI .i64)) τ v23 r.2.2.1 ∧ Sl (kI .i64) τ v24 r.2.2.2.1) := by
 refine call_of Tryz.func13 Tryz.ntmps13 rfl rfl (fun cs fs => ?_)
 refine Z 2 rfl ?_
 refine o_box (cs := [.int .i64 a0.1, .int .i64 (a0.2.1.getD 0 0), .int .i64 (a0.2.1.getD 1 0), .int .i64 (a0.2.1.getD 2 0), .int .i64 (a0.2.1.getD 3 0), .int .i64 (a0.2.1.getD 4 0), .int .i64 (a0.2.1.getD 5 0), v1, v2, .string a0.2.2.2.2.1, .string a0.2.2.2.2.2]) rfl rfl rfl rfl rfl (fun b5 => ?_)
 refine o_alloc rfl rfl rfl z_zero38 (fun b6 => ?_)
 refine Z 2 rfl ?_
 obtain ⟨hf7, hf8, hf11, hf12, h⟩ := h
 refine st_d41 [[(b6, .cells #[.int .i64 0, .int .i64 0, .int .i64 0, .int .i64 0, .int .i64 0, .int .i64 0, .int .i64 0, .slice none 0 0, .slice none 0 0, .string (bstr []), .string (bstr [])] 38 (0, 0))]] [[(b5, .cells #[.int .i64 a0.1, .int .i64 (a0.2.1.getD 0 0), .int .i64 (a0.2.1.getD 1 0), .int .i64 (a0.2.1.getD 2 0), .int .i64 (a0.2.1.getD 3 0), .int .i64 (a0.2.1.getD 4 0), .int .i64 (a0.2.1.getD 5 0), v1, v2, .string a0.2.2.2.2.1, .string a0.2.2.2.2.2] 38 (0, 0))]] 16 1 [none, none, none, none, none, none, none, none, none, none, none, none, none, none, none, some (0, 0)] [none, some (0, 0), none, some (0, 0), none, none, none, none, some (0, 0), none, some (0, 0), none, none, none, none, none] [[none, none]] [.v (.pointer (some ⟨b5, 7, none⟩)), .v (v1), .v (.pointer (some ⟨b5, 7, none⟩)), .v (v1), .v (.int .i64 (a0.2.2.1.length : Int)), .v (.int .i64 (min (a0.2.2.1.length : Int) 40)), .t fun τ v => ∃ (v9 : Value), (v9 : Value) = v ∧ Sl (kP (kI .i64) (kI .i64)) τ v9 ((a0.2.2.1.drop (0 : Int).toNat).take (((min (a0.2.2.1.length : Int) 40) : Int) - 0).toNat), .v (.pointer (some ⟨b5, 8, none⟩)), .v (v2), .v (.pointer (some ⟨b5, 8, none⟩)), .v (v2), .v (.int .i64 (a0.2.2.2.1.length : Int)), .v (.int .i64 (min (a0.2.2.2.1.length : Int) 40)), .t fun τ v => ∃ (v13 : Value), (v13 : Value) = v ∧ Sl (kI .i64) τ v13 ((a0.2.2.2.1.drop (0 : Int).toNat).take (((min (a0.2.2.2.1.length : Int) 40) : Int) - 0).toNat), .v (.pointer (some ⟨b5, 7, none⟩)), .t fun _ _ => True] [[fun τ u F => F = [[(b5, .cells #[.int .i64 a0.1, .int .i64 (a0.2.1.getD 0 0), .int .i64 (a0.2.1.getD 1 0), .int .i64 (a0.2.1.getD 2 0), .int .i64 (a0.2.1.getD 3 0), .int .i64 (a0.2.1.getD 4 0), .int .i64 (a0.2.1.getD 5 0), v1, v2, .string a0.2.2.2.2.1, .string a0.2.2.2.2.2] 38 (0, 0))]], fun τ u F => ∃ (v15 : Value), F = [[(b5, .cells #[.int .i64 a0.1, .int .i64 (a0.2.1.getD 0 0), .int .i64 (a0.2.1.getD 1 0), .int .i64 (a0.2.1.getD 2 0), .int .i64 (a0.2.1.getD 3 0), .int .i64 (a0.2.1.getD 4 0), .int .i64 (a0.2.1.getD 5 0), v15, v2, .string a0.2.2.2.2.1, .string a0.2.2.2.2.2] 38 (0, 0))]] ∧ Sl (kP (kI .i64) (kI .i64)) τ v15 ((a0.2.2.1.drop (0 : Int).toNat).take (((min (a0.2.2.1.length : Int) 40) : Int) - 0).toNat)]] rfl z_mix rfl ⟨fun _ _ _ hl ⟨v9, hv, hs10⟩ => ⟨v9, hv, hs10.up hl⟩, ⟨fun _ _ _ hl ⟨v13, hv, hs14⟩ => ⟨v13, hv, hs14.up hl⟩, ⟨fun _ _ _ _ _ => trivial, trivial⟩⟩⟩ ⟨⟨fun _ _ _ _ hl h => h, ⟨fun _ _ _ _ hl h => (let ⟨v15, hF, hs16⟩ := h; ⟨v15, hF, hs16.up hl⟩), trivial⟩⟩, trivial⟩ rfl rfl ?_ (allB_cons (allB_cons (allB_cons (allB_cons (allB_cons (allB_cons (allB_cons (allB_cons (allB_cons (allB_cons (allB_cons (allB_cons (allB_cons (allB_cons (allB_cons (allB_cons allB_nil (p4 dA)) ?_) (p4 dA)) ?_) ?_) (p4 dA)) ?_) (p4 dA)) ?_) (p4 dA)) ?_) ?_) (p4 dA)) ?_) (p4 dA)) ?_) ?_
 ·exact rfl
 ·intro ρ' τ u Fv pool rs hl hI hu hd hout hw hk
  obtain ⟨_, e0, rfl⟩ := hd 0 rfl _ rfl
  have hI0 := hI
  obtain rfl := hI
  refine st_gs [[(b6, .cells #[.int .i64 0, .int .i64 0, .int .i64 0, .int .i64 0, .int .i64 0, .int .i64 0, .int .i64 0, .slice none 0 0, .slice none 0 0, .string (bstr []), .string (bstr [])] 38 (0, 0))], [(b5, .cells #[.int .i64 a0.1, .int .i64 (a0.2.1.getD 0 0), .int .i64 (a0.2.1.getD 1 0), .int .i64 (a0.2.1.getD 2 0), .int .i64 (a0.2.1.getD 3 0), .int .i64 (a0.2.1.getD 4 0), .int .i64 (a0.2.1.getD 5 0), v1, v2, .string a0.2.2.2.2.1, .string a0.2.2.2.2.2] 38 (0, 0))], pool] rfl ?_
  refine o_load (j := 1) (v := v1) rfl rfl rfl z_sc36 e0 rfl rfl ?_
  exact hk _ _ (Sto.Le.refl _) rfl
 ·intro ρ' τ u Fv pool rs hl hI hu hd hout hw hk
  obtain ⟨_, e2, rfl⟩ := hd 2 rfl _ rfl
  have hI0 := hI
  obtain rfl := hI
  refine st_gs [[(b6, .cells #[.int .i64 0, .int .i64 0, .int .i64 0, .int .i64 0, .int .i64 0, .int .i64 0, .int .i64 0, .slice none 0 0, .slice none 0 0, .string (bstr []), .string (bstr [])] 38 (0, 0))], [(b5, .cells #[.int .i64 a0.1, .int .i64 (a0.2.1.getD 0 0), .int .i64 (a0.2.1.getD 1 0), .int .i64 (a0.2.1.getD 2 0), .int .i64 (a0.2.1.getD 3 0), .int .i64 (a0.2.1.getD 4 0), .int .i64 (a0.2.1.getD 5 0), v1, v2, .string a0.2.2.2.2.1, .string a0.2.2.2.2.2] 38 (0, 0))], pool] rfl ?_
  refine o_load (j := 1) (v := v1) rfl rfl rfl z_sc36 e2 rfl rfl ?_
  exact hk _ _ (Sto.Le.refl _) rfl
 ·intro ρ' τ pool rs hl hd hout hw hk
  obtain ⟨_, e3, rfl⟩ := hd 3 rfl _ rfl
  refine o_lenI rfl rfl rfl z_slT36 e3 (hs3.up hl) ?_
  exact hk _ _ (Sto.Le.refl _) rfl
 ·intro ρ' τ pool rs hl hd hout hw hk
  obtain ⟨_, e1, rfl⟩ := hd 1 rfl _ rfl
  obtain ⟨_, e5, rfl⟩ := hd 5 rfl _ rfl
  refine o_slice (L := 0) (H := (min (a0.2.2.1.length : Int) 40)) rfl rfl rfl z_slT36 rfl e1 (hs3.up hl) rfl ⟨_, e5⟩ (by decide) hf7 hf8 trivial (by simp) (fun v9 hs10 => ?_)
  exact hk _ _ (Sto.Le.refl _) ⟨v9, rfl, hs10⟩
 ·intro ρ' τ u Fv pool rs hl hI hu hd hout hw hk
  obtain ⟨_, e7, rfl⟩ := hd 7 rfl _ rfl
  have hI0 := hI
  obtain rfl := hI
  refine st_gs [[(b6, .cells #[.int .i64 0, .int .i64 0, .int .i64 0, .int .i64 0, .int .i64 0, .int .i64 0, .int .i64 0, .slice none 0 0, .slice none 0 0, .string (bstr []), .string (bstr [])] 38 (0, 0))], [(b5, .cells #[.int .i64 a0.1, .int .i64 (a0.2.1.getD 0 0), .int .i64 (a0.2.1.getD 1 0), .int .i64 (a0.2.1.getD 2 0), .int .i64 (a0.2.1.getD 3 0), .int .i64 (a0.2.1.getD 4 0), .int .i64 (a0.2.1.getD 5 0), v1, v2, .string a0.2.2.2.2.1, .string a0.2.2.2.2.2] 38 (0, 0))], pool] rfl ?_
  refine o_load (j := 1) (v := v2) rfl rfl rfl z_sc27 e7 rfl rfl ?_
  exact hk _ _ (Sto.Le.refl _) rfl
 ·intro ρ' τ u Fv pool rs hl hI hu hd hout hw hk
  obtain ⟨_, e9, rfl⟩ := hd 9 rfl _ rfl
  have hI0 := hI
  obtain rfl := hI
  refine st_gs [[(b6, .cells #[.int .i64 0, .int .i64 0, .int .i64 0, .int .i64 0, .int .i64 0, .int .i64 0, .int .i64 0, .slice none 0 0, .slice none 0 0, .string (bstr []), .string (bstr [])] 38 (0, 0))], [(b5, .cells #[.int .i64 a0.1, .int .i64 (a0.2.1.getD 0 0), .int .i64 (a0.2.1.getD 1 0), .int .i64 (a0.2.1.getD 2 0), .int .i64 (a0.2.1.getD 3 0), .int .i64 (a0.2.1.getD 4 0), .int .i64 (a0.2.1.getD 5 0), v1, v2, .string a0.2.2.2.2.1, .string a0.2.2.2.2.2] 38 (0, 0))], pool] rfl ?_
  refine o_load (j := 1) (v := v2) rfl rfl rfl z_sc27 e9 rfl rfl ?_
  exact hk _ _ (Sto.Le.refl _) rfl
 ·intro ρ' τ pool rs hl hd hout hw hk
  obtain ⟨_, e10, rfl⟩ := hd 10 rfl _ rfl
  refine o_lenI rfl rfl rfl z_slT27 e10 (hs4.up hl) ?_
  exact hk _ _ (Sto.Le.refl _) rfl
 ·intro ρ' τ pool rs hl hd hout hw hk
  obtain ⟨_, e8, rfl⟩ := hd 8 rfl _ rfl
  obtain ⟨_, e12, rfl⟩ := hd 12 rfl _ rfl
  refine o_slice (L := 0) (H := (min (a0.2.2.2.1.length : Int) 40)) rfl rfl rfl z_slT27 rfl e8 (hs4.up hl) rfl ⟨_, e12⟩ (by decide) hf11 hf12 trivial (by simp) (fun v13 hs14 => ?_)
  exact hk _ _ (Sto.Le.refl _) ⟨v13, rfl, hs14⟩
 ·intro ρ' τ u Fv pool rs hl hI hu hd hout hw hk
  obtain ⟨_, e6, v9, rfl, hs10⟩ := hd 6 rfl _ rfl
  obtain ⟨_, e14, rfl⟩ := hd 14 rfl _ rfl
  have hI0 := hI
  obtain rfl := hI
  refine st_gs [[(b6, .cells #[.int .i64 0, .int .i64 0, .int .i64 0, .int .i64 0, .int .i64 0, .int .i64 0, .int .i64 0, .slice none 0 0, .slice none 0 0, .string (bstr []), .string (bstr [])] 38 (0, 0))], [(b5, .cells #[.int .i64 a0.1, .int .i64 (a0.2.1.getD 0 0), .int .i64 (a0.2.1.getD 1 0), .int .i64 (a0.2.1.getD 2 0), .int .i64 (a0.2.1.getD 3 0), .int .i64 (a0.2.1.getD 4 0), .int .i64 (a0.2.1.getD 5 0), v1, v2, .string a0.2.2.2.2.1, .string a0.2.2.2.2.2] 38 (0, 0))], pool] rfl ?_
  refine o_store (j := 1) (vs := [v9]) (cs' := [.int .i64 a0.1, .int .i64 (a0.2.1.getD 0 0), .int .i64 (a0.2.1.getD 1 0), .int .i64 (a0.2.1.getD 2 0), .int .i64 (a0.2.1.getD 3 0), .int .i64 (a0.2.1.getD 4 0), .int .i64 (a0.2.1.getD 5 0), v9, v2, .string a0.2.2.2.2.1, .string a0.2.2.2.2.2]) rfl rfl rfl z_size36 e14 e6 (oneL_sl hs10) (ones_cons hs10.one' ones_nil) rfl rfl rfl ?_
  refine st_gs [[(b6, .cells #[.int .i64 0, .int .i64 0, .int .i64 0, .int .i64 0, .int .i64 0, .int .i64 0, .int .i64 0, .slice none 0 0, .slice none 0 0, .string (bstr []), .string (bstr [])] 38 (0, 0))], [(b5, .cells #[.int .i64 a0.1, .int .i64 (a0.2.1.getD 0 0), .int .i64 (a0.2.1.getD 1 0), .int .i64 (a0.2.1.getD 2 0), .int .i64 (a0.2.1.getD 3 0), .int .i64 (a0.2.1.getD 4 0), .int .i64 (a0.2.1.getD 5 0), v9, v2, .string a0.2.2.2.2.1, .string a0.2.2.2.2.2] 38 (0, 0))], pool] rfl ?_
  exact hk _ _ [[(b5, .cells #[.int .i64 a0.1, .int .i64 (a0.2.1.getD 0 0), .int .i64 (a0.2.1.getD 1 0), .int .i64 (a0.2.1.getD 2 0), .int .i64 (a0.2.1.getD 3 0), .int .i64 (a0.2.1.getD 4 0), .int .i64 (a0.2.1.getD 5 0), v9, v2, .string a0.2.2.2.2.1, .string a0.2.2.2.2.2] 38 (0, 0))]] (Sto.Le.refl _) trivial (by exact ⟨v9, rfl, hs10⟩)
 intro ρ' τ17 vals u Fv hl17 hI hu hv hout
 obtain ⟨l13, v13, t13, hs14⟩ := hv 13 (by decide)
 replace l13 := l13 _ rfl
 replace l13 : Eng.look ρ' 16 = some (v13) := l13.trans (congrArg some (Eq.symm t13))
 obtain ⟨v15, rfl, hs16⟩ := hI
 refine st_gs [[(b6, .cells #[.int .i64 0, .int .i64 0, .int .i64 0, .int .i64 0, .int .i64 0, .int .i64 0, .int .i64 0, .slice none 0 0, .slice none 0 0, .string (bstr []), .string (bstr [])] 38 (0, 0))], [(b5, .cells #[.int .i64 a0.1, .int .i64 (a0.2.1.getD 0 0), .int .i64 (a0.2.1.getD 1 0), .int .i64 (a0.2.1.getD 2 0), .int .i64 (a0.2.1.getD 3 0), .int .i64 (a0.2.1.getD 4 0), .int .i64 (a0.2.1.getD 5 0), v15, v2, .string a0.2.2.2.2.1, .string a0.2.2.2.2.2] 38 (0, 0))]] rfl ?_
 refine st_env (ρ' := [(16, v13), (1, .pointer (some ⟨b5, 0, none⟩)), (2, .pointer (some ⟨b6, 0, none⟩))]) ⟨l13, (hout 1 rfl).trans rfl, (hout 2 rfl).trans rfl, trivial⟩ ?_
 refine o_fieldAddr rfl rfl rfl z_field38_3 rfl ?_
 refine o_store (j := 1) (vs := [v13]) (cs' := [.int .i64 a0.1, .int .i64 (a0.2.1.getD 0 0), .int .i64 (a0.2.1.getD 1 0), .int .i64 (a0.2.1.getD 2 0), .int .i64 (a0.2.1.getD 3 0), .int .i64 (a0.2.1.getD 4 0), .int .i64 (a0.2.1.getD 5 0), v15, v13, .string a0.2.2.2.2.1, .string a0.2.2.2.2.2]) rfl rfl rfl z_size27 rfl rfl (oneL_sl hs14) (ones_cons hs14.one' ones_nil) rfl rfl rfl ?_
 refine st_gs [[(b6, .cells #[.int .i64 0, .int .i64 0, .int .i64 0, .int .i64 0, .int .i64 0, .int .i64 0, .int .i64 0, .slice none 0 0, .slice none 0 0, .string (bstr []), .string (bstr [])] 38 (0, 0))], [(b5, .cells #[.int .i64 a0.1, .int .i64 (a0.2.1.getD 0 0), .int .i64 (a0.2.1.getD 1 0), .int .i64 (a0.2.1.getD 2 0), .int .i64 (a0.2.1.getD 3 0), .int .i64 (a0.2.1.getD 4 0), .int .i64 (a0.2.1.getD 5 0), v15, v13, .string a0.2.2.2.2.1, .string a0.2.2.2.2.2] 38 (0, 0))]] rfl ?_
 refine Z 2 rfl ?_
 obtain ⟨hf18, hf19, hf20, hf21, h⟩ := h
 refine st_d41 [[(b6, .cells #[.int .i64 0, .int .i64 0, .int .i64 0, .int .i64 0, .int .i64 0, .int .i64 0, .int .i64 0, .slice none 0 0, .slice none 0 0, .string (bstr []), .string (bstr [])] 38 (0, 0))]] [[(b5, .cells #[.int .i64 a0.1, .int .i64 (a0.2.1.getD 0 0), .int .i64 (a0.2.1.getD 1 0), .int .i64 (a0.2.1.getD 2 0), .int .i64 (a0.2.1.getD 3 0), .int .i64 (a0.2.1.getD 4 0), .int .i64 (a0.2.1.getD 5 0), v15, v13, .string a0.2.2.2.2.1, .string a0.2.2.2.2.2] 38 (0, 0))]] 16 1 [none, none, none, none, none, none, none, none, none, none, none, none, none, none, none, some (0, 0)] [none, some (0, 0), none, some (0, 0), none, none, none, none, some (0, 0), none, some (0, 0), none, none, none, none, none] [[none, none]] [.v (.pointer (some ⟨b5, 9, none⟩)), .v (.string a0.2.2.2.2.1), .v (.pointer (some ⟨b5, 9, none⟩)), .v (.string a0.2.2.2.2.1), .v (.int .i64 (a0.2.2.2.2.1.size : Int)), .v (.int .i64 (min (a0.2.2.2.2.1.size : Int) 80)), .v (.string (a0.2.2.2.2.1.extract 0 (min (a0.2.2.2.2.1.size : Int) 80).toNat)), .v (.pointer (some ⟨b5, 10, none⟩)), .v (.string a0.2.2.2.2.2), .v (.pointer (some ⟨b5, 10, none⟩)), .v (.string a0.2.2.2.2.2), .v (.int .i64 (a0.2.2.2.2.2.size : Int)), .v (.int .i64 (min (a0.2.2.2.2.2.size : Int) 80)), .v (.string (a0.2.2.2.2.2.extract 0 (min (a0.2.2.2.2.2.size : Int) 80).toNat)), .v (.pointer (some ⟨b5, 9, none⟩)), .t fun _ _ => True] [[fun τ u F => F = [[(b5, .cells #[.int .i64 a0.1, .int .i64 (a0.2.1.getD 0 0), .int .i64 (a0.2.1.getD 1 0), .int .i64 (a0.2.1.getD 2 0), .int .i64 (a0.2.1.getD 3 0), .int .i64 (a0.2.1.getD 4 0), .int .i64 (a0.2.1.getD 5 0), v15, v13, .string a0.2.2.2.2.1, .string a0.2.2.2.2.2] 38 (0, 0))]], fun τ u F => F = [[(b5, .cells #[.int .i64 a0.1, .int .i64 (a0.2.1.getD 0 0), .int .i64 (a0.2.1.getD 1 0), .int .i64 (a0.2.1.getD 2 0), .int .i64 (a0.2.1.getD 3 0), .int .i64 (a0.2.1.getD 4 0), .int .i64 (a0.2.1.getD 5 0), v15, v13, .string (a0.2.2.2.2.1.extract 0 (min (a0.2.2.2.2.1.size : Int) 80).toNat), .string a0.2.2.2.2.2] 38 (0, 0))]]]] rfl z_mix rfl ⟨fun _ _ _ _ _ => trivial, trivial⟩ ⟨⟨fun _ _ _ _ hl h => h, ⟨fun _ _ _ _ hl h => h, trivial⟩⟩, trivial⟩ rfl rfl ?_ (allB_cons (allB_cons (allB_cons (allB_cons (allB_cons (allB_cons (allB_cons (allB_cons (allB_cons (allB_cons (allB_cons (allB_cons (allB_cons (allB_cons (allB_cons (allB_cons allB_nil (p4 dA)) ?_) (p4 dA)) ?_) (p4 dA)) (p4 dA)) ?_) (p4 dA)) ?_) (p4 dA)) ?_) (p4 dA)) (p4 dA)) ?_) (p4 dA)) ?_) ?_
 ·exact rfl
 ·intro ρ' τ u Fv pool rs hl hI hu hd hout hw hk
  obtain ⟨_, e0, rfl⟩ := hd 0 rfl _ rfl
  have hI0 := hI
  obtain rfl := hI
  refine st_gs [[(b6, .cells #[.int .i64 0, .int .i64 0, .int .i64 0, .int .i64 0, .int .i64 0, .int .i64 0, .int .i64 0, .slice none 0 0, .slice none 0 0, .string (bstr []), .string (bstr [])] 38 (0, 0))], [(b5, .cells #[.int .i64 a0.1, .int .i64 (a0.2.1.getD 0 0), .int .i64 (a0.2.1.getD 1 0), .int .i64 (a0.2.1.getD 2 0), .int .i64 (a0.2.1.getD 3 0), .int .i64 (a0.2.1.getD 4 0), .int .i64 (a0.2.1.getD 5 0), v15, v13, .string a0.2.2.2.2.1, .string a0.2.2.2.2.2] 38 (0, 0))], pool] rfl ?_
  refine o_load (j := 1) (v := .string a0.2.2.2.2.1) rfl rfl rfl z_sc9 e0 rfl rfl ?_
  exact hk _ _ (Sto.Le.refl _) rfl
 ·intro ρ' τ u Fv pool rs hl hI hu hd hout hw hk
  obtain ⟨_, e2, rfl⟩ := hd 2 rfl _ rfl
  have hI0 := hI
  obtain rfl := hI
  refine st_gs [[(b6, .cells #[.int .i64 0, .int .i64 0, .int .i64 0, .int .i64 0, .int .i64 0, .int .i64 0, .int .i64 0, .slice none 0 0, .slice none 0 0, .string (bstr []), .string (bstr [])] 38 (0, 0))], [(b5, .cells #[.int .i64 a0.1, .int .i64 (a0.2.1.getD 0 0), .int .i64 (a0.2.1.getD 1 0), .int .i64 (a0.2.1.getD 2 0), .int .i64 (a0.2.1.getD 3 0), .int .i64 (a0.2.1.getD 4 0), .int .i64 (a0.2.1.getD 5 0), v15, v13, .string a0.2.2.2.2.1, .string a0.2.2.2.2.2] 38 (0, 0))], pool] rfl ?_
  refine o_load (j := 1) (v := .string a0.2.2.2.2.1) rfl rfl rfl z_sc9 e2 rfl rfl ?_
  exact hk _ _ (Sto.Le.refl _) rfl
 ·intro ρ' τ pool rs hl hd hout hw hk
  obtain ⟨_, e1, rfl⟩ := hd 1 rfl _ rfl
  obtain ⟨_, e5, rfl⟩ := hd 5 rfl _ rfl
  refine o_sliceSh rfl rfl rfl Tryz.underlying9 e1 e5 hf18 hf19 ?_
  exact hk _ _ (Sto.Le.refl _) rfl
 ·intro ρ' τ u Fv pool rs hl hI hu hd hout hw hk
  obtain ⟨_, e7, rfl⟩ := hd 7 rfl _ rfl
  have hI0 := hI
  obtain rfl := hI
  refine st_gs [[(b6, .cells #[.int .i64 0, .int .i64 0, .int .i64 0, .int .i64 0, .int .i64 0, .int .i64 0, .int .i64 0, .slice none 0 0, .slice none 0 0, .string (bstr []), .string (bstr [])] 38 (0, 0))], [(b5, .cells #[.int .i64 a0.1, .int .i64 (a0.2.1.getD 0 0), .int .i64 (a0.2.1.getD 1 0), .int .i64 (a0.2.1.getD 2 0), .int .i64 (a0.2.1.getD 3 0), .int .i64 (a0.2.1.getD 4 0), .int .i64 (a0.2.1.getD 5 0), v15, v13, .string a0.2.2.2.2.1, .string a0.2.2.2.2.2] 38 (0, 0))], pool] rfl ?_
  refine o_load (j := 1) (v := .string a0.2.2.2.2.2) rfl rfl rfl z_sc9 e7 rfl rfl ?_
  exact hk _ _ (Sto.Le.refl _) rfl
 ·intro ρ' τ u Fv pool rs hl hI hu hd hout hw hk
  obtain ⟨_, e9, rfl⟩ := hd 9 rfl _ rfl
  have hI0 := hI
  obtain rfl := hI
  refine st_gs [[(b6, .cells #[.int .i64 0, .int .i64 0, .int .i64 0, .int .i64 0, .int .i64 0, .int .i64 0, .int .i64 0, .slice none 0 0, .slice none 0 0, .string (bstr []), .string (bstr [])] 38 (0, 0))], [(b5, .cells #[.int .i64 a0.1, .int .i64 (a0.2.1.getD 0 0), .int .i64 (a0.2.1.getD 1 0), .int .i64 (a0.2.1.getD 2 0), .int .i64 (a0.2.1.getD 3 0), .int .i64 (a0.2.1.getD 4 0), .int .i64 (a0.2.1.getD 5 0), v15, v13, .string a0.2.2.2.2.1, .string a0.2.2.2.2.2] 38 (0, 0))], pool] rfl ?_
  refine o_load (j := 1) (v := .string a0.2.2.2.2.2) rfl rfl rfl z_sc9 e9 rfl rfl ?_
  exact hk _ _ (Sto.Le.refl _) rfl
 ·intro ρ' τ pool rs hl hd hout hw hk
  obtain ⟨_, e8, rfl⟩ := hd 8 rfl _ rfl
  obtain ⟨_, e12, rfl⟩ := hd 12 rfl _ rfl
  refine o_sliceSh rfl rfl rfl Tryz.underlying9 e8 e12 hf20 hf21 ?_
  exact hk _ _ (Sto.Le.refl _) rfl
 ·intro ρ' τ u Fv pool rs hl hI hu hd hout hw hk
  obtain ⟨_, e6, rfl⟩ := hd 6 rfl _ rfl
  obtain ⟨_, e14, rfl⟩ := hd 14 rfl _ rfl
  have hI0 := hI
  obtain rfl := hI
  refine st_gs [[(b6, .cells #[.int .i64 0, .int .i64 0, .int .i64 0, .int .i64 0, .int .i64 0, .int .i64 0, .int .i64 0, .slice none 0 0, .slice none 0 0, .string (bstr []), .string (bstr [])] 38 (0, 0))], [(b5, .cells #[.int .i64 a0.1, .int .i64 (a0.2.1.getD 0 0), .int .i64 (a0.2.1.getD 1 0), .int .i64 (a0.2.1.getD 2 0), .int .i64 (a0.2.1.getD 3 0), .int .i64 (a0.2.1.getD 4 0), .int .i64 (a0.2.1.getD 5 0), v15, v13, .string a0.2.2.2.2.1, .string a0.2.2.2.2.2] 38 (0, 0))], pool] rfl ?_
  refine o_store (j := 1) (vs := [.string (a0.2.2.2.2.1.extract 0 (min (a0.2.2.2.2.1.size : Int) 80).toNat)]) (cs' := [.int .i64 a0.1, .int .i64 (a0.2.1.getD 0 0), .int .i64 (a0.2.1.getD 1 0), .int .i64 (a0.2.1.getD 2 0), .int .i64 (a0.2.1.getD 3 0), .int .i64 (a0.2.1.getD 4 0), .int .i64 (a0.2.1.getD 5 0), v15, v13, .string (a0.2.2.2.2.1.extract 0 (min (a0.2.2.2.2.1.size : Int) 80).toNat), .string a0.2.2.2.2.2]) rfl rfl rfl z_size9 e14 e6 rfl (ones_cons rfl ones_nil) rfl rfl rfl ?_
  refine st_gs [[(b6, .cells #[.int .i64 0, .int .i64 0, .int .i64 0, .int .i64 0, .int .i64 0, .int .i64 0, .int .i64 0, .slice none 0 0, .slice none 0 0, .string (bstr []), .string (bstr [])] 38 (0, 0))], [(b5, .cells #[.int .i64 a0.1, .int .i64 (a0.2.1.getD 0 0), .int .i64 (a0.2.1.getD 1 0), .int .i64 (a0.2.1.getD 2 0), .int .i64 (a0.2.1.getD 3 0), .int .i64 (a0.2.1.getD 4 0), .int .i64 (a0.2.1.getD 5 0), v15, v13, .string (a0.2.2.2.2.1.extract 0 (min (a0.2.2.2.2.1.size : Int) 80).toNat), .string a0.2.2.2.2.2] 38 (0, 0))], pool] rfl ?_
  exact hk _ _ [[(b5, .cells #[.int .i64 a0.1, .int .i64 (a0.2.1.getD 0 0), .int .i64 (a0.2.1.getD 1 0), .int .i64 (a0.2.1.getD 2 0), .int .i64 (a0.2.1.getD 3 0), .int .i64 (a0.2.1.getD 4 0), .int .i64 (a0.2.1.getD 5 0), v15, v13, .string (a0.2.2.2.2.1.extract 0 (min (a0.2.2.2.2.1.size : Int) 80).toNat), .string a0.2.2.2.2.2] 38 (0, 0))]] (Sto.Le.refl _) trivial (by exact rfl)
 intro ρ' τ22 vals u Fv hl22 hI hu hv hout
 obtain rfl := hI
 refine st_gs [[(b6, .cells #[.int .i64 0, .int .i64 0, .int .i64 0, .int .i64 0, .int .i64 0, .int .i64 0, .int .i64 0, .slice none 0 0, .slice none 0 0, .string (bstr []), .string (bstr [])] 38 (0, 0))], [(b5, .cells #[.int .i64 a0.1, .int .i64 (a0.2.1.getD 0 0), .int .i64 (a0.2.1.getD 1 0), .int .i64 (a0.2.1.getD 2 0), .int .i64 (a0.2.1.getD 3 0), .int .i64 (a0.2.1.getD 4 0), .int .i64 (a0.2.1.getD 5 0), v15, v13, .string (a0.2.2.2.2.1.extract 0 (min (a0.2.2.2.2.1.size : Int) 80).toNat), .string a0.2.2.2.2.2] 38 (0, 0))]] rfl ?_
 refine st_env (ρ' := [(32, .string (a0.2.2.2.2.2.extract 0 (min (a0.2.2.2.2.2.size : Int) 80).toNat)), (1, .pointer (some ⟨b5, 0, none⟩)), (2, .pointer (some ⟨b6, 0, none⟩))]) ⟨(lv4 hv 13 rfl rfl rfl), (hout 1 rfl).trans rfl, (hout 2 rfl).trans rfl, trivial⟩ ?_
 refine ZZ 6 [1, 1] rfl rfl ?_
 refine o_store (j := 0) (vs := [.int .i64 a0.1, .int .i64 (a0.2.1.getD 0 0), .int .i64 (a0.2.1.getD 1 0), .int .i64 (a0.2.1.getD 2 0), .int .i64 (a0.2.1.getD 3 0), .int .i64 (a0.2.1.getD 4 0), .int .i64 (a0.2.1.getD 5 0), v15, v13, .string (a0.2.2.2.2.1.extract 0 (min (a0.2.2.2.2.1.size : Int) 80).toNat), .string (a0.2.2.2.2.2.extract 0 (min (a0.2.2.2.2.2.size : Int) 80).toNat)]) (cs' := [.int .i64 a0.1, .int .i64 (a0.2.1.getD 0 0), .int .i64 (a0.2.1.getD 1 0), .int .i64 (a0.2.1.getD 2 0), .int .i64 (a0.2.1.getD 3 0), .int .i64 (a0.2.1.getD 4 0), .int .i64 (a0.2.1.getD 5 0), v15, v13, .string (a0.2.2.2.2.1.extract 0 (min (a0.2.2.2.2.1.size : Int) 80).toNat), .string (a0.2.2.2.2.2.extract 0 (min (a0.2.2.2.2.2.size : Int) 80).toNat)]) rfl rfl rfl z_size38 rfl rfl rfl (ones_cons rfl (ones_cons rfl (ones_cons rfl (ones_cons rfl (ones_cons rfl (ones_cons rfl (ones_cons rfl (ones_cons (hs16.up hl22).one' (ones_cons (hs14.up hl22).one' (ones_cons rfl (ones_cons rfl ones_nil))))))))))) rfl rfl rfl ?_
 refine st_gs [[(b6, .cells #[.int .i64 a0.1, .int .i64 (a0.2.1.getD 0 0), .int .i64 (a0.2.1.getD 1 0), .int .i64 (a0.2.1.getD 2 0), .int .i64 (a0.2.1.getD 3 0), .int .i64 (a0.2.1.getD 4 0), .int .i64 (a0.2.1.getD 5 0), v15, v13, .string (a0.2.2.2.2.1.extract 0 (min (a0.2.2.2.2.1.size : Int) 80).toNat), .string (a0.2.2.2.2.2.extract 0 (min (a0.2.2.2.2.2.size : Int) 80).toNat)] 38 (0, 0))], [(b5, .cells #[.int .i64 a0.1, .int .i64 (a0.2.1.getD 0 0), .int .i64 (a0.2.1.getD 1 0), .int .i64 (a0.2.1.getD 2 0), .int .i64 (a0.2.1.getD 3 0), .int .i64 (a0.2.1.getD 4 0), .int .i64 (a0.2.1.getD 5 0), v15, v13, .string (a0.2.2.2.2.1.extract 0 (min (a0.2.2.2.2.1.size : Int) 80).toNat), .string (a0.2.2.2.2.2.extract 0 (min (a0.2.2.2.2.2.size : Int) 80).toNat)] 38 (0, 0))]] rfl ?_
 refine st_end ?_
 obtain rfl := Eq.symm h
 exact st_retC (gs' := []) [.agg #[.int .i64 a0.1, .int .i64 (a0.2.1.getD 0 0), .int .i64 (a0.2.1.getD 1 0), .int .i64 (a0.2.1.getD 2 0), .int .i64 (a0.2.1.getD 3 0), .int .i64 (a0.2.1.getD 4 0), .int .i64 (a0.2.1.getD 5 0), v15, v13, .string (a0.2.2.2.2.1.extract 0 (min (a0.2.2.2.2.1.size : Int) 80).toNat), .string (a0.2.2.2.2.2.extract 0 (min (a0.2.2.2.2.2.size : Int) 80).toNat)]] Tryz.func13 ⟨⟨_, _, _, _, rfl, mem_flat 0 rfl, fun w hw => cellOfN (vs := [.int .i64 a0.1, .int .i64 (a0.2.1.getD 0 0), .int .i64 (a0.2.1.getD 1 0), .int .i64 (a0.2.1.getD 2 0), .int .i64 (a0.2.1.getD 3 0), .int .i64 (a0.2.1.getD 4 0), .int .i64 (a0.2.1.getD 5 0), v15, v13, .string (a0.2.2.2.2.1.extract 0 (min (a0.2.2.2.2.1.size : Int) 80).toNat), .string (a0.2.2.2.2.2.extract 0 (min (a0.2.2.2.2.2.size : Int) 80).toNat)]) z_agg38 rfl w hw⟩, trivial⟩ (by simp) (hl17.trans hl22) ⟨_, _, rfl, rfl, (hs16.up hl22), (hs14.up hl22)⟩
theorem field_robot_ok  {r : (ByteArray × Int × Int × Int × Int × Int × Int)} (h : field_robot r) (σ : Sto)  :
    Does Tryz.prog 81 [] σ [] (fun v τ gs => gs = [] ∧ .agg [.string r.1, .int .i64 r.2.1, .int .i64 r.2.2.1, .int .i64 r.2.2.2.1, .int .i64 r.2.2.2.2.1, .int .i64 r.2.2.2.2.2.1, .int .i64 r.2.2.2.2.2.2].toArray = v) := by
 refine call_of Tryz.func81 Tryz.ntmps81 rfl rfl (fun cs fs => ?_)
 refine Z 2 rfl ?_
 refine o_alloc rfl rfl rfl z_zero96 (fun b1 => ?_)
 refine Z 3 rfl ?_
 refine o_build (ps := [(0, [.string (bstr [114, 111, 98, 111, 116])]), (1, [.int .i64 1]), (2, [.int .i64 0]), (3, [.int .i64 0]), (4, [.int .i64 65535]), (5, [.int .i64 1]), (6, [.int .i64 0])]) (cs := [.string (bstr [114, 111, 98, 111, 116]), .int .i64 1, .int .i64 0, .int .i64 0, .int .i64 65535, .int .i64 1, .int .i64 0]) rfl rfl rfl z_struct96 ⟨rfl, ⟨_, (ev_str z_str1), rfl⟩, ⟨rfl, ⟨_, rfl, rfl⟩, ⟨rfl, ⟨_, rfl, rfl⟩, ⟨rfl, ⟨_, rfl, rfl⟩, ⟨rfl, ⟨_, rfl, rfl⟩, ⟨rfl, ⟨_, rfl, rfl⟩, ⟨rfl, ⟨_, rfl, rfl⟩, trivial⟩⟩⟩⟩⟩⟩⟩ rfl ?_
 refine ZZ 2 [0] rfl rfl ?_
 obtain rfl := Eq.symm h
 exact st_retC (gs' := []) [.agg #[.string (bstr [114, 111, 98, 111, 116]), .int .i64 1, .int .i64 0, .int .i64 0, .int .i64 65535, .int .i64 1, .int .i64 0]] Tryz.func81 ⟨⟨_, _, _, _, rfl, mem_flat 0 rfl, fun w hw => cellOfN (vs := [.string (bstr [114, 111, 98, 111, 116]), .int .i64 1, .int .i64 0, .int .i64 0, .int .i64 65535, .int .i64 1, .int .i64 0]) z_agg96 rfl w hw⟩, trivial⟩ (by simp) (Sto.Le.refl _) ⟨rfl, rfl⟩
theorem field_Of_ok {a0 : Int} {r : (List (ByteArray × Int × Int × Int × Int × Int × Int))} (h : field_Of a0 r) (σ : Sto)  :
    Does Tryz.prog 45 [.int .i64 a0] σ [] (fun v τ gs => ∃ (v61 : Value), gs = [] ∧ v61 = v ∧ Sl (kP kS (kP (kI .i64) (kP (kI .i64) (kP (kI .i64) (kP (kI .i64) (kP (kI .i64) (kI .i64))))))) τ v61 r) := by
 refine call_of Tryz.func45 Tryz.ntmps45 rfl rfl (fun cs fs => ?_)
 refine Z 15 rfl ?_
 refine st_if rfl h (fun h => ?_) (fun h => ?_)
 ·refine Z 2 rfl ?_
  obtain ⟨r1, hr2, h⟩ := h
  refine st_call (foot := []) rfl rfl rfl rfl rfl rfl (callV_fn z_en81 (field_robot_ok hr2 σ)) ?_
  rintro vτ3 τ3 gsτ3 hl4 ⟨rfl, rfl⟩
  refine o_build (ps := [(0, [.string (bstr [115, 112, 101, 101, 100])]), (1, [.int .i64 1]), (2, [.int .i64 1]), (3, [.int .i64 1]), (4, [.int .i64 5000]), (5, [.int .i64 1]), (6, [.int .i64 0])]) (cs := [.string (bstr [115, 112, 101, 101, 100]), .int .i64 1, .int .i64 1, .int .i64 1, .int .i64 5000, .int .i64 1, .int .i64 0]) rfl rfl rfl z_struct96 ⟨rfl, ⟨_, (ev_str z_str2), rfl⟩, ⟨rfl, ⟨_, rfl, rfl⟩, ⟨rfl, ⟨_, rfl, rfl⟩, ⟨rfl, ⟨_, rfl, rfl⟩, ⟨rfl, ⟨_, rfl, rfl⟩, ⟨rfl, ⟨_, rfl, rfl⟩, ⟨rfl, ⟨_, rfl, rfl⟩, trivial⟩⟩⟩⟩⟩⟩⟩ rfl ?_
  refine o_build (ps := [(0, [.string (bstr [97, 99, 99, 101, 108])]), (1, [.int .i64 1]), (2, [.int .i64 2]), (3, [.int .i64 1]), (4, [.int .i64 10000]), (5, [.int .i64 2]), (6, [.int .i64 500])]) (cs := [.string (bstr [97, 99, 99, 101, 108]), .int .i64 1, .int .i64 2, .int .i64 1, .int .i64 10000, .int .i64 2, .int .i64 500]) rfl rfl rfl z_struct96 ⟨rfl, ⟨_, (ev_str z_str3), rfl⟩, ⟨rfl, ⟨_, rfl, rfl⟩, ⟨rfl, ⟨_, rfl, rfl⟩, ⟨rfl, ⟨_, rfl, rfl⟩, ⟨rfl, ⟨_, rfl, rfl⟩, ⟨rfl, ⟨_, rfl, rfl⟩, ⟨rfl, ⟨_, rfl, rfl⟩, trivial⟩⟩⟩⟩⟩⟩⟩ rfl ?_
  refine o_build (ps := [(0, [.string (bstr [112, 97, 116, 104])]), (1, [.int .i64 3]), (2, [.int .i64 (-1)]), (3, [.int .i64 1]), (4, [.int .i64 16]), (5, [.int .i64 1]), (6, [.int .i64 0])]) (cs := [.string (bstr [112, 97, 116, 104]), .int .i64 3, .int .i64 (-1), .int .i64 1, .int .i64 16, .int .i64 1, .int .i64 0]) rfl rfl rfl z_struct96 ⟨rfl, ⟨_, (ev_str z_str4), rfl⟩, ⟨rfl, ⟨_, rfl, rfl⟩, ⟨rfl, ⟨_, rfl, rfl⟩, ⟨rfl, ⟨_, rfl, rfl⟩, ⟨rfl, ⟨_, rfl, rfl⟩, ⟨rfl, ⟨_, rfl, rfl⟩, ⟨rfl, ⟨_, rfl, rfl⟩, trivial⟩⟩⟩⟩⟩⟩⟩ rfl ?_
  refine o_build (ps := [(0, [.string (bstr [116, 97, 103])]), (1, [.int .i64 6]), (2, [.int .i64 (-1)]), (3, [.int .i64 0]), (4, [.int .i64 16]), (5, [.int .i64 2]), (6, [.int .i64 0])]) (cs := [.string (bstr [116, 97, 103]), .int .i64 6, .int .i64 (-1), .int .i64 0, .int .i64 16, .int .i64 2, .int .i64 0]) rfl rfl rfl z_struct96 ⟨rfl, ⟨_, (ev_str z_str5), rfl⟩, ⟨rfl, ⟨_, rfl, rfl⟩, ⟨rfl, ⟨_, rfl, rfl⟩, ⟨rfl, ⟨_, rfl, rfl⟩, ⟨rfl, ⟨_, rfl, rfl⟩, ⟨rfl, ⟨_, rfl, rfl⟩, ⟨rfl, ⟨_, rfl, rfl⟩, trivial⟩⟩⟩⟩⟩⟩⟩ rfl ?_
  refine o_litE (eP eS (eP (eI .i64) (eP (eI .i64) (eP (eI .i64) (eP (eI .i64) (eP (eI .i64) (eI .i64))))))) [r1, ((bstr [115, 112, 101, 101, 100]), 1, 1, 1, 5000, 1, 0), ((bstr [97, 99, 99, 101, 108]), 1, 2, 1, 10000, 2, 500), ((bstr [112, 97, 116, 104]), 3, (-1), 1, 16, 1, 0), ((bstr [116, 97, 103]), 6, (-1), 0, 16, 2, 0)] rfl rfl rfl z_slT115 z_zero96 ⟨rfl, ⟨_, rfl, rfl⟩, ⟨rfl, ⟨_, rfl, rfl⟩, ⟨rfl, ⟨_, rfl, rfl⟩, ⟨rfl, ⟨_, rfl, rfl⟩, ⟨rfl, ⟨_, rfl, rfl⟩, trivial⟩⟩⟩⟩⟩ rfl rfl rfl rfl (fun v5 g6 ho7 => ?_)
  refine Z 2 rfl ?_
  refine st_freeze (fun τ8 hl9 hg10 => ?_)
  have hs11 := ho7.freeze hl9 hg10
  obtain rfl := Eq.symm h
  exact st_ret (gs' := []) Tryz.func45 rfl (List.Sublist.refl _) (hl4.trans hl9) ⟨_, rfl, rfl, hs11⟩
 ·refine Z 5 rfl ?_
  refine st_if rfl h (fun h => ?_) (fun h => ?_)
  ·refine Z 2 rfl ?_
   obtain ⟨r13, hr14, h⟩ := h
   refine st_call (foot := []) rfl rfl rfl rfl rfl rfl (callV_fn z_en81 (field_robot_ok hr14 σ)) ?_
   rintro vτ15 τ15 gsτ15 hl16 ⟨rfl, rfl⟩
   refine o_build (ps := [(0, [.string (bstr [114, 101, 97, 115, 111, 110])]), (1, [.int .i64 1]), (2, [.int .i64 1]), (3, [.int .i64 0]), (4, [.int .i64 15]), (5, [.int .i64 1]), (6, [.int .i64 0])]) (cs := [.string (bstr [114, 101, 97, 115, 111, 110]), .int .i64 1, .int .i64 1, .int .i64 0, .int .i64 15, .int .i64 1, .int .i64 0]) rfl rfl rfl z_struct96 ⟨rfl, ⟨_, (ev_str z_str6), rfl⟩, ⟨rfl, ⟨_, rfl, rfl⟩, ⟨rfl, ⟨_, rfl, rfl⟩, ⟨rfl, ⟨_, rfl, rfl⟩, ⟨rfl, ⟨_, rfl, rfl⟩, ⟨rfl, ⟨_, rfl, rfl⟩, ⟨rfl, ⟨_, rfl, rfl⟩, trivial⟩⟩⟩⟩⟩⟩⟩ rfl ?_
   refine o_build (ps := [(0, [.string (bstr [122, 111, 110, 101])]), (1, [.int .i64 1]), (2, [.int .i64 2]), (3, [.int .i64 0]), (4, [.int .i64 4095]), (5, [.int .i64 2]), (6, [.int .i64 0])]) (cs := [.string (bstr [122, 111, 110, 101]), .int .i64 1, .int .i64 2, .int .i64 0, .int .i64 4095, .int .i64 2, .int .i64 0]) rfl rfl rfl z_struct96 ⟨rfl, ⟨_, (ev_str z_str7), rfl⟩, ⟨rfl, ⟨_, rfl, rfl⟩, ⟨rfl, ⟨_, rfl, rfl⟩, ⟨rfl, ⟨_, rfl, rfl⟩, ⟨rfl, ⟨_, rfl, rfl⟩, ⟨rfl, ⟨_, rfl, rfl⟩, ⟨rfl, ⟨_, rfl, rfl⟩, trivial⟩⟩⟩⟩⟩⟩⟩ rfl ?_
   refine o_litE (eP eS (eP (eI .i64) (eP (eI .i64) (eP (eI .i64) (eP (eI .i64) (eP (eI .i64) (eI .i64))))))) [r13, ((bstr [114, 101, 97, 115, 111, 110]), 1, 1, 0, 15, 1, 0), ((bstr [122, 111, 110, 101]), 1, 2, 0, 4095, 2, 0)] rfl rfl rfl z_slT115 z_zero96 ⟨rfl, ⟨_, rfl, rfl⟩, ⟨rfl, ⟨_, rfl, rfl⟩, ⟨rfl, ⟨_, rfl, rfl⟩, trivial⟩⟩⟩ rfl rfl rfl rfl (fun v17 g18 ho19 => ?_)
   refine Z 2 rfl ?_
   refine st_freeze (fun τ20 hl21 hg22 => ?_)
   have hs23 := ho19.freeze hl21 hg22
   obtain rfl := Eq.symm h
   exact st_ret (gs' := []) Tryz.func45 rfl (List.Sublist.refl _) (hl16.trans hl21) ⟨_, rfl, rfl, hs23⟩
  ·refine Z 5 rfl ?_
   refine st_if rfl h (fun h => ?_) (fun h => ?_)
   ·refine Z 2 rfl ?_
    obtain ⟨r25, hr26, h⟩ := h
    refine st_call (foot := []) rfl rfl rfl rfl rfl rfl (callV_fn z_en81 (field_robot_ok hr26 σ)) ?_
    rintro vτ27 τ27 gsτ27 hl28 ⟨rfl, rfl⟩
    refine o_build (ps := [(0, [.string (bstr [122, 111, 110, 101])]), (1, [.int .i64 1]), (2, [.int .i64 1]), (3, [.int .i64 0]), (4, [.int .i64 4095]), (5, [.int .i64 1]), (6, [.int .i64 0])]) (cs := [.string (bstr [122, 111, 110, 101]), .int .i64 1, .int .i64 1, .int .i64 0, .int .i64 4095, .int .i64 1, .int .i64 0]) rfl rfl rfl z_struct96 ⟨rfl, ⟨_, (ev_str z_str7), rfl⟩, ⟨rfl, ⟨_, rfl, rfl⟩, ⟨rfl, ⟨_, rfl, rfl⟩, ⟨rfl, ⟨_, rfl, rfl⟩, ⟨rfl, ⟨_, rfl, rfl⟩, ⟨rfl, ⟨_, rfl, rfl⟩, ⟨rfl, ⟨_, rfl, rfl⟩, trivial⟩⟩⟩⟩⟩⟩⟩ rfl ?_
    refine o_build (ps := [(0, [.string (bstr [108, 101, 97, 115, 101])]), (1, [.int .i64 1]), (2, [.int .i64 2]), (3, [.int .i64 1]), (4, [.int .i64 255]), (5, [.int .i64 2]), (6, [.int .i64 1])]) (cs := [.string (bstr [108, 101, 97, 115, 101]), .int .i64 1, .int .i64 2, .int .i64 1, .int .i64 255, .int .i64 2, .int .i64 1]) rfl rfl rfl z_struct96 ⟨rfl, ⟨_, (ev_str z_str8), rfl⟩, ⟨rfl, ⟨_, rfl, rfl⟩, ⟨rfl, ⟨_, rfl, rfl⟩, ⟨rfl, ⟨_, rfl, rfl⟩, ⟨rfl, ⟨_, rfl, rfl⟩, ⟨rfl, ⟨_, rfl, rfl⟩, ⟨rfl, ⟨_, rfl, rfl⟩, trivial⟩⟩⟩⟩⟩⟩⟩ rfl ?_
    refine o_build (ps := [(0, [.string (bstr [99, 101, 108, 108, 115])]), (1, [.int .i64 4]), (2, [.int .i64 (-1)]), (3, [.int .i64 1]), (4, [.int .i64 32]), (5, [.int .i64 1]), (6, [.int .i64 0])]) (cs := [.string (bstr [99, 101, 108, 108, 115]), .int .i64 4, .int .i64 (-1), .int .i64 1, .int .i64 32, .int .i64 1, .int .i64 0]) rfl rfl rfl z_struct96 ⟨rfl, ⟨_, (ev_str z_str9), rfl⟩, ⟨rfl, ⟨_, rfl, rfl⟩, ⟨rfl, ⟨_, rfl, rfl⟩, ⟨rfl, ⟨_, rfl, rfl⟩, ⟨rfl, ⟨_, rfl, rfl⟩, ⟨rfl, ⟨_, rfl, rfl⟩, ⟨rfl, ⟨_, rfl, rfl⟩, trivial⟩⟩⟩⟩⟩⟩⟩ rfl ?_
    refine o_litE (eP eS (eP (eI .i64) (eP (eI .i64) (eP (eI .i64) (eP (eI .i64) (eP (eI .i64) (eI .i64))))))) [r25, ((bstr [122, 111, 110, 101]), 1, 1, 0, 4095, 1, 0), ((bstr [108, 101, 97, 115, 101]), 1, 2, 1, 255, 2, 1), ((bstr [99, 101, 108, 108, 115]), 4, (-1), 1, 32, 1, 0)] rfl rfl rfl z_slT115 z_zero96 ⟨rfl, ⟨_, rfl, rfl⟩, ⟨rfl, ⟨_, rfl, rfl⟩, ⟨rfl, ⟨_, rfl, rfl⟩, ⟨rfl, ⟨_, rfl, rfl⟩, trivial⟩⟩⟩⟩ rfl rfl rfl rfl (fun v29 g30 ho31 => ?_)
    refine Z 2 rfl ?_
    refine st_freeze (fun τ32 hl33 hg34 => ?_)
    have hs35 := ho31.freeze hl33 hg34
    obtain rfl := Eq.symm h
    exact st_ret (gs' := []) Tryz.func45 rfl (List.Sublist.refl _) (hl28.trans hl33) ⟨_, rfl, rfl, hs35⟩
   ·refine Z 5 rfl ?_
    refine st_if rfl h (fun h => ?_) (fun h => ?_)
    ·refine Z 2 rfl ?_
     obtain ⟨r37, hr38, h⟩ := h
     refine st_call (foot := []) rfl rfl rfl rfl rfl rfl (callV_fn z_en81 (field_robot_ok hr38 σ)) ?_
     rintro vτ39 τ39 gsτ39 hl40 ⟨rfl, rfl⟩
     refine o_build (ps := [(0, [.string (bstr [120])]), (1, [.int .i64 2]), (2, [.int .i64 1]), (3, [.int .i64 (-1000000)]), (4, [.int .i64 1000000]), (5, [.int .i64 1]), (6, [.int .i64 0])]) (cs := [.string (bstr [120]), .int .i64 2, .int .i64 1, .int .i64 (-1000000), .int .i64 1000000, .int .i64 1, .int .i64 0]) rfl rfl rfl z_struct96 ⟨rfl, ⟨_, (ev_str z_str10), rfl⟩, ⟨rfl, ⟨_, rfl, rfl⟩, ⟨rfl, ⟨_, rfl, rfl⟩, ⟨rfl, ⟨_, rfl, rfl⟩, ⟨rfl, ⟨_, rfl, rfl⟩, ⟨rfl, ⟨_, rfl, rfl⟩, ⟨rfl, ⟨_, rfl, rfl⟩, trivial⟩⟩⟩⟩⟩⟩⟩ rfl ?_
     refine o_build (ps := [(0, [.string (bstr [121])]), (1, [.int .i64 2]), (2, [.int .i64 2]), (3, [.int .i64 (-1000000)]), (4, [.int .i64 1000000]), (5, [.int .i64 1]), (6, [.int .i64 0])]) (cs := [.string (bstr [121]), .int .i64 2, .int .i64 2, .int .i64 (-1000000), .int .i64 1000000, .int .i64 1, .int .i64 0]) rfl rfl rfl z_struct96 ⟨rfl, ⟨_, (ev_str z_str11), rfl⟩, ⟨rfl, ⟨_, rfl, rfl⟩, ⟨rfl, ⟨_, rfl, rfl⟩, ⟨rfl, ⟨_, rfl, rfl⟩, ⟨rfl, ⟨_, rfl, rfl⟩, ⟨rfl, ⟨_, rfl, rfl⟩, ⟨rfl, ⟨_, rfl, rfl⟩, trivial⟩⟩⟩⟩⟩⟩⟩ rfl ?_
     refine o_build (ps := [(0, [.string (bstr [104, 101, 97, 100, 105, 110, 103])]), (1, [.int .i64 1]), (2, [.int .i64 3]), (3, [.int .i64 0]), (4, [.int .i64 35999]), (5, [.int .i64 1]), (6, [.int .i64 0])]) (cs := [.string (bstr [104, 101, 97, 100, 105, 110, 103]), .int .i64 1, .int .i64 3, .int .i64 0, .int .i64 35999, .int .i64 1, .int .i64 0]) rfl rfl rfl z_struct96 ⟨rfl, ⟨_, (ev_str z_str12), rfl⟩, ⟨rfl, ⟨_, rfl, rfl⟩, ⟨rfl, ⟨_, rfl, rfl⟩, ⟨rfl, ⟨_, rfl, rfl⟩, ⟨rfl, ⟨_, rfl, rfl⟩, ⟨rfl, ⟨_, rfl, rfl⟩, ⟨rfl, ⟨_, rfl, rfl⟩, trivial⟩⟩⟩⟩⟩⟩⟩ rfl ?_
     refine o_build (ps := [(0, [.string (bstr [98, 97, 116, 116, 101, 114, 121])]), (1, [.int .i64 1]), (2, [.int .i64 4]), (3, [.int .i64 0]), (4, [.int .i64 1000]), (5, [.int .i64 1]), (6, [.int .i64 0])]) (cs := [.string (bstr [98, 97, 116, 116, 101, 114, 121]), .int .i64 1, .int .i64 4, .int .i64 0, .int .i64 1000, .int .i64 1, .int .i64 0]) rfl rfl rfl z_struct96 ⟨rfl, ⟨_, (ev_str z_str13), rfl⟩, ⟨rfl, ⟨_, rfl, rfl⟩, ⟨rfl, ⟨_, rfl, rfl⟩, ⟨rfl, ⟨_, rfl, rfl⟩, ⟨rfl, ⟨_, rfl, rfl⟩, ⟨rfl, ⟨_, rfl, rfl⟩, ⟨rfl, ⟨_, rfl, rfl⟩, trivial⟩⟩⟩⟩⟩⟩⟩ rfl ?_
     refine o_build (ps := [(0, [.string (bstr [115, 117, 114, 101])]), (1, [.int .i64 1]), (2, [.int .i64 5]), (3, [.int .i64 0]), (4, [.int .i64 100]), (5, [.int .i64 2]), (6, [.int .i64 100])]) (cs := [.string (bstr [115, 117, 114, 101]), .int .i64 1, .int .i64 5, .int .i64 0, .int .i64 100, .int .i64 2, .int .i64 100]) rfl rfl rfl z_struct96 ⟨rfl, ⟨_, (ev_str z_str14), rfl⟩, ⟨rfl, ⟨_, rfl, rfl⟩, ⟨rfl, ⟨_, rfl, rfl⟩, ⟨rfl, ⟨_, rfl, rfl⟩, ⟨rfl, ⟨_, rfl, rfl⟩, ⟨rfl, ⟨_, rfl, rfl⟩, ⟨rfl, ⟨_, rfl, rfl⟩, trivial⟩⟩⟩⟩⟩⟩⟩ rfl ?_
     refine o_litE (eP eS (eP (eI .i64) (eP (eI .i64) (eP (eI .i64) (eP (eI .i64) (eP (eI .i64) (eI .i64))))))) [r37, ((bstr [120]), 2, 1, (-1000000), 1000000, 1, 0), ((bstr [121]), 2, 2, (-1000000), 1000000, 1, 0), ((bstr [104, 101, 97, 100, 105, 110, 103]), 1, 3, 0, 35999, 1, 0), ((bstr [98, 97, 116, 116, 101, 114, 121]), 1, 4, 0, 1000, 1, 0), ((bstr [115, 117, 114, 101]), 1, 5, 0, 100, 2, 100)] rfl rfl rfl z_slT115 z_zero96 ⟨rfl, ⟨_, rfl, rfl⟩, ⟨rfl, ⟨_, rfl, rfl⟩, ⟨rfl, ⟨_, rfl, rfl⟩, ⟨rfl, ⟨_, rfl, rfl⟩, ⟨rfl, ⟨_, rfl, rfl⟩, ⟨rfl, ⟨_, rfl, rfl⟩, trivial⟩⟩⟩⟩⟩⟩ rfl rfl rfl rfl (fun v41 g42 ho43 => ?_)
     refine Z 2 rfl ?_
     refine st_freeze (fun τ44 hl45 hg46 => ?_)
     have hs47 := ho43.freeze hl45 hg46
     obtain rfl := Eq.symm h
     exact st_ret (gs' := []) Tryz.func45 rfl (List.Sublist.refl _) (hl40.trans hl45) ⟨_, rfl, rfl, hs47⟩
    ·refine Z 5 rfl ?_
     refine st_if rfl h (fun h => ?_) (fun h => ?_)
     ·refine Z 2 rfl ?_
      obtain ⟨r49, hr50, h⟩ := h
      refine st_call (foot := []) rfl rfl rfl rfl rfl rfl (callV_fn z_en81 (field_robot_ok hr50 σ)) ?_
      rintro vτ51 τ51 gsτ51 hl52 ⟨rfl, rfl⟩
      refine o_build (ps := [(0, [.string (bstr [99, 111, 100, 101])]), (1, [.int .i64 1]), (2, [.int .i64 1]), (3, [.int .i64 1]), (4, [.int .i64 9999]), (5, [.int .i64 1]), (6, [.int .i64 0])]) (cs := [.string (bstr [99, 111, 100, 101]), .int .i64 1, .int .i64 1, .int .i64 1, .int .i64 9999, .int .i64 1, .int .i64 0]) rfl rfl rfl z_struct96 ⟨rfl, ⟨_, (ev_str z_str15), rfl⟩, ⟨rfl, ⟨_, rfl, rfl⟩, ⟨rfl, ⟨_, rfl, rfl⟩, ⟨rfl, ⟨_, rfl, rfl⟩, ⟨rfl, ⟨_, rfl, rfl⟩, ⟨rfl, ⟨_, rfl, rfl⟩, ⟨rfl, ⟨_, rfl, rfl⟩, trivial⟩⟩⟩⟩⟩⟩⟩ rfl ?_
      refine o_build (ps := [(0, [.string (bstr [115, 101, 118, 101, 114, 105, 116, 121])]), (1, [.int .i64 1]), (2, [.int .i64 2]), (3, [.int .i64 0]), (4, [.int .i64 4]), (5, [.int .i64 1]), (6, [.int .i64 0])]) (cs := [.string (bstr [115, 101, 118, 101, 114, 105, 116, 121]), .int .i64 1, .int .i64 2, .int .i64 0, .int .i64 4, .int .i64 1, .int .i64 0]) rfl rfl rfl z_struct96 ⟨rfl, ⟨_, (ev_str z_str16), rfl⟩, ⟨rfl, ⟨_, rfl, rfl⟩, ⟨rfl, ⟨_, rfl, rfl⟩, ⟨rfl, ⟨_, rfl, rfl⟩, ⟨rfl, ⟨_, rfl, rfl⟩, ⟨rfl, ⟨_, rfl, rfl⟩, ⟨rfl, ⟨_, rfl, rfl⟩, trivial⟩⟩⟩⟩⟩⟩⟩ rfl ?_
      refine o_build (ps := [(0, [.string (bstr [112, 97, 114, 116])]), (1, [.int .i64 1]), (2, [.int .i64 3]), (3, [.int .i64 0]), (4, [.int .i64 255]), (5, [.int .i64 2]), (6, [.int .i64 0])]) (cs := [.string (bstr [112, 97, 114, 116]), .int .i64 1, .int .i64 3, .int .i64 0, .int .i64 255, .int .i64 2, .int .i64 0]) rfl rfl rfl z_struct96 ⟨rfl, ⟨_, (ev_str z_str17), rfl⟩, ⟨rfl, ⟨_, rfl, rfl⟩, ⟨rfl, ⟨_, rfl, rfl⟩, ⟨rfl, ⟨_, rfl, rfl⟩, ⟨rfl, ⟨_, rfl, rfl⟩, ⟨rfl, ⟨_, rfl, rfl⟩, ⟨rfl, ⟨_, rfl, rfl⟩, trivial⟩⟩⟩⟩⟩⟩⟩ rfl ?_
      refine o_build (ps := [(0, [.string (bstr [116, 105, 109, 101, 115])]), (1, [.int .i64 1]), (2, [.int .i64 4]), (3, [.int .i64 1]), (4, [.int .i64 1000000]), (5, [.int .i64 2]), (6, [.int .i64 1])]) (cs := [.string (bstr [116, 105, 109, 101, 115]), .int .i64 1, .int .i64 4, .int .i64 1, .int .i64 1000000, .int .i64 2, .int .i64 1]) rfl rfl rfl z_struct96 ⟨rfl, ⟨_, (ev_str z_str18), rfl⟩, ⟨rfl, ⟨_, rfl, rfl⟩, ⟨rfl, ⟨_, rfl, rfl⟩, ⟨rfl, ⟨_, rfl, rfl⟩, ⟨rfl, ⟨_, rfl, rfl⟩, ⟨rfl, ⟨_, rfl, rfl⟩, ⟨rfl, ⟨_, rfl, rfl⟩, trivial⟩⟩⟩⟩⟩⟩⟩ rfl ?_
      refine o_build (ps := [(0, [.string (bstr [116, 101, 120, 116])]), (1, [.int .i64 5]), (2, [.int .i64 (-1)]), (3, [.int .i64 0]), (4, [.int .i64 64]), (5, [.int .i64 1]), (6, [.int .i64 0])]) (cs := [.string (bstr [116, 101, 120, 116]), .int .i64 5, .int .i64 (-1), .int .i64 0, .int .i64 64, .int .i64 1, .int .i64 0]) rfl rfl rfl z_struct96 ⟨rfl, ⟨_, (ev_str z_str19), rfl⟩, ⟨rfl, ⟨_, rfl, rfl⟩, ⟨rfl, ⟨_, rfl, rfl⟩, ⟨rfl, ⟨_, rfl, rfl⟩, ⟨rfl, ⟨_, rfl, rfl⟩, ⟨rfl, ⟨_, rfl, rfl⟩, ⟨rfl, ⟨_, rfl, rfl⟩, trivial⟩⟩⟩⟩⟩⟩⟩ rfl ?_
      refine o_litE (eP eS (eP (eI .i64) (eP (eI .i64) (eP (eI .i64) (eP (eI .i64) (eP (eI .i64) (eI .i64))))))) [r49, ((bstr [99, 111, 100, 101]), 1, 1, 1, 9999, 1, 0), ((bstr [115, 101, 118, 101, 114, 105, 116, 121]), 1, 2, 0, 4, 1, 0), ((bstr [112, 97, 114, 116]), 1, 3, 0, 255, 2, 0), ((bstr [116, 105, 109, 101, 115]), 1, 4, 1, 1000000, 2, 1), ((bstr [116, 101, 120, 116]), 5, (-1), 0, 64, 1, 0)] rfl rfl rfl z_slT115 z_zero96 ⟨rfl, ⟨_, rfl, rfl⟩, ⟨rfl, ⟨_, rfl, rfl⟩, ⟨rfl, ⟨_, rfl, rfl⟩, ⟨rfl, ⟨_, rfl, rfl⟩, ⟨rfl, ⟨_, rfl, rfl⟩, ⟨rfl, ⟨_, rfl, rfl⟩, trivial⟩⟩⟩⟩⟩⟩ rfl rfl rfl rfl (fun v53 g54 ho55 => ?_)
      refine Z 2 rfl ?_
      refine st_freeze (fun τ56 hl57 hg58 => ?_)
      have hs59 := ho55.freeze hl57 hg58
      obtain rfl := Eq.symm h
      exact st_ret (gs' := []) Tryz.func45 rfl (List.Sublist.refl _) (hl52.trans hl57) ⟨_, rfl, rfl, hs59⟩
     ·refine Z 6 rfl ?_
      obtain rfl := Eq.symm h
      exact st_ret (gs' := []) Tryz.func45 rfl (List.Sublist.refl _) (Sto.Le.refl _) ⟨_, rfl, rfl, Sl.nil⟩
theorem msg_many_ok {a0 : Int} {a1 : ByteArray × Int × Int × Int × Int × Int × Int} {r : Int} (h : msg_many a0 a1 r) (σ : Sto)  :
    Does Tryz.prog 117 [.int .i64 a0, .agg [.string a1.1, .int .i64 a1.2.1, .int .i64 a1.2.2.1, .int .i64 a1.2.2.2.1, .int .i64 a1.2.2.2.2.1, .int .i64 a1.2.2.2.2.2.1, .int .i64 a1.2.2.2.2.2.2].toArray] σ [] (fun v τ gs => gs = [] ∧ .int .i64 r = v) := by
 refine call_of Tryz.func117 Tryz.ntmps117 rfl rfl (fun cs fs => ?_)
 refine Z 2 rfl ?_
 refine o_boxC rfl rfl rfl rfl rfl rfl (fun b1 => ?_)
 refine ZZ 12 [0] rfl rfl ?_
 refine st_if rfl h (fun h => ?_) (fun h => ?_)
 ·refine Z 4 rfl ?_
  refine st_ord [] _ rfl ?_
  obtain rfl := Eq.symm h
  exact st_ret (gs' := []) Tryz.func117 rfl (List.Sublist.refl _) (Sto.Le.refl _) ⟨rfl, rfl⟩
 ·refine ZZ 8 [0] rfl rfl ?_
  refine st_if rfl h (fun h => ?_) (fun h => ?_)
  ·refine Z 4 rfl ?_
   refine st_ord [] _ rfl ?_
   obtain rfl := Eq.symm h
   exact st_ret (gs' := []) Tryz.func117 rfl (List.Sublist.refl _) (Sto.Le.refl _) ⟨rfl, rfl⟩
  ·refine Z 6 rfl ?_
   refine st_ord [] _ rfl ?_
   obtain rfl := Eq.symm h
   exact st_ret (gs' := []) Tryz.func117 rfl (List.Sublist.refl _) (Sto.Le.refl _) ⟨rfl, rfl⟩
theorem msg_path_ok {a0 : List (Int × Int)} {a1 : ByteArray × Int × Int × Int × Int × Int × Int} {v1 : Value} {r : Int} (h : msg_path a0 a1 r) (σ : Sto) (hs2 : Sl (kP (kI .i64) (kI .i64)) σ v1 a0) :
    Does Tryz.prog 82 [v1, .agg [.string a1.1, .int .i64 a1.2.1, .int .i64 a1.2.2.1, .int .i64 a1.2.2.2.1, .int .i64 a1.2.2.2.2.1, .int .i64 a1.2.2.2.2.2.1, .int .i64 a1.2.2.2.2.2.2].toArray] σ [] (fun v τ gs => gs = [] ∧ .int .i64 r = v) := by
 refine call_of Tryz.func82 Tryz.ntmps82 rfl rfl (fun cs fs => ?_)
 refine Z 2 rfl ?_
 refine o_boxC rfl rfl rfl rfl rfl rfl (fun b3 => ?_)
 refine Z 6 rfl ?_
 refine o_lenI rfl rfl rfl z_slT36 rfl hs2 ?_
 refine ZZ 1 [0] rfl rfl ?_
 obtain ⟨r4, hr5, h⟩ := h
 refine st_call (foot := []) rfl rfl rfl rfl rfl rfl (callV_fn z_en117 (msg_many_ok hr5 σ)) ?_
 rintro vτ6 τ6 gsτ6 hl7 ⟨rfl, rfl⟩
 refine Z 7 rfl ?_
 refine st_if rfl h (fun h => ?_) (fun h => ?_)
 ·refine Z 5 rfl ?_
  refine st_ord [] _ rfl ?_
  obtain rfl := Eq.symm h
  exact st_ret (gs' := []) Tryz.func82 rfl (List.Sublist.refl _) hl7 ⟨rfl, rfl⟩
 ·refine Z 2 rfl ?_
  refine st_cut (fun ρ τ8 gs => ∃ (s8 : Unit), msg_path_j1 s8 r ∧ τ6.Le τ8 ∧ ESub ρ [(4, .int .i64 0)] ∧ gs = []) ?_ (fun hk8 => ?_)
  ·rintro ρ8 τ8 gs8 ⟨s8, h, hl8, hρ, rfl⟩
   refine st_es hρ ?_
   refine Z 4 rfl ?_
   obtain rfl := Eq.symm h
   exact st_ret (gs' := []) Tryz.func82 rfl (List.Sublist.refl _) (hl7.trans hl8) ⟨rfl, rfl⟩
  refine Z 3 rfl ?_
  refine o_lenI rfl rfl rfl z_slT36 rfl (hs2.up hl7) ?_
  refine Z 2 rfl ?_
  obtain ⟨e9, hL9, hA9⟩ := h
  refine st_ord [] _ rfl ?_
  refine st_loop hL9 (fun (s9 : Int) ρ τ9 gs => τ6.Le τ9 ∧ ESub ρ [(4, .int .i64 0), (15, v1), (16, .int .i64 (a0.length : Int)), (17, .int .i64 s9)] ∧ gs = []) ⟨Sto.Le.refl _, rfl, rfl⟩ ?_
  rintro s9 o9 h he9 ρ9 τ9 gs9 ⟨hl9, hρ, rfl⟩ hn9
  refine st_es hρ ?_
  refine Z 5 rfl ?_
  refine st_if rfl h (fun h => ?_) (fun h => ?_)
  ·refine Z 5 rfl ?_
   obtain ⟨q10, hf11, h⟩ := h
   refine o_index rfl rfl rfl z_slT36 rfl rfl (hs2.up (hl7.trans hl9)) rfl hf11 (fun b12 of13 vs hc14 hrep => ?_)
   obtain ⟨_, _, rfl, rfl, rfl⟩ := hrep
   refine o_loadIN (vs := [.int .i64 q10.1, .int .i64 q10.2]) rfl rfl rfl z_agg105 rfl rfl (celn_part 0 rfl hc14) ?_
   refine o_alloc rfl rfl rfl z_zero105 (fun b15 => ?_)
   refine ZZ 3 [0] rfl rfl ?_
   refine st_cut (fun ρ τ16 gs => ∃ (s16 : Bool), msg_path_j3 s9 s16 o9 ∧ τ9.Le τ16 ∧ ESub ρ [(4, .int .i64 0), (15, v1), (16, .int .i64 (a0.length : Int)), (17, .int .i64 s9), (34, .bool s16)] ∧ gs = []) ?_ (fun hk16 => ?_)
   ·rintro ρ16 τ16 gs16 ⟨s16, h, hl16, hρ, rfl⟩
    refine st_es hρ ?_
    refine st_if rfl h (fun h => ?_) (fun h => ?_)
    ·refine Z 4 rfl ?_
     obtain rfl := he9 _ h
     replace h := hA9
     obtain rfl := Eq.symm h
     exact st_ret (gs' := []) Tryz.func82 rfl (List.Sublist.refl _) ((hl7.trans hl9).trans hl16) ⟨rfl, rfl⟩
    ·refine Z 6 rfl ?_
     exact hn9 _ _ _ _ h ⟨(hl9.trans hl16), rfl, rfl⟩
   refine ZZ 7 [0, 0] rfl rfl ?_
   refine o_mif rfl rfl rfl rfl h (fun h => ?_) (fun h => ?_)
   ·refine Z 8 rfl ?_
    refine st_ord [] _ rfl ?_
    exact hk16 _ _ _ ⟨true, h, (Sto.Le.refl _), rfl, rfl⟩
   ·refine ZZ 8 [0, 0] rfl rfl ?_
    refine st_ord [] _ rfl ?_
    exact hk16 _ _ _ ⟨(decide ((min q10.1 q10.2) < (-1000000))), h, (Sto.Le.refl _), rfl, rfl⟩
  ·refine st_exit rfl ?_
   obtain rfl := he9 _ h
   replace h := hA9
   exact hk8 _ _ _ ⟨(), h, hl9, rfl, rfl⟩
theorem msg_cells_ok {a0 : List Int} {a1 : ByteArray × Int × Int × Int × Int × Int × Int} {v1 : Value} {r : Int} (h : msg_cells a0 a1 r) (σ : Sto) (hs2 : Sl (kI .i64) σ v1 a0) :
    Does Tryz.prog 83 [v1, .agg [.string a1.1, .int .i64 a1.2.1, .int .i64 a1.2.2.1, .int .i64 a1.2.2.2.1, .int .i64 a1.2.2.2.2.1, .int .i64 a1.2.2.2.2.2.1, .int .i64 a1.2.2.2.2.2.2].toArray] σ [] (fun v τ gs => gs = [] ∧ .int .i64 r = v) := by
 refine call_of Tryz.func83 Tryz.ntmps83 rfl rfl (fun cs fs => ?_)
 refine Z 2 rfl ?_
 refine o_boxC rfl rfl rfl rfl rfl rfl (fun b3 => ?_)
 refine Z 6 rfl ?_
 refine o_lenI rfl rfl rfl z_slT27 rfl hs2 ?_
 refine ZZ 1 [0] rfl rfl ?_
 obtain ⟨r4, hr5, h⟩ := h
 refine st_call (foot := []) rfl rfl rfl rfl rfl rfl (callV_fn z_en117 (msg_many_ok hr5 σ)) ?_
 rintro vτ6 τ6 gsτ6 hl7 ⟨rfl, rfl⟩
 refine Z 7 rfl ?_
 refine st_if rfl h (fun h => ?_) (fun h => ?_)
 ·refine Z 5 rfl ?_
  refine st_ord [] _ rfl ?_
  obtain rfl := Eq.symm h
  exact st_ret (gs' := []) Tryz.func83 rfl (List.Sublist.refl _) hl7 ⟨rfl, rfl⟩
 ·refine Z 6 rfl ?_
  refine st_cut (fun ρ τ8 gs => ∃ (s8 : Unit), msg_cells_j1 s8 r ∧ τ6.Le τ8 ∧ ESub ρ [(4, .int .i64 0)] ∧ gs = []) ?_ (fun hk8 => ?_)
  ·rintro ρ8 τ8 gs8 ⟨s8, h, hl8, hρ, rfl⟩
   refine st_es hρ ?_
   refine Z 4 rfl ?_
   obtain rfl := Eq.symm h
   exact st_ret (gs' := []) Tryz.func83 rfl (List.Sublist.refl _) (hl7.trans hl8) ⟨rfl, rfl⟩
  refine Z 3 rfl ?_
  refine o_lenI rfl rfl rfl z_slT27 rfl (hs2.up hl7) ?_
  refine Z 2 rfl ?_
  obtain ⟨e9, hL9, hA9⟩ := h
  refine st_ord [] _ rfl ?_
  refine st_loop hL9 (fun (s9 : Int × Int) ρ τ9 gs => τ6.Le τ9 ∧ ESub ρ [(4, .int .i64 0), (6, .int .i64 s9.1), (16, v1), (17, .int .i64 (a0.length : Int)), (18, .int .i64 s9.2)] ∧ gs = []) ⟨Sto.Le.refl _, rfl, rfl⟩ ?_
  rintro s9 o9 h he9 ρ9 τ9 gs9 ⟨hl9, hρ, rfl⟩ hn9
  refine st_es hρ ?_
  refine Z 5 rfl ?_
  refine st_if rfl h (fun h => ?_) (fun h => ?_)
  ·refine Z 5 rfl ?_
   obtain ⟨q10, hf11, h⟩ := h
   refine o_index rfl rfl rfl z_slT27 rfl rfl (hs2.up (hl7.trans hl9)) rfl hf11 (fun b12 of13 vs hc14 hrep => ?_)
   obtain rfl := hrep
   refine o_loadI (v := .int .i64 q10) rfl rfl rfl z_sc3 rfl (hc14 0 _ rfl) ?_
   refine Z 5 rfl ?_
   refine st_cut (fun ρ τ15 gs => ∃ (s15 : Bool), msg_cells_j3 s9 q10 s15 o9 ∧ τ9.Le τ15 ∧ ESub ρ [(4, .int .i64 0), (6, .int .i64 s9.1), (16, v1), (17, .int .i64 (a0.length : Int)), (18, .int .i64 s9.2), (8, .int .i64 q10), (22, .bool s15)] ∧ gs = []) ?_ (fun hk15 => ?_)
   ·rintro ρ15 τ15 gs15 ⟨s15, h, hl15, hρ, rfl⟩
    refine st_es hρ ?_
    refine st_if rfl h (fun h => ?_) (fun h => ?_)
    ·refine Z 4 rfl ?_
     obtain rfl := he9 _ h
     replace h := hA9
     obtain rfl := Eq.symm h
     exact st_ret (gs' := []) Tryz.func83 rfl (List.Sublist.refl _) ((hl7.trans hl9).trans hl15) ⟨rfl, rfl⟩
    ·refine Z 7 rfl ?_
     refine st_if rfl h (fun h => ?_) (fun h => ?_)
     ·refine Z 4 rfl ?_
      obtain rfl := he9 _ h
      replace h := hA9
      obtain rfl := Eq.symm h
      exact st_ret (gs' := []) Tryz.func83 rfl (List.Sublist.refl _) ((hl7.trans hl9).trans hl15) ⟨rfl, rfl⟩
     ·refine Z 11 rfl ?_
      exact hn9 _ _ _ _ h ⟨(hl9.trans hl15), rfl, rfl⟩
   refine Z 3 rfl ?_
   refine o_mif rfl rfl rfl rfl h (fun h => ?_) (fun h => ?_)
   ·refine Z 5 rfl ?_
    exact hk15 _ _ _ ⟨true, h, (Sto.Le.refl _), rfl, rfl⟩
   ·refine Z 5 rfl ?_
    exact hk15 _ _ _ ⟨(decide (65535 < q10)), h, (Sto.Le.refl _), rfl, rfl⟩
  ·refine st_exit rfl ?_
   obtain rfl := he9 _ h
   replace h := hA9
   exact hk8 _ _ _ ⟨(), h, hl9, rfl, rfl⟩
theorem msg_text_ok {a0 : ByteArray} {a1 : ByteArray × Int × Int × Int × Int × Int × Int} {r : Int} (h : msg_text a0 a1 r) (σ : Sto)  :
    Does Tryz.prog 84 [.string a0, .agg [.string a1.1, .int .i64 a1.2.1, .int .i64 a1.2.2.1, .int .i64 a1.2.2.2.1, .int .i64 a1.2.2.2.2.1, .int .i64 a1.2.2.2.2.2.1, .int .i64 a1.2.2.2.2.2.2].toArray] σ [] (fun v τ gs => gs = [] ∧ .int .i64 r = v) := by
 refine call_of Tryz.func84 Tryz.ntmps84 rfl rfl (fun cs fs => ?_)
 refine Z 2 rfl ?_
 refine o_boxC rfl rfl rfl rfl rfl rfl (fun b1 => ?_)
 refine ZZ 8 [0] rfl rfl ?_
 obtain ⟨r2, hr3, h⟩ := h
 refine st_call (foot := []) rfl rfl rfl rfl rfl rfl (callV_fn z_en117 (msg_many_ok hr3 σ)) ?_
 rintro vτ4 τ4 gsτ4 hl5 ⟨rfl, rfl⟩
 refine Z 7 rfl ?_
 refine st_if rfl h (fun h => ?_) (fun h => ?_)
 ·refine Z 5 rfl ?_
  refine st_ord [] _ rfl ?_
  obtain rfl := Eq.symm h
  exact st_ret (gs' := []) Tryz.func84 rfl (List.Sublist.refl _) hl5 ⟨rfl, rfl⟩
 ·refine Z 2 rfl ?_
  refine st_cut (fun ρ τ6 gs => ∃ (s6 : Unit), msg_text_j1 s6 r ∧ τ4.Le τ6 ∧ ESub ρ [(4, .int .i64 0)] ∧ gs = []) ?_ (fun hk6 => ?_)
  ·rintro ρ6 τ6 gs6 ⟨s6, h, hl6, hρ, rfl⟩
   refine st_es hρ ?_
   refine Z 4 rfl ?_
   obtain rfl := Eq.symm h
   exact st_ret (gs' := []) Tryz.func84 rfl (List.Sublist.refl _) (hl5.trans hl6) ⟨rfl, rfl⟩
  refine Z 3 rfl ?_
  obtain ⟨hf11, h⟩ := h
  refine o_bytes rfl rfl rfl Tryz.underlying9 Tryz.underlying23 Tryz.underlying5 rfl hf11 (fun v7 τ8 hl9 hs10 => ?_)
  refine o_lenI rfl rfl rfl z_slT23 rfl hs10 ?_
  refine Z 2 rfl ?_
  obtain ⟨e12, hL12, hA12⟩ := h
  refine st_ord [] _ rfl ?_
  refine st_loop hL12 (fun (s12 : Int) ρ τ12 gs => τ8.Le τ12 ∧ ESub ρ [(4, .int .i64 0), (16, v7), (17, .int .i64 ((bints a0).length : Int)), (18, .int .i64 s12)] ∧ gs = []) ⟨Sto.Le.refl _, rfl, rfl⟩ ?_
  rintro s12 o12 h he12 ρ12 τ12 gs12 ⟨hl12, hρ, rfl⟩ hn12
  refine st_es hρ ?_
  refine Z 5 rfl ?_
  refine st_if rfl h (fun h => ?_) (fun h => ?_)
  ·refine Z 5 rfl ?_
   obtain ⟨q13, hf14, h⟩ := h
   refine o_index rfl rfl rfl z_slT23 rfl rfl (hs10.up hl12) rfl hf14 (fun b15 of16 vs hc17 hrep => ?_)
   obtain rfl := hrep
   refine o_loadI (v := .int .u8 q13) rfl rfl rfl z_sc5 rfl (hc17 0 _ rfl) ?_
   refine Z 3 rfl ?_
   refine st_cut (fun ρ τ18 gs => ∃ (s18 : Bool), msg_text_j3 s12 s18 o12 ∧ τ12.Le τ18 ∧ ESub ρ [(4, .int .i64 0), (16, v7), (17, .int .i64 ((bints a0).length : Int)), (18, .int .i64 s12), (27, .bool s18)] ∧ gs = []) ?_ (fun hk18 => ?_)
   ·rintro ρ18 τ18 gs18 ⟨s18, h, hl18, hρ, rfl⟩
    refine st_es hρ ?_
    refine st_if rfl h (fun h => ?_) (fun h => ?_)
    ·refine Z 4 rfl ?_
     obtain rfl := he12 _ h
     replace h := hA12
     obtain rfl := Eq.symm h
     exact st_ret (gs' := []) Tryz.func84 rfl (List.Sublist.refl _) (((hl5.trans hl9).trans hl12).trans hl18) ⟨rfl, rfl⟩
    ·refine Z 6 rfl ?_
     exact hn12 _ _ _ _ h ⟨(hl12.trans hl18), rfl, rfl⟩
   refine Z 3 rfl ?_
   refine o_mif rfl rfl rfl rfl h (fun h => ?_) (fun h => ?_)
   ·refine Z 4 rfl ?_
    exact hk18 _ _ _ ⟨true, h, (Sto.Le.refl _), rfl, rfl⟩
   ·refine Z 4 rfl ?_
    exact hk18 _ _ _ ⟨(decide (126 < q13)), h, (Sto.Le.refl _), rfl, rfl⟩
  ·refine st_exit rfl ?_
   obtain rfl := he12 _ h
   replace h := hA12
   exact hk6 _ _ _ ⟨(), h, (hl9.trans hl12), rfl, rfl⟩
theorem msg_wrong_ok {a0 : Int × List Int × List (Int × Int) × List Int × ByteArray × ByteArray} {a1 : ByteArray × Int × Int × Int × Int × Int × Int} {v1 : Value} {v2 : Value} {r : Int} (h : msg_wrong a0 a1 r) (σ : Sto) (hs3 : Sl (kP (kI .i64) (kI .i64)) σ v1 a0.2.2.1) (hs4 : Sl (kI .i64) σ v2 a0.2.2.2.1) :
    Does Tryz.prog 46 [.agg [.int .i64 a0.1, .int .i64 (a0.2.1.getD 0 0), .int .i64 (a0.2.1.getD 1 0), .int .i64 (a0.2.1.getD 2 0), .int .i64 (a0.2.1.getD 3 0), .int .i64 (a0.2.1.getD 4 0), .int .i64 (a0.2.1.getD 5 0), v1, v2, .string a0.2.2.2.2.1, .string a0.2.2.2.2.2].toArray, .agg [.string a1.1, .int .i64 a1.2.1, .int .i64 a1.2.2.1, .int .i64 a1.2.2.2.1, .int .i64 a1.2.2.2.2.1, .int .i64 a1.2.2.2.2.2.1, .int .i64 a1.2.2.2.2.2.2].toArray] σ [] (fun v τ gs => gs = [] ∧ .int .i64 r = v) := by
 refine call_of Tryz.func46 Tryz.ntmps46 rfl rfl (fun cs fs => ?_)
 refine Z 2 rfl ?_
 refine o_box (cs := [.int .i64 a0.1, .int .i64 (a0.2.1.getD 0 0), .int .i64 (a0.2.1.getD 1 0), .int .i64 (a0.2.1.getD 2 0), .int .i64 (a0.2.1.getD 3 0), .int .i64 (a0.2.1.getD 4 0), .int .i64 (a0.2.1.getD 5 0), v1, v2, .string a0.2.2.2.2.1, .string a0.2.2.2.2.2]) rfl rfl rfl rfl rfl (fun b5 => ?_)
 refine o_boxC rfl rfl rfl rfl rfl rfl (fun b6 => ?_)
 refine ZZ 14 [0] rfl rfl ?_
 refine st_if rfl h (fun h => ?_) (fun h => ?_)
 ·refine ZZ 5 [1, 0] rfl rfl ?_
  obtain ⟨r7, hr8, h⟩ := h
  refine st_call (foot := []) rfl rfl rfl rfl rfl rfl (callV_fn z_en82 (msg_path_ok hr8 σ hs3)) ?_
  rintro vτ9 τ9 gsτ9 hl10 ⟨rfl, rfl⟩
  refine Z 2 rfl ?_
  refine st_ord [] _ rfl ?_
  obtain rfl := Eq.symm h
  exact st_ret (gs' := []) Tryz.func46 rfl (List.Sublist.refl _) hl10 ⟨rfl, rfl⟩
 ·refine Z 5 rfl ?_
  refine st_if rfl h (fun h => ?_) (fun h => ?_)
  ·refine ZZ 5 [1, 0] rfl rfl ?_
   obtain ⟨r11, hr12, h⟩ := h
   refine st_call (foot := []) rfl rfl rfl rfl rfl rfl (callV_fn z_en83 (msg_cells_ok hr12 σ hs4)) ?_
   rintro vτ13 τ13 gsτ13 hl14 ⟨rfl, rfl⟩
   refine Z 2 rfl ?_
   refine st_ord [] _ rfl ?_
   obtain rfl := Eq.symm h
   exact st_ret (gs' := []) Tryz.func46 rfl (List.Sublist.refl _) hl14 ⟨rfl, rfl⟩
  ·refine Z 5 rfl ?_
   refine st_if rfl h (fun h => ?_) (fun h => ?_)
   ·refine ZZ 5 [1, 0] rfl rfl ?_
    obtain ⟨r15, hr16, h⟩ := h
    refine st_call (foot := []) rfl rfl rfl rfl rfl rfl (callV_fn z_en84 (msg_text_ok hr16 σ)) ?_
    rintro vτ17 τ17 gsτ17 hl18 ⟨rfl, rfl⟩
    refine Z 2 rfl ?_
    refine st_ord [] _ rfl ?_
    obtain rfl := Eq.symm h
    exact st_ret (gs' := []) Tryz.func46 rfl (List.Sublist.refl _) hl18 ⟨rfl, rfl⟩
   ·refine Z 5 rfl ?_
    refine st_if rfl h (fun h => ?_) (fun h => ?_)
    ·refine ZZ 5 [1, 0] rfl rfl ?_
     obtain ⟨r19, hr20, h⟩ := h
     refine st_call (foot := []) rfl rfl rfl rfl rfl rfl (callV_fn z_en84 (msg_text_ok hr20 σ)) ?_
     rintro vτ21 τ21 gsτ21 hl22 ⟨rfl, rfl⟩
     refine Z 2 rfl ?_
     refine st_ord [] _ rfl ?_
     obtain rfl := Eq.symm h
     exact st_ret (gs' := []) Tryz.func46 rfl (List.Sublist.refl _) hl22 ⟨rfl, rfl⟩
    ·refine ZZ 8 [0] rfl rfl ?_
     obtain ⟨hf23, hf24, h⟩ := h
     refine o_indexA rfl rfl rfl z_arr35 rfl rfl hf23 hf24 ?_
     refine o_loadV (j := 1) (a1.2.2.1.toNat) (f := (Value.int .i64)) (zz := 0) (l := 6) (xs := a0.2.1) [.int .i64 a0.1] [v1, v2, .string a0.2.2.2.2.1, .string a0.2.2.2.2.2] rfl rfl rfl z_sc3 rfl rfl (by simp only [List.length_cons, List.length_nil] <;> omega) (by omega) ?_
     refine Z 3 rfl ?_
     refine st_cut (fun ρ τ25 gs => ∃ (s25 : Bool), msg_wrong_j1 s25 r ∧ σ.Le τ25 ∧ ESub ρ [(4, .int .i64 0), (46, .bool s25)] ∧ gs = []) ?_ (fun hk25 => ?_)
     ·rintro ρ25 τ25 gs25 ⟨s25, h, hl25, hρ, rfl⟩
      refine st_es hρ ?_
      refine st_if rfl h (fun h => ?_) (fun h => ?_)
      ·refine Z 4 rfl ?_
       obtain rfl := Eq.symm h
       exact st_ret (gs' := []) Tryz.func46 rfl (List.Sublist.refl _) hl25 ⟨rfl, rfl⟩
      ·refine Z 5 rfl ?_
       obtain rfl := Eq.symm h
       exact st_ret (gs' := []) Tryz.func46 rfl (List.Sublist.refl _) hl25 ⟨rfl, rfl⟩
     refine ZZ 5 [0] rfl rfl ?_
     refine o_mif rfl rfl rfl rfl h (fun h => ?_) (fun h => ?_)
     ·refine Z 6 rfl ?_
      refine st_ord [] _ rfl ?_
      exact hk25 _ _ _ ⟨true, h, (Sto.Le.refl _), rfl, rfl⟩
     ·refine ZZ 6 [0] rfl rfl ?_
      refine st_ord [] _ rfl ?_
      exact hk25 _ _ _ ⟨(decide (a1.2.2.2.2.1 < (a0.2.1.getD a1.2.2.1.toNat 0))), h, (Sto.Le.refl _), rfl, rfl⟩
theorem msg_without_ok {a0 : Int × List Int × List (Int × Int) × List Int × ByteArray × ByteArray} {a1 : ByteArray × Int × Int × Int × Int × Int × Int} {v1 : Value} {v2 : Value} {r : (Int × List Int × List (Int × Int) × List Int × ByteArray × ByteArray)} (h : msg_without a0 a1 r) (σ : Sto) (hs3 : Sl (kP (kI .i64) (kI .i64)) σ v1 a0.2.2.1) (hs4 : Sl (kI .i64) σ v2 a0.2.2.2.1) :
    Does Tryz.prog 47 [.agg [.int .i64 a0.1, .int .i64 (a0.2.1.getD 0 0), .int .i64 (a0.2.1.getD 1 0), .int .i64 (a0.2.1.getD 2 0), .int .i64 (a0.2.1.getD 3 0), .int .i64 (a0.2.1.getD 4 0), .int .i64 (a0.2.1.getD 5 0), v1, v2, .string a0.2.2.2.2.1, .string a0.2.2.2.2.2].toArray, .agg [.string a1.1, .int .i64 a1.2.1, .int .i64 a1.2.2.1, .int .i64 a1.2.2.2.1, .int .i64 a1.2.2.2.2.1, .int .i64 a1.2.2.2.2.2.1, .int .i64 a1.2.2.2.2.2.2].toArray] σ [] (fun v τ gs => ∃ (v15 : Value) (v16 : Value), gs = [] ∧ .agg [.int .i64 r.1, .int .i64 (r.2.1.getD 0 0), .int .i64 (r.2.1.getD 1 0), .int .i64 (r.2.1.getD 2 0), .int .i64 (r.2.1.getD 3 0), .int .i64 (r.2.1.getD 4 0), .int .i64 (r.2.1.getD 5 0), v15, v16, .string r.2.2.2.2.1, .string r.2.2.2.2.2].toArray = v ∧ Sl (kP (kI .i64) (kI .i64)) τ v15 r.2.2.1 ∧ Sl (kI .i64) τ v16 r.2.2.2.1) := by
 refine call_of Tryz.func47 Tryz.ntmps47 rfl rfl (fun cs fs => ?_)
 refine Z 2 rfl ?_
 refine o_box (cs := [.int .i64 a0.1, .int .i64 (a0.2.1.getD 0 0), .int .i64 (a0.2.1.getD 1 0), .int .i64 (a0.2.1.getD 2 0), .int .i64 (a0.2.1.getD 3 0), .int .i64 (a0.2.1.getD 4 0), .int .i64 (a0.2.1.getD 5 0), v1, v2, .string a0.2.2.2.2.1, .string a0.2.2.2.2.2]) rfl rfl rfl rfl rfl (fun b5 => ?_)
 refine o_boxC rfl rfl rfl rfl rfl rfl (fun b6 => ?_)
 refine o_alloc rfl rfl rfl z_zero38 (fun b7 => ?_)
 refine Z 2 rfl ?_
 refine st_cut (fun ρ τ8 gs => ∃ (s8 : Int × Int × Int × Int × Int × Int × (List (Int × Int)) × List Int × ByteArray × ByteArray) (v9 : Value) (v11 : Value), msg_without_j1 a0 s8 r ∧ σ.Le τ8 ∧ ESub ρ [(2, .pointer (some ⟨b5, 0, none⟩)), (4, .pointer (some ⟨b7, 0, none⟩))] ∧ gs = [[(b5, .cells #[.int .i64 a0.1, .int .i64 s8.1, .int .i64 s8.2.1, .int .i64 s8.2.2.1, .int .i64 s8.2.2.2.1, .int .i64 s8.2.2.2.2.1, .int .i64 s8.2.2.2.2.2.1, v9, v11, .string s8.2.2.2.2.2.2.2.2.1, .string s8.2.2.2.2.2.2.2.2.2] 38 (0, 0))], [(b7, .cells #[.int .i64 0, .int .i64 0, .int .i64 0, .int .i64 0, .int .i64 0, .int .i64 0, .int .i64 0, .slice none 0 0, .slice none 0 0, .string (bstr []), .string (bstr [])] 38 (0, 0))]] ∧ Sl (kP (kI .i64) (kI .i64)) τ8 v9 s8.2.2.2.2.2.2.1 ∧ Sl (kI .i64) τ8 v11 s8.2.2.2.2.2.2.2.1) ?_ (fun hk8 => ?_)
 ·rintro ρ8 τ8 gs8 ⟨s8, v9, v11, h, hl8, hρ, rfl, hs10, hs12⟩
  refine st_es hρ ?_
  refine ZZ 3 [0] rfl rfl ?_
  refine o_store (j := 1) (vs := [.int .i64 a0.1, .int .i64 s8.1, .int .i64 s8.2.1, .int .i64 s8.2.2.1, .int .i64 s8.2.2.2.1, .int .i64 s8.2.2.2.2.1, .int .i64 s8.2.2.2.2.2.1, v9, v11, .string s8.2.2.2.2.2.2.2.2.1, .string s8.2.2.2.2.2.2.2.2.2]) (cs' := [.int .i64 a0.1, .int .i64 s8.1, .int .i64 s8.2.1, .int .i64 s8.2.2.1, .int .i64 s8.2.2.2.1, .int .i64 s8.2.2.2.2.1, .int .i64 s8.2.2.2.2.2.1, v9, v11, .string s8.2.2.2.2.2.2.2.2.1, .string s8.2.2.2.2.2.2.2.2.2]) rfl rfl rfl z_size38 rfl rfl rfl (ones_cons rfl (ones_cons rfl (ones_cons rfl (ones_cons rfl (ones_cons rfl (ones_cons rfl (ones_cons rfl (ones_cons hs10.one' (ones_cons hs12.one' (ones_cons rfl (ones_cons rfl ones_nil))))))))))) rfl rfl rfl ?_
  refine st_gs [[(b5, .cells #[.int .i64 a0.1, .int .i64 s8.1, .int .i64 s8.2.1, .int .i64 s8.2.2.1, .int .i64 s8.2.2.2.1, .int .i64 s8.2.2.2.2.1, .int .i64 s8.2.2.2.2.2.1, v9, v11, .string s8.2.2.2.2.2.2.2.2.1, .string s8.2.2.2.2.2.2.2.2.2] 38 (0, 0))], [(b7, .cells #[.int .i64 a0.1, .int .i64 s8.1, .int .i64 s8.2.1, .int .i64 s8.2.2.1, .int .i64 s8.2.2.2.1, .int .i64 s8.2.2.2.2.1, .int .i64 s8.2.2.2.2.2.1, v9, v11, .string s8.2.2.2.2.2.2.2.2.1, .string s8.2.2.2.2.2.2.2.2.2] 38 (0, 0))]] rfl ?_
  refine st_end ?_
  obtain rfl := Eq.symm h
  exact st_retC (gs' := []) [.agg #[.int .i64 a0.1, .int .i64 s8.1, .int .i64 s8.2.1, .int .i64 s8.2.2.1, .int .i64 s8.2.2.2.1, .int .i64 s8.2.2.2.2.1, .int .i64 s8.2.2.2.2.2.1, v9, v11, .string s8.2.2.2.2.2.2.2.2.1, .string s8.2.2.2.2.2.2.2.2.2]] Tryz.func47 ⟨⟨_, _, _, _, rfl, mem_flat 1 rfl, fun w hw => cellOfN (vs := [.int .i64 a0.1, .int .i64 s8.1, .int .i64 s8.2.1, .int .i64 s8.2.2.1, .int .i64 s8.2.2.2.1, .int .i64 s8.2.2.2.2.1, .int .i64 s8.2.2.2.2.2.1, v9, v11, .string s8.2.2.2.2.2.2.2.2.1, .string s8.2.2.2.2.2.2.2.2.2]) z_agg38 rfl w hw⟩, trivial⟩ (by simp) hl8 ⟨_, _, rfl, rfl, hs10, hs12⟩
 refine ZZ 11 [1] rfl rfl ?_
 refine st_if rfl h (fun h => ?_) (fun h => ?_)
 ·refine ZZ 5 [2] rfl rfl ?_
  refine st_ord [2, 0] _ rfl ?_
  exact hk8 _ _ _ ⟨((a0.2.1.getD 0 0), (a0.2.1.getD 1 0), (a0.2.1.getD 2 0), (a0.2.1.getD 3 0), (a0.2.1.getD 4 0), (a0.2.1.getD 5 0), [], a0.2.2.2.1, a0.2.2.2.2.1, a0.2.2.2.2.2), _, _, h, (Sto.Le.refl _), rfl, rfl, Sl.nil, hs4⟩
 ·refine Z 5 rfl ?_
  refine st_if rfl h (fun h => ?_) (fun h => ?_)
  ·refine ZZ 5 [2] rfl rfl ?_
   refine st_ord [2, 0] _ rfl ?_
   exact hk8 _ _ _ ⟨((a0.2.1.getD 0 0), (a0.2.1.getD 1 0), (a0.2.1.getD 2 0), (a0.2.1.getD 3 0), (a0.2.1.getD 4 0), (a0.2.1.getD 5 0), a0.2.2.1, [], a0.2.2.2.2.1, a0.2.2.2.2.2), _, _, h, (Sto.Le.refl _), rfl, rfl, hs3, Sl.nil⟩
  ·refine Z 5 rfl ?_
   refine st_if rfl h (fun h => ?_) (fun h => ?_)
   ·refine Z 2 rfl ?_
    refine o_store (j := 2) (vs := [.string (bstr [])]) (cs' := [.int .i64 a0.1, .int .i64 (a0.2.1.getD 0 0), .int .i64 (a0.2.1.getD 1 0), .int .i64 (a0.2.1.getD 2 0), .int .i64 (a0.2.1.getD 3 0), .int .i64 (a0.2.1.getD 4 0), .int .i64 (a0.2.1.getD 5 0), v1, v2, .string (bstr []), .string a0.2.2.2.2.2]) rfl rfl rfl z_size9 rfl (ev_str z_str0) rfl (ones_cons rfl ones_nil) rfl rfl rfl ?_
    refine st_gs [[(b7, .cells #[.int .i64 0, .int .i64 0, .int .i64 0, .int .i64 0, .int .i64 0, .int .i64 0, .int .i64 0, .slice none 0 0, .slice none 0 0, .string (bstr []), .string (bstr [])] 38 (0, 0))], [(b6, .cells #[.string a1.1, .int .i64 a1.2.1, .int .i64 a1.2.2.1, .int .i64 a1.2.2.2.1, .int .i64 a1.2.2.2.2.1, .int .i64 a1.2.2.2.2.2.1, .int .i64 a1.2.2.2.2.2.2] 96 (0, 0))], [(b5, .cells #[.int .i64 a0.1, .int .i64 (a0.2.1.getD 0 0), .int .i64 (a0.2.1.getD 1 0), .int .i64 (a0.2.1.getD 2 0), .int .i64 (a0.2.1.getD 3 0), .int .i64 (a0.2.1.getD 4 0), .int .i64 (a0.2.1.getD 5 0), v1, v2, .string (bstr []), .string a0.2.2.2.2.2] 38 (0, 0))]] rfl ?_
    refine Z 2 rfl ?_
    refine st_ord [2, 0] _ rfl ?_
    exact hk8 _ _ _ ⟨((a0.2.1.getD 0 0), (a0.2.1.getD 1 0), (a0.2.1.getD 2 0), (a0.2.1.getD 3 0), (a0.2.1.getD 4 0), (a0.2.1.getD 5 0), a0.2.2.1, a0.2.2.2.1, (bstr []), a0.2.2.2.2.2), _, _, h, (Sto.Le.refl _), rfl, rfl, hs3, hs4⟩
   ·refine Z 5 rfl ?_
    refine st_if rfl h (fun h => ?_) (fun h => ?_)
    ·refine Z 2 rfl ?_
     refine o_store (j := 2) (vs := [.string (bstr [])]) (cs' := [.int .i64 a0.1, .int .i64 (a0.2.1.getD 0 0), .int .i64 (a0.2.1.getD 1 0), .int .i64 (a0.2.1.getD 2 0), .int .i64 (a0.2.1.getD 3 0), .int .i64 (a0.2.1.getD 4 0), .int .i64 (a0.2.1.getD 5 0), v1, v2, .string a0.2.2.2.2.1, .string (bstr [])]) rfl rfl rfl z_size9 rfl (ev_str z_str0) rfl (ones_cons rfl ones_nil) rfl rfl rfl ?_
     refine st_gs [[(b7, .cells #[.int .i64 0, .int .i64 0, .int .i64 0, .int .i64 0, .int .i64 0, .int .i64 0, .int .i64 0, .slice none 0 0, .slice none 0 0, .string (bstr []), .string (bstr [])] 38 (0, 0))], [(b6, .cells #[.string a1.1, .int .i64 a1.2.1, .int .i64 a1.2.2.1, .int .i64 a1.2.2.2.1, .int .i64 a1.2.2.2.2.1, .int .i64 a1.2.2.2.2.2.1, .int .i64 a1.2.2.2.2.2.2] 96 (0, 0))], [(b5, .cells #[.int .i64 a0.1, .int .i64 (a0.2.1.getD 0 0), .int .i64 (a0.2.1.getD 1 0), .int .i64 (a0.2.1.getD 2 0), .int .i64 (a0.2.1.getD 3 0), .int .i64 (a0.2.1.getD 4 0), .int .i64 (a0.2.1.getD 5 0), v1, v2, .string a0.2.2.2.2.1, .string (bstr [])] 38 (0, 0))]] rfl ?_
     refine Z 2 rfl ?_
     refine st_ord [2, 0] _ rfl ?_
     exact hk8 _ _ _ ⟨((a0.2.1.getD 0 0), (a0.2.1.getD 1 0), (a0.2.1.getD 2 0), (a0.2.1.getD 3 0), (a0.2.1.getD 4 0), (a0.2.1.getD 5 0), a0.2.2.1, a0.2.2.2.1, a0.2.2.2.2.1, (bstr [])), _, _, h, (Sto.Le.refl _), rfl, rfl, hs3, hs4⟩
    ·refine ZZ 4 [1] rfl rfl ?_
     obtain ⟨hf13, hf14, h⟩ := h
     refine o_indexA rfl rfl rfl z_arr35 rfl rfl hf13 hf14 ?_
     refine o_storeV (j := 2) (a1.2.2.1.toNat) (f := (Value.int .i64)) (zz := 0) (a := 0) (l := 6) (xs := a0.2.1) [.int .i64 a0.1] [v1, v2, .string a0.2.2.2.2.1, .string a0.2.2.2.2.2] rfl rfl rfl z_size3 rfl rfl rfl rfl rfl (by simp only [List.length_cons, List.length_nil] <;> omega) (by omega) ?_
     refine st_gs [[(b7, .cells #[.int .i64 0, .int .i64 0, .int .i64 0, .int .i64 0, .int .i64 0, .int .i64 0, .int .i64 0, .slice none 0 0, .slice none 0 0, .string (bstr []), .string (bstr [])] 38 (0, 0))], [(b6, .cells #[.string a1.1, .int .i64 a1.2.1, .int .i64 a1.2.2.1, .int .i64 a1.2.2.2.1, .int .i64 a1.2.2.2.2.1, .int .i64 a1.2.2.2.2.2.1, .int .i64 a1.2.2.2.2.2.2] 96 (0, 0))], [(b5, .cells #[.int .i64 a0.1, .int .i64 ((putN 6 0 a0.2.1 a1.2.2.1.toNat 0).getD 0 0), .int .i64 ((putN 6 0 a0.2.1 a1.2.2.1.toNat 0).getD 1 0), .int .i64 ((putN 6 0 a0.2.1 a1.2.2.1.toNat 0).getD 2 0), .int .i64 ((putN 6 0 a0.2.1 a1.2.2.1.toNat 0).getD 3 0), .int .i64 ((putN 6 0 a0.2.1 a1.2.2.1.toNat 0).getD 4 0), .int .i64 ((putN 6 0 a0.2.1 a1.2.2.1.toNat 0).getD 5 0), v1, v2, .string a0.2.2.2.2.1, .string a0.2.2.2.2.2] 38 (0, 0))]] rfl ?_
     refine Z 2 rfl ?_
     refine st_ord [2, 0] _ rfl ?_
     exact hk8 _ _ _ ⟨(((putN 6 0 a0.2.1 a1.2.2.1.toNat 0).getD 0 0), ((putN 6 0 a0.2.1 a1.2.2.1.toNat 0).getD 1 0), ((putN 6 0 a0.2.1 a1.2.2.1.toNat 0).getD 2 0), ((putN 6 0 a0.2.1 a1.2.2.1.toNat 0).getD 3 0), ((putN 6 0 a0.2.1 a1.2.2.1.toNat 0).getD 4 0), ((putN 6 0 a0.2.1 a1.2.2.1.toNat 0).getD 5 0), a0.2.2.1, a0.2.2.2.1, a0.2.2.2.2.1, a0.2.2.2.2.2), _, _, h, (Sto.Le.refl _), rfl, rfl, hs3, hs4⟩
theorem slices_Equal_msg_Point_msg_Point_ok {a0 : List (Int × Int)} {a1 : List (Int × Int)} {v1 : Value} {v3 : Value} {r : Bool} (h : slices_Equal_msg_Point_msg_Point a0 a1 r) (σ : Sto) (hs2 : Sl (kP (kI .i64) (kI .i64)) σ v1 a0) (hs4 : Sl (kP (kI .i64) (kI .i64)) σ v3 a1) :
    Does Tryz.prog 48 [v1, v3] σ [] (fun v τ gs => gs = [] ∧ .bool r = v) := by
 refine call_of Tryz.func48 Tryz.ntmps48 rfl rfl (fun cs fs => ?_)
 refine Z 8 rfl ?_
 refine o_lenI rfl rfl rfl z_slT36 rfl hs2 ?_
 refine o_move rfl rfl rfl rfl ?_
 refine o_lenI rfl rfl rfl z_slT36 rfl hs4 ?_
 refine Z 2 rfl ?_
 refine st_if rfl h (fun h => ?_) (fun h => ?_)
 ·refine Z 4 rfl ?_
  obtain rfl := Eq.symm h
  exact st_ret (gs' := []) Tryz.func48 rfl (List.Sublist.refl _) (Sto.Le.refl _) ⟨rfl, rfl⟩
 ·refine Z 2 rfl ?_
  refine st_cut (fun ρ τ5 gs => ∃ (s5 : Unit), slices_Equal_msg_Point_msg_Point_j1 s5 r ∧ σ.Le τ5 ∧ ESub ρ [(4, .bool false)] ∧ gs = []) ?_ (fun hk5 => ?_)
  ·rintro ρ5 τ5 gs5 ⟨s5, h, hl5, hρ, rfl⟩
   refine st_es hρ ?_
   refine Z 4 rfl ?_
   obtain rfl := Eq.symm h
   exact st_ret (gs' := []) Tryz.func48 rfl (List.Sublist.refl _) hl5 ⟨rfl, rfl⟩
  refine Z 3 rfl ?_
  refine o_lenI rfl rfl rfl z_slT36 rfl hs2 ?_
  refine Z 2 rfl ?_
  obtain ⟨e6, hL6, hA6⟩ := h
  refine st_loop hL6 (fun (s6 : Int) ρ τ6 gs => σ.Le τ6 ∧ ESub ρ [(0, v1), (1, v3), (4, .bool false), (12, .int .i64 (a0.length : Int)), (13, .int .i64 s6)] ∧ gs = []) ⟨Sto.Le.refl _, rfl, rfl⟩ ?_
  rintro s6 o6 h he6 ρ6 τ6 gs6 ⟨hl6, hρ, rfl⟩ hn6
  refine st_es hρ ?_
  refine Z 5 rfl ?_
  refine st_if rfl h (fun h => ?_) (fun h => ?_)
  ·refine Z 9 rfl ?_
   obtain ⟨q7, hf8, q12, hf13, h⟩ := h
   refine st_draw 9 (dl [.v (v1), .v (.int .i64 s6), .t fun τ v => ∃ (b9 : Nat) (of10 : Nat) (vsb9 : List Value), (.pointer (some ⟨b9, of10, none⟩) : Value) = v ∧ CelN τ ⟨b9, of10, none⟩ vsb9 ∧ (kP (kI .i64) (kI .i64)).rep τ vsb9 q7, .v (.agg #[.int .i64 q7.1, .int .i64 q7.2]), .v (v3), .v (.int .i64 s6), .t fun τ v => ∃ (b14 : Nat) (of15 : Nat) (vsb14 : List Value), (.pointer (some ⟨b14, of15, none⟩) : Value) = v ∧ CelN τ ⟨b14, of15, none⟩ vsb14 ∧ (kP (kI .i64) (kI .i64)).rep τ vsb14 q12, .v (.agg #[.int .i64 q12.1, .int .i64 q12.2]), .v (.bool (!((decide (q7.1 = q12.1)) && ((decide (q7.2 = q12.2)) && true))))]) (fun _ _ => []) z_mix rfl (dl_mono ⟨fun _ _ _ hl ⟨b9, of10, vsb9, hv, hc11, hrepb9⟩ => ⟨b9, of10, vsb9, hv, hc11.up hl, Kd.mono _ hl hrepb9⟩, ⟨fun _ _ _ hl ⟨b14, of15, vsb14, hv, hc16, hrepb14⟩ => ⟨b14, of15, vsb14, hv, hc16.up hl, Kd.mono _ hl hrepb14⟩, trivial⟩⟩) (allB_cons (allB_cons (allB_cons (allB_cons (allB_cons (allB_cons (allB_cons (allB_cons (allB_cons allB_nil (p1 dA)) (p1 dA)) ?_) ?_) (p1 dA)) (p1 dA)) ?_) ?_) ?_) ?_
   ·intro ρ' τ pool rs hl hd hout hk
    obtain ⟨_, e0, rfl⟩ := hd 0 rfl
    obtain ⟨_, e1, rfl⟩ := hd 1 rfl
    refine o_index rfl rfl rfl z_slT36 rfl e0 (hs2.up (hl6.trans hl)) e1 hf8 (fun b9 of10 vsb9 hc11 hrepb9 => ?_)
    exact st_addNil (hk _ _ (Sto.Le.refl _) ⟨b9, of10, _, rfl, hc11, hrepb9⟩)
   ·intro ρ' τ pool rs hl hd hout hk
    obtain ⟨_, e2, b9, of10, vsb9, rfl, hc11, hrepb9⟩ := hd 2 rfl
    have hrepb9 := hrepb9
    obtain ⟨_, _, rfl, rfl, rfl⟩ := hrepb9
    refine o_loadIN (vs := [.int .i64 q7.1, .int .i64 q7.2]) rfl rfl rfl z_agg105 e2 rfl (celn_part 0 rfl hc11) ?_
    exact st_addNil (hk _ _ (Sto.Le.refl _) rfl)
   ·intro ρ' τ pool rs hl hd hout hk
    obtain ⟨_, e4, rfl⟩ := hd 4 rfl
    obtain ⟨_, e5, rfl⟩ := hd 5 rfl
    refine o_index rfl rfl rfl z_slT36 rfl e4 (hs4.up (hl6.trans hl)) e5 hf13 (fun b14 of15 vsb14 hc16 hrepb14 => ?_)
    exact st_addNil (hk _ _ (Sto.Le.refl _) ⟨b14, of15, _, rfl, hc16, hrepb14⟩)
   ·intro ρ' τ pool rs hl hd hout hk
    obtain ⟨_, e6, b14, of15, vsb14, rfl, hc16, hrepb14⟩ := hd 6 rfl
    have hrepb14 := hrepb14
    obtain ⟨_, _, rfl, rfl, rfl⟩ := hrepb14
    refine o_loadIN (vs := [.int .i64 q12.1, .int .i64 q12.2]) rfl rfl rfl z_agg105 e6 rfl (celn_part 0 rfl hc16) ?_
    exact st_addNil (hk _ _ (Sto.Le.refl _) rfl)
   ·intro ρ' τ pool rs hl hd hout hk
    obtain ⟨_, e3, rfl⟩ := hd 3 rfl
    obtain ⟨_, e7, rfl⟩ := hd 7 rfl
    refine o_aggEq (b := ((decide (q7.1 = q12.1)) && ((decide (q7.2 = q12.2)) && true))) (e := (!((decide (q7.1 = q12.1)) && ((decide (q7.2 = q12.2)) && true)))) rfl rfl rfl z_eqg105 e3 e7 (fun w => by refine eq_struct Tryz.underlying105 z_held105 ?_; refine eqf_cons (r := (decide (q7.1 = q12.1))) (r' := ((decide (q7.2 = q12.2)) && true)) rfl (part_one z_sc3 rfl) (part_one z_sc3 rfl) (by exact eq_int Tryz.underlying3 _ _) ?_; refine eqf_cons (r := (decide (q7.2 = q12.2))) (r' := true) rfl (part_one z_sc3 rfl) (part_one z_sc3 rfl) (by exact eq_int Tryz.underlying3 _ _) ?_; exact eqf_nil _ _ _ _) rfl ?_
    exact st_addNil (hk _ _ (Sto.Le.refl _) rfl)
   intro ρ' τ17 vals hl17 hv hout
   refine st_ord [] _ rfl ?_
   refine st_env (ρ' := [(24, .bool (!((decide (q7.1 = q12.1)) && ((decide (q7.2 = q12.2)) && true)))), (0, v1), (1, v3), (4, .bool false), (12, .int .i64 (a0.length : Int)), (13, .int .i64 s6)]) ⟨(lv1 hv 8 rfl rfl), (hout 0 rfl).trans rfl, (hout 1 rfl).trans rfl, (hout 4 rfl).trans rfl, (hout 12 rfl).trans rfl, (hout 13 rfl).trans rfl, trivial⟩ ?_
   refine st_end ?_
   refine st_if rfl h (fun h => ?_) (fun h => ?_)
   ·refine Z 4 rfl ?_
    obtain rfl := he6 _ h
    replace h := hA6
    obtain rfl := Eq.symm h
    exact st_ret (gs' := []) Tryz.func48 rfl (List.Sublist.refl _) (hl6.trans hl17) ⟨rfl, rfl⟩
   ·refine Z 6 rfl ?_
    exact hn6 _ _ _ _ h ⟨(hl6.trans hl17), rfl, rfl⟩
  ·refine st_exit rfl ?_
   obtain rfl := he6 _ h
   replace h := hA6
   exact hk5 _ _ _ ⟨(), h, hl6, rfl, rfl⟩
theorem slices_Equal_int_int_ok {a0 : List Int} {a1 : List Int} {v1 : Value} {v3 : Value} {r : Bool} (h : slices_Equal_int_int a0 a1 r) (σ : Sto) (hs2 : Sl (kI .i64) σ v1 a0) (hs4 : Sl (kI .i64) σ v3 a1) :
    Does Tryz.prog 49 [v1, v3] σ [] (fun v τ gs => gs = [] ∧ .bool r = v) := by
 refine call_of Tryz.func49 Tryz.ntmps49 rfl rfl (fun cs fs => ?_)
 refine Z 8 rfl ?_
 refine o_lenI rfl rfl rfl z_slT27 rfl hs2 ?_
 refine o_move rfl rfl rfl rfl ?_
 refine o_lenI rfl rfl rfl z_slT27 rfl hs4 ?_
 refine Z 2 rfl ?_
 refine st_if rfl h (fun h => ?_) (fun h => ?_)
 ·refine Z 4 rfl ?_
  obtain rfl := Eq.symm h
  exact st_ret (gs' := []) Tryz.func49 rfl (List.Sublist.refl _) (Sto.Le.refl _) ⟨rfl, rfl⟩
 ·refine Z 2 rfl ?_
  refine st_cut (fun ρ τ5 gs => ∃ (s5 : Unit), slices_Equal_int_int_j1 s5 r ∧ σ.Le τ5 ∧ ESub ρ [(4, .bool false)] ∧ gs = []) ?_ (fun hk5 => ?_)
  ·rintro ρ5 τ5 gs5 ⟨s5, h, hl5, hρ, rfl⟩
   refine st_es hρ ?_
   refine Z 4 rfl ?_
   obtain rfl := Eq.symm h
   exact st_ret (gs' := []) Tryz.func49 rfl (List.Sublist.refl _) hl5 ⟨rfl, rfl⟩
  refine Z 3 rfl ?_
  refine o_lenI rfl rfl rfl z_slT27 rfl hs2 ?_
  refine Z 2 rfl ?_
  obtain ⟨e6, hL6, hA6⟩ := h
  refine st_loop hL6 (fun (s6 : Int) ρ τ6 gs => σ.Le τ6 ∧ ESub ρ [(0, v1), (1, v3), (4, .bool false), (12, .int .i64 (a0.length : Int)), (13, .int .i64 s6)] ∧ gs = []) ⟨Sto.Le.refl _, rfl, rfl⟩ ?_
  rintro s6 o6 h he6 ρ6 τ6 gs6 ⟨hl6, hρ, rfl⟩ hn6
  refine st_es hρ ?_
  refine Z 5 rfl ?_
  refine st_if rfl h (fun h => ?_) (fun h => ?_)
  ·refine Z 9 rfl ?_
   obtain ⟨q7, hf8, q12, hf13, h⟩ := h
   refine st_draw 9 (dl [.v (v1), .v (.int .i64 s6), .t fun τ v => ∃ (b9 : Nat) (of10 : Nat) (vsb9 : List Value), (.pointer (some ⟨b9, of10, none⟩) : Value) = v ∧ CelN τ ⟨b9, of10, none⟩ vsb9 ∧ (kI .i64).rep τ vsb9 q7, .v (.int .i64 q7), .v (v3), .v (.int .i64 s6), .t fun τ v => ∃ (b14 : Nat) (of15 : Nat) (vsb14 : List Value), (.pointer (some ⟨b14, of15, none⟩) : Value) = v ∧ CelN τ ⟨b14, of15, none⟩ vsb14 ∧ (kI .i64).rep τ vsb14 q12, .v (.int .i64 q12), .v (.bool (!(decide (q7 = q12))))]) (fun _ _ => []) z_mix rfl (dl_mono ⟨fun _ _ _ hl ⟨b9, of10, vsb9, hv, hc11, hrepb9⟩ => ⟨b9, of10, vsb9, hv, hc11.up hl, Kd.mono _ hl hrepb9⟩, ⟨fun _ _ _ hl ⟨b14, of15, vsb14, hv, hc16, hrepb14⟩ => ⟨b14, of15, vsb14, hv, hc16.up hl, Kd.mono _ hl hrepb14⟩, trivial⟩⟩) (allB_cons (allB_cons (allB_cons (allB_cons (allB_cons (allB_cons (allB_cons (allB_cons (allB_cons allB_nil (p1 dA)) (p1 dA)) ?_) ?_) (p1 dA)) (p1 dA)) ?_) ?_) (p1 dA)) ?_
   ·intro ρ' τ pool rs hl hd hout hk
    obtain ⟨_, e0, rfl⟩ := hd 0 rfl
    obtain ⟨_, e1, rfl⟩ := hd 1 rfl
    refine o_index rfl rfl rfl z_slT27 rfl e0 (hs2.up (hl6.trans hl)) e1 hf8 (fun b9 of10 vsb9 hc11 hrepb9 => ?_)
    exact st_addNil (hk _ _ (Sto.Le.refl _) ⟨b9, of10, _, rfl, hc11, hrepb9⟩)
   ·intro ρ' τ pool rs hl hd hout hk
    obtain ⟨_, e2, b9, of10, vsb9, rfl, hc11, hrepb9⟩ := hd 2 rfl
    have hrepb9 := hrepb9
    obtain rfl := hrepb9
    refine o_loadI (v := .int .i64 q7) rfl rfl rfl z_sc3 e2 (hc11 0 _ rfl) ?_
    exact st_addNil (hk _ _ (Sto.Le.refl _) rfl)
   ·intro ρ' τ pool rs hl hd hout hk
    obtain ⟨_, e4, rfl⟩ := hd 4 rfl
    obtain ⟨_, e5, rfl⟩ := hd 5 rfl
    refine o_index rfl rfl rfl z_slT27 rfl e4 (hs4.up (hl6.trans hl)) e5 hf13 (fun b14 of15 vsb14 hc16 hrepb14 => ?_)
    exact st_addNil (hk _ _ (Sto.Le.refl _) ⟨b14, of15, _, rfl, hc16, hrepb14⟩)
   ·intro ρ' τ pool rs hl hd hout hk
    obtain ⟨_, e6, b14, of15, vsb14, rfl, hc16, hrepb14⟩ := hd 6 rfl
    have hrepb14 := hrepb14
    obtain rfl := hrepb14
    refine o_loadI (v := .int .i64 q12) rfl rfl rfl z_sc3 e6 (hc16 0 _ rfl) ?_
    exact st_addNil (hk _ _ (Sto.Le.refl _) rfl)
   intro ρ' τ17 vals hl17 hv hout
   refine st_ord [] _ rfl ?_
   refine st_env (ρ' := [(24, .bool (!(decide (q7 = q12)))), (0, v1), (1, v3), (4, .bool false), (12, .int .i64 (a0.length : Int)), (13, .int .i64 s6)]) ⟨(lv1 hv 8 rfl rfl), (hout 0 rfl).trans rfl, (hout 1 rfl).trans rfl, (hout 4 rfl).trans rfl, (hout 12 rfl).trans rfl, (hout 13 rfl).trans rfl, trivial⟩ ?_
   refine st_end ?_
   refine st_if rfl h (fun h => ?_) (fun h => ?_)
   ·refine Z 4 rfl ?_
    obtain rfl := he6 _ h
    replace h := hA6
    obtain rfl := Eq.symm h
    exact st_ret (gs' := []) Tryz.func49 rfl (List.Sublist.refl _) (hl6.trans hl17) ⟨rfl, rfl⟩
   ·refine Z 6 rfl ?_
    exact hn6 _ _ _ _ h ⟨(hl6.trans hl17), rfl, rfl⟩
  ·refine st_exit rfl ?_
   obtain rfl := he6 _ h
   replace h := hA6
   exact hk5 _ _ _ ⟨(), h, hl6, rfl, rfl⟩
theorem msg_Same_ok {a0 : Int × List Int × List (Int × Int) × List Int × ByteArray × ByteArray} {a1 : Int × List Int × List (Int × Int) × List Int × ByteArray × ByteArray} {v1 : Value} {v2 : Value} {v5 : Value} {v6 : Value} {r : Bool} (h : msg_Same a0 a1 r) (σ : Sto) (hs3 : Sl (kP (kI .i64) (kI .i64)) σ v1 a0.2.2.1) (hs4 : Sl (kI .i64) σ v2 a0.2.2.2.1) (hs7 : Sl (kP (kI .i64) (kI .i64)) σ v5 a1.2.2.1) (hs8 : Sl (kI .i64) σ v6 a1.2.2.2.1) :
    Does Tryz.prog 20 [.agg [.int .i64 a0.1, .int .i64 (a0.2.1.getD 0 0), .int .i64 (a0.2.1.getD 1 0), .int .i64 (a0.2.1.getD 2 0), .int .i64 (a0.2.1.getD 3 0), .int .i64 (a0.2.1.getD 4 0), .int .i64 (a0.2.1.getD 5 0), v1, v2, .string a0.2.2.2.2.1, .string a0.2.2.2.2.2].toArray, .agg [.int .i64 a1.1, .int .i64 (a1.2.1.getD 0 0), .int .i64 (a1.2.1.getD 1 0), .int .i64 (a1.2.1.getD 2 0), .int .i64 (a1.2.1.getD 3 0), .int .i64 (a1.2.1.getD 4 0), .int .i64 (a1.2.1.getD 5 0), v5, v6, .string a1.2.2.2.2.1, .string a1.2.2.2.2.2].toArray] σ [] (fun v τ gs => gs = [] ∧ .bool r = v) := by
 refine call_of Tryz.func20 Tryz.ntmps20 rfl rfl (fun cs fs => ?_)
 refine Z 2 rfl ?_
 refine o_box (cs := [.int .i64 a0.1, .int .i64 (a0.2.1.getD 0 0), .int .i64 (a0.2.1.getD 1 0), .int .i64 (a0.2.1.getD 2 0), .int .i64 (a0.2.1.getD 3 0), .int .i64 (a0.2.1.getD 4 0), .int .i64 (a0.2.1.getD 5 0), v1, v2, .string a0.2.2.2.2.1, .string a0.2.2.2.2.2]) rfl rfl rfl rfl rfl (fun b9 => ?_)
 refine o_box (cs := [.int .i64 a1.1, .int .i64 (a1.2.1.getD 0 0), .int .i64 (a1.2.1.getD 1 0), .int .i64 (a1.2.1.getD 2 0), .int .i64 (a1.2.1.getD 3 0), .int .i64 (a1.2.1.getD 4 0), .int .i64 (a1.2.1.getD 5 0), v5, v6, .string a1.2.2.2.2.1, .string a1.2.2.2.2.2]) rfl rfl rfl rfl rfl (fun b10 => ?_)
 refine Z 3 rfl ?_
 refine st_cut (fun ρ τ11 gs => ∃ (s11 : Bool), msg_Same_j1 s11 r ∧ σ.Le τ11 ∧ ESub ρ [(4, .bool s11)] ∧ gs = []) ?_ (fun hk11 => ?_)
 ·rintro ρ11 τ11 gs11 ⟨s11, h, hl11, hρ, rfl⟩
  refine st_es hρ ?_
  obtain rfl := Eq.symm h
  exact st_ret (gs' := []) Tryz.func20 rfl (List.Sublist.refl _) hl11 ⟨rfl, rfl⟩
 refine ZZ 6 [1, 0] rfl rfl ?_
 refine o_mif rfl rfl rfl rfl h (fun h => ?_) (fun h => ?_)
 ·refine ZZ 4 [1, 0] rfl rfl ?_
  refine o_aggEq (b := (eqN 6 0 a0.2.1 a1.2.1)) (e := (eqN 6 0 a0.2.1 a1.2.1)) rfl rfl rfl z_eqg35 rfl rfl (fun w => by exact eq_arr (xs := a0.2.1) (ys := a1.2.1) Tryz.underlying35 Tryz.underlying3 z_info3 z_cell3) rfl ?_
  refine o_pick rfl rfl rfl rfl rfl ?_
  refine o_mif rfl rfl rfl rfl h (fun h => ?_) (fun h => ?_)
  ·refine ZZ 4 [1, 0] rfl rfl ?_
   obtain ⟨r12, hr13, h⟩ := h
   refine st_call (foot := []) rfl rfl rfl rfl rfl rfl (callV_fn z_en48 (slices_Equal_msg_Point_msg_Point_ok hr13 σ hs3 hs7)) ?_
   rintro vτ14 τ14 gsτ14 hl15 ⟨rfl, rfl⟩
   refine o_pick rfl rfl rfl rfl rfl ?_
   refine o_mif rfl rfl rfl rfl h (fun h => ?_) (fun h => ?_)
   ·refine ZZ 4 [1, 0] rfl rfl ?_
    obtain ⟨r16, hr17, h⟩ := h
    refine st_call (foot := []) rfl rfl rfl rfl rfl rfl (callV_fn z_en49 (slices_Equal_int_int_ok hr17 τ14 (hs4.up hl15) (hs8.up hl15))) ?_
    rintro vτ18 τ18 gsτ18 hl19 ⟨rfl, rfl⟩
    refine o_pick rfl rfl rfl rfl rfl ?_
    refine o_mif rfl rfl rfl rfl h (fun h => ?_) (fun h => ?_)
    ·refine ZZ 6 [1, 0] rfl rfl ?_
     refine o_mif rfl rfl rfl rfl h (fun h => ?_) (fun h => ?_)
     ·refine ZZ 8 [1, 0] rfl rfl ?_
      refine st_ord [] _ rfl ?_
      exact hk11 _ _ _ ⟨(decide (a0.2.2.2.2.2 = a1.2.2.2.2.2)), h, (hl15.trans hl19), rfl, rfl⟩
     ·refine Z 8 rfl ?_
      refine st_ord [] _ rfl ?_
      exact hk11 _ _ _ ⟨false, h, (hl15.trans hl19), rfl, rfl⟩
    ·refine Z 15 rfl ?_
     refine st_ord [] _ rfl ?_
     exact hk11 _ _ _ ⟨false, h, (hl15.trans hl19), rfl, rfl⟩
   ·refine Z 22 rfl ?_
    refine st_ord [] _ rfl ?_
    exact hk11 _ _ _ ⟨false, h, hl15, rfl, rfl⟩
  ·refine Z 29 rfl ?_
   refine st_ord [] _ rfl ?_
   exact hk11 _ _ _ ⟨false, h, (Sto.Le.refl _), rfl, rfl⟩
 ·refine Z 36 rfl ?_
  refine st_ord [] _ rfl ?_
  exact hk11 _ _ _ ⟨false, h, (Sto.Le.refl _), rfl, rfl⟩
theorem msg_Check_ok {a0 : Int × List Int × List (Int × Int) × List Int × ByteArray × ByteArray} {v1 : Value} {v2 : Value} {r : Int} (h : msg_Check a0 r) (σ : Sto) (hs3 : Sl (kP (kI .i64) (kI .i64)) σ v1 a0.2.2.1) (hs4 : Sl (kI .i64) σ v2 a0.2.2.2.1) :
    Does Tryz.prog 18 [.agg [.int .i64 a0.1, .int .i64 (a0.2.1.getD 0 0), .int .i64 (a0.2.1.getD 1 0), .int .i64 (a0.2.1.getD 2 0), .int .i64 (a0.2.1.getD 3 0), .int .i64 (a0.2.1.getD 4 0), .int .i64 (a0.2.1.getD 5 0), v1, v2, .string a0.2.2.2.2.1, .string a0.2.2.2.2.2].toArray] σ [] (fun v τ gs => gs = [] ∧ .int .i64 r = v) := by
 refine call_of Tryz.func18 Tryz.ntmps18 rfl rfl (fun cs fs => ?_)
 refine Z 2 rfl ?_
 refine o_box (cs := [.int .i64 a0.1, .int .i64 (a0.2.1.getD 0 0), .int .i64 (a0.2.1.getD 1 0), .int .i64 (a0.2.1.getD 2 0), .int .i64 (a0.2.1.getD 3 0), .int .i64 (a0.2.1.getD 4 0), .int .i64 (a0.2.1.getD 5 0), v1, v2, .string a0.2.2.2.2.1, .string a0.2.2.2.2.2]) rfl rfl rfl rfl rfl (fun b5 => ?_)
 refine Z 4 rfl ?_
 refine st_draw 3 (dl [.v (.agg #[.int .i64 a0.1, .int .i64 (a0.2.1.getD 0 0), .int .i64 (a0.2.1.getD 1 0), .int .i64 (a0.2.1.getD 2 0), .int .i64 (a0.2.1.getD 3 0), .int .i64 (a0.2.1.getD 4 0), .int .i64 (a0.2.1.getD 5 0), v1, v2, .string a0.2.2.2.2.1, .string a0.2.2.2.2.2]), .t fun τ v => ∃ (b6 : Nat), (.pointer (some ⟨b6, 0, none⟩) : Value) = v, .v (.int .i64 9)]) (oneG 1 (.cells #[.int .i64 0, .int .i64 0, .int .i64 0, .int .i64 0, .int .i64 0, .int .i64 0, .int .i64 0, .slice none 0 0, .slice none 0 0, .string (bstr []), .string (bstr [])] 38 (0, 0))) z_mix rfl (dl_mono ⟨fun _ _ _ hl ⟨b6, hv⟩ => ⟨b6, hv⟩, trivial⟩) (allB_cons (allB_cons (allB_cons allB_nil ?_) ?_) (p1o dA)) ?_
 ·intro ρ' τ pool rs hl hd hout hk
  refine o_loadN (j := 0) (vs := [.int .i64 a0.1, .int .i64 (a0.2.1.getD 0 0), .int .i64 (a0.2.1.getD 1 0), .int .i64 (a0.2.1.getD 2 0), .int .i64 (a0.2.1.getD 3 0), .int .i64 (a0.2.1.getD 4 0), .int .i64 (a0.2.1.getD 5 0), v1, v2, .string a0.2.2.2.2.1, .string a0.2.2.2.2.2]) rfl rfl rfl z_agg38 ((hout 1 rfl).trans rfl) rfl rfl ?_
  exact st_addNil (hk _ _ (Sto.Le.refl _) rfl)
 ·intro ρ' τ pool rs hl hd hout hk
  refine o_alloc rfl rfl rfl z_zero38 (fun b6 => ?_)
  exact hk _ _ (Sto.Le.refl _) ⟨b6, rfl⟩
 intro ρ' τ7 vals hl7 hv hout
 obtain ⟨l1, b6, t1⟩ := hv 1 (by decide)
 replace l1 : Eng.look ρ' 4 = some (.pointer (some ⟨b6, 0, none⟩)) := l1.trans (congrArg some (Eq.symm t1))
 refine st_gs [[(b5, .cells #[.int .i64 a0.1, .int .i64 (a0.2.1.getD 0 0), .int .i64 (a0.2.1.getD 1 0), .int .i64 (a0.2.1.getD 2 0), .int .i64 (a0.2.1.getD 3 0), .int .i64 (a0.2.1.getD 4 0), .int .i64 (a0.2.1.getD 5 0), v1, v2, .string a0.2.2.2.2.1, .string a0.2.2.2.2.2] 38 (0, 0))], [(b6, .cells #[.int .i64 0, .int .i64 0, .int .i64 0, .int .i64 0, .int .i64 0, .int .i64 0, .int .i64 0, .slice none 0 0, .slice none 0 0, .string (bstr []), .string (bstr [])] 38 (0, 0))]] (by rw [oneG_flat (by decide) (Eq.symm t1)]; rfl) ?_
 refine st_env (ρ' := [(7, .agg #[.int .i64 a0.1, .int .i64 (a0.2.1.getD 0 0), .int .i64 (a0.2.1.getD 1 0), .int .i64 (a0.2.1.getD 2 0), .int .i64 (a0.2.1.getD 3 0), .int .i64 (a0.2.1.getD 4 0), .int .i64 (a0.2.1.getD 5 0), v1, v2, .string a0.2.2.2.2.1, .string a0.2.2.2.2.2]), (4, .pointer (some ⟨b6, 0, none⟩)), (3, .int .i64 9), (1, .pointer (some ⟨b5, 0, none⟩)), (2, .int .i64 0)]) ⟨(lv1 hv 0 rfl rfl), l1, (lv1 hv 2 rfl rfl), (hout 1 rfl).trans rfl, (hout 2 rfl).trans rfl, trivial⟩ ?_
 refine o_store (j := 1) (vs := [.int .i64 a0.1, .int .i64 (a0.2.1.getD 0 0), .int .i64 (a0.2.1.getD 1 0), .int .i64 (a0.2.1.getD 2 0), .int .i64 (a0.2.1.getD 3 0), .int .i64 (a0.2.1.getD 4 0), .int .i64 (a0.2.1.getD 5 0), v1, v2, .string a0.2.2.2.2.1, .string a0.2.2.2.2.2]) (cs' := [.int .i64 a0.1, .int .i64 (a0.2.1.getD 0 0), .int .i64 (a0.2.1.getD 1 0), .int .i64 (a0.2.1.getD 2 0), .int .i64 (a0.2.1.getD 3 0), .int .i64 (a0.2.1.getD 4 0), .int .i64 (a0.2.1.getD 5 0), v1, v2, .string a0.2.2.2.2.1, .string a0.2.2.2.2.2]) rfl rfl rfl z_size38 rfl rfl rfl (ones_cons rfl (ones_cons rfl (ones_cons rfl (ones_cons rfl (ones_cons rfl (ones_cons rfl (ones_cons rfl (ones_cons (hs3.up hl7).one' (ones_cons (hs4.up hl7).one' (ones_cons rfl (ones_cons rfl ones_nil))))))))))) rfl rfl rfl ?_
 refine st_gs [[(b5, .cells #[.int .i64 a0.1, .int .i64 (a0.2.1.getD 0 0), .int .i64 (a0.2.1.getD 1 0), .int .i64 (a0.2.1.getD 2 0), .int .i64 (a0.2.1.getD 3 0), .int .i64 (a0.2.1.getD 4 0), .int .i64 (a0.2.1.getD 5 0), v1, v2, .string a0.2.2.2.2.1, .string a0.2.2.2.2.2] 38 (0, 0))], [(b6, .cells #[.int .i64 a0.1, .int .i64 (a0.2.1.getD 0 0), .int .i64 (a0.2.1.getD 1 0), .int .i64 (a0.2.1.getD 2 0), .int .i64 (a0.2.1.getD 3 0), .int .i64 (a0.2.1.getD 4 0), .int .i64 (a0.2.1.getD 5 0), v1, v2, .string a0.2.2.2.2.1, .string a0.2.2.2.2.2] 38 (0, 0))]] rfl ?_
 refine Z 4 rfl ?_
 refine st_cut (fun ρ τ8 gs => ∃ (s8 : Int × Int × Int × Int × Int × Int × Int × Int × (List (Int × Int)) × List Int × ByteArray × ByteArray) (v9 : Value) (v11 : Value), msg_Check_j1 a0 s8 r ∧ τ7.Le τ8 ∧ ESub ρ [(4, .pointer (some ⟨b6, 0, none⟩)), (3, .int .i64 s8.1), (1, .pointer (some ⟨b5, 0, none⟩)), (2, .int .i64 0)] ∧ gs = [[(b5, .cells #[.int .i64 a0.1, .int .i64 (a0.2.1.getD 0 0), .int .i64 (a0.2.1.getD 1 0), .int .i64 (a0.2.1.getD 2 0), .int .i64 (a0.2.1.getD 3 0), .int .i64 (a0.2.1.getD 4 0), .int .i64 (a0.2.1.getD 5 0), v1, v2, .string a0.2.2.2.2.1, .string a0.2.2.2.2.2] 38 (0, 0))], [(b6, .cells #[.int .i64 s8.2.1, .int .i64 s8.2.2.1, .int .i64 s8.2.2.2.1, .int .i64 s8.2.2.2.2.1, .int .i64 s8.2.2.2.2.2.1, .int .i64 s8.2.2.2.2.2.2.1, .int .i64 s8.2.2.2.2.2.2.2.1, v9, v11, .string s8.2.2.2.2.2.2.2.2.2.2.1, .string s8.2.2.2.2.2.2.2.2.2.2.2] 38 (0, 0))]] ∧ Sl (kP (kI .i64) (kI .i64)) τ8 v9 s8.2.2.2.2.2.2.2.2.1 ∧ Sl (kI .i64) τ8 v11 s8.2.2.2.2.2.2.2.2.2.1) ?_ (fun hk8 => ?_)
 ·rintro ρ8 τ8 gs8 ⟨s8, v9, v11, h, hl8, hρ, rfl, hs10, hs12⟩
  refine st_es hρ ?_
  refine Z 2 rfl ?_
  refine st_cut (fun ρ τ13 gs => ∃ (s13 : Bool), msg_Check_j2 s8 s13 r ∧ τ8.Le τ13 ∧ ESub ρ [(3, .int .i64 s8.1), (2, .int .i64 0), (34, .bool s13)] ∧ gs = []) ?_ (fun hk13 => ?_)
  ·rintro ρ13 τ13 gs13 ⟨s13, h, hl13, hρ, rfl⟩
   refine st_es hρ ?_
   refine st_if rfl h (fun h => ?_) (fun h => ?_)
   ·refine Z 4 rfl ?_
    obtain rfl := Eq.symm h
    exact st_ret (gs' := []) Tryz.func18 rfl (List.Sublist.refl _) ((hl7.trans hl8).trans hl13) ⟨rfl, rfl⟩
   ·refine Z 6 rfl ?_
    obtain rfl := Eq.symm h
    exact st_ret (gs' := []) Tryz.func18 rfl (List.Sublist.refl _) ((hl7.trans hl8).trans hl13) ⟨rfl, rfl⟩
  refine Z 3 rfl ?_
  refine o_mif rfl rfl rfl rfl h (fun h => ?_) (fun h => ?_)
  ·refine ZZ 4 [1, 0] rfl rfl ?_
   obtain ⟨r14, hr15, h⟩ := h
   refine st_call (foot := []) rfl rfl rfl rfl rfl rfl (callV_fn z_en20 (msg_Same_ok hr15 τ8 hs10 hs12 Sl.nil Sl.nil)) ?_
   rintro vτ16 τ16 gsτ16 hl17 ⟨rfl, rfl⟩
   refine Z 3 rfl ?_
   refine st_ord [] _ rfl ?_
   exact hk13 _ _ _ ⟨(!r14), h, hl17, rfl, rfl⟩
  ·refine Z 8 rfl ?_
   refine st_ord [] _ rfl ?_
   exact hk13 _ _ _ ⟨false, h, (Sto.Le.refl _), rfl, rfl⟩
 refine ZZ 4 [0] rfl rfl ?_
 obtain ⟨r18, hr19, h⟩ := h
 refine st_call (foot := []) rfl rfl rfl rfl rfl rfl (callV_fn z_en45 (field_Of_ok hr19 τ7)) ?_
 rintro vτ20 τ20 gsτ20 hl21 ⟨v22, rfl, rfl, hs23⟩
 refine o_lenI rfl rfl rfl z_slT115 rfl hs23 ?_
 refine Z 2 rfl ?_
 obtain ⟨e24, hL24, hA24⟩ := h
 refine st_loop hL24 (fun (s24 : Int × Int × Int × Int × Int × Int × Int × Int × Int × (List (Int × Int)) × List Int × ByteArray × ByteArray) ρ τ24 gs => τ20.Le τ24 ∧ ∃ (v25 : Value) (v27 : Value), ESub ρ [(4, .pointer (some ⟨b6, 0, none⟩)), (3, .int .i64 s24.1), (1, .pointer (some ⟨b5, 0, none⟩)), (2, .int .i64 0), (10, v22), (11, .int .i64 (r18.length : Int)), (12, .int .i64 s24.2.1)] ∧ gs = [[(b5, .cells #[.int .i64 a0.1, .int .i64 (a0.2.1.getD 0 0), .int .i64 (a0.2.1.getD 1 0), .int .i64 (a0.2.1.getD 2 0), .int .i64 (a0.2.1.getD 3 0), .int .i64 (a0.2.1.getD 4 0), .int .i64 (a0.2.1.getD 5 0), v1, v2, .string a0.2.2.2.2.1, .string a0.2.2.2.2.2] 38 (0, 0))], [(b6, .cells #[.int .i64 s24.2.2.1, .int .i64 s24.2.2.2.1, .int .i64 s24.2.2.2.2.1, .int .i64 s24.2.2.2.2.2.1, .int .i64 s24.2.2.2.2.2.2.1, .int .i64 s24.2.2.2.2.2.2.2.1, .int .i64 s24.2.2.2.2.2.2.2.2.1, v25, v27, .string s24.2.2.2.2.2.2.2.2.2.2.2.1, .string s24.2.2.2.2.2.2.2.2.2.2.2.2] 38 (0, 0))]] ∧ Sl (kP (kI .i64) (kI .i64)) τ24 v25 s24.2.2.2.2.2.2.2.2.2.1 ∧ Sl (kI .i64) τ24 v27 s24.2.2.2.2.2.2.2.2.2.2.1) ⟨Sto.Le.refl _, _, _, rfl, rfl, (hs3.up (hl7.trans hl21)), (hs4.up (hl7.trans hl21))⟩ ?_
 rintro s24 o24 h he24 ρ24 τ24 gs24 ⟨hl24, v25, v27, hρ, rfl, hs26, hs28⟩ hn24
 refine st_es hρ ?_
 refine Z 5 rfl ?_
 refine st_if rfl h (fun h => ?_) (fun h => ?_)
 ·refine Z 5 rfl ?_
  obtain ⟨q29, hf30, h⟩ := h
  refine o_index rfl rfl rfl z_slT115 rfl rfl (hs23.up hl24) rfl hf30 (fun b31 of32 vs hc33 hrep => ?_)
  obtain ⟨_, _, rfl, rfl, ⟨_, _, rfl, rfl, ⟨_, _, rfl, rfl, ⟨_, _, rfl, rfl, ⟨_, _, rfl, rfl, ⟨_, _, rfl, rfl, rfl⟩⟩⟩⟩⟩⟩ := hrep
  refine o_loadIN (vs := [.string q29.1, .int .i64 q29.2.1, .int .i64 q29.2.2.1, .int .i64 q29.2.2.2.1, .int .i64 q29.2.2.2.2.1, .int .i64 q29.2.2.2.2.2.1, .int .i64 q29.2.2.2.2.2.2]) rfl rfl rfl z_agg96 rfl rfl (celn_part 0 rfl hc33) ?_
  refine o_alloc rfl rfl rfl z_zero96 (fun b34 => ?_)
  refine ZZ 7 [0, 1, 0] rfl rfl ?_
  obtain ⟨r35, hr36, h⟩ := h
  refine st_call (foot := []) rfl rfl rfl rfl rfl rfl (callV_fn z_en46 (msg_wrong_ok hr36 τ24 (hs3.up ((hl7.trans hl21).trans hl24)) (hs4.up ((hl7.trans hl21).trans hl24)))) ?_
  rintro vτ37 τ37 gsτ37 hl38 ⟨rfl, rfl⟩
  refine Z 7 rfl ?_
  refine st_if rfl h (fun h => ?_) (fun h => ?_)
  ·refine st_exit rfl ?_
   obtain rfl := he24 _ h
   replace h := hA24
   refine st_ord [1, 1] _ rfl ?_
   exact hk8 _ _ _ ⟨(r35, s24.2.2.1, s24.2.2.2.1, s24.2.2.2.2.1, s24.2.2.2.2.2.1, s24.2.2.2.2.2.2.1, s24.2.2.2.2.2.2.2.1, s24.2.2.2.2.2.2.2.2.1, s24.2.2.2.2.2.2.2.2.2.1, s24.2.2.2.2.2.2.2.2.2.2.1, s24.2.2.2.2.2.2.2.2.2.2.2.1, s24.2.2.2.2.2.2.2.2.2.2.2.2), _, _, h, ((hl21.trans hl24).trans hl38), rfl, rfl, (hs26.up hl38), (hs28.up hl38)⟩
  ·refine ZZ 4 [2, 0] rfl rfl ?_
   obtain ⟨r39, hr40, h⟩ := h
   refine st_call (foot := []) rfl rfl rfl rfl rfl rfl (callV_fn z_en47 (msg_without_ok hr40 τ37 (hs26.up hl38) (hs28.up hl38))) ?_
   rintro vτ41 τ41 gsτ41 hl42 ⟨v43, v44, rfl, rfl, hs45, hs46⟩
   refine o_store (j := 2) (vs := [.int .i64 r39.1, .int .i64 (r39.2.1.getD 0 0), .int .i64 (r39.2.1.getD 1 0), .int .i64 (r39.2.1.getD 2 0), .int .i64 (r39.2.1.getD 3 0), .int .i64 (r39.2.1.getD 4 0), .int .i64 (r39.2.1.getD 5 0), v43, v44, .string r39.2.2.2.2.1, .string r39.2.2.2.2.2]) (cs' := [.int .i64 r39.1, .int .i64 (r39.2.1.getD 0 0), .int .i64 (r39.2.1.getD 1 0), .int .i64 (r39.2.1.getD 2 0), .int .i64 (r39.2.1.getD 3 0), .int .i64 (r39.2.1.getD 4 0), .int .i64 (r39.2.1.getD 5 0), v43, v44, .string r39.2.2.2.2.1, .string r39.2.2.2.2.2]) rfl rfl rfl z_size38 rfl rfl rfl (ones_cons rfl (ones_cons rfl (ones_cons rfl (ones_cons rfl (ones_cons rfl (ones_cons rfl (ones_cons rfl (ones_cons hs45.one' (ones_cons hs46.one' (ones_cons rfl (ones_cons rfl ones_nil))))))))))) rfl rfl rfl ?_
   refine st_gs [[(b34, .cells #[.string q29.1, .int .i64 q29.2.1, .int .i64 q29.2.2.1, .int .i64 q29.2.2.2.1, .int .i64 q29.2.2.2.2.1, .int .i64 q29.2.2.2.2.2.1, .int .i64 q29.2.2.2.2.2.2] 96 (0, 0))], [(b5, .cells #[.int .i64 a0.1, .int .i64 (a0.2.1.getD 0 0), .int .i64 (a0.2.1.getD 1 0), .int .i64 (a0.2.1.getD 2 0), .int .i64 (a0.2.1.getD 3 0), .int .i64 (a0.2.1.getD 4 0), .int .i64 (a0.2.1.getD 5 0), v1, v2, .string a0.2.2.2.2.1, .string a0.2.2.2.2.2] 38 (0, 0))], [(b6, .cells #[.int .i64 r39.1, .int .i64 (r39.2.1.getD 0 0), .int .i64 (r39.2.1.getD 1 0), .int .i64 (r39.2.1.getD 2 0), .int .i64 (r39.2.1.getD 3 0), .int .i64 (r39.2.1.getD 4 0), .int .i64 (r39.2.1.getD 5 0), v43, v44, .string r39.2.2.2.2.1, .string r39.2.2.2.2.2] 38 (0, 0))]] rfl ?_
   refine Z 6 rfl ?_
   refine st_ord [1, 1] _ rfl ?_
   exact hn24 _ _ _ _ h ⟨((hl24.trans hl38).trans hl42), _, _, rfl, rfl, hs45, hs46⟩
 ·refine st_exit rfl ?_
  obtain rfl := he24 _ h
  replace h := hA24
  exact hk8 _ _ _ ⟨(s24.1, s24.2.2.1, s24.2.2.2.1, s24.2.2.2.2.1, s24.2.2.2.2.2.1, s24.2.2.2.2.2.2.1, s24.2.2.2.2.2.2.2.1, s24.2.2.2.2.2.2.2.2.1, s24.2.2.2.2.2.2.2.2.2.1, s24.2.2.2.2.2.2.2.2.2.2.1, s24.2.2.2.2.2.2.2.2.2.2.2.1, s24.2.2.2.2.2.2.2.2.2.2.2.2), _, _, h, (hl21.trans hl24), rfl, rfl, hs26, hs28⟩
theorem field_Word_ok {a0 : Int} {r : ByteArray} (h : field_Word a0 r) (σ : Sto)  :
    Does Tryz.prog 33 [.int .i64 a0] σ [] (fun v τ gs => gs = [] ∧ .string r = v) := by
 refine call_of Tryz.func33 Tryz.ntmps33 rfl rfl (fun cs fs => ?_)
 refine Z 2 rfl ?_
 refine o_assign rfl rfl rfl (ev_str z_str0) ?_
 refine Z 12 rfl ?_
 refine st_if rfl h (fun h => ?_) (fun h => ?_)
 ·refine Z 2 rfl ?_
  refine o_assign rfl rfl rfl (ev_str z_str20) ?_
  refine st_end ?_
  obtain rfl := Eq.symm h
  exact st_ret (gs' := []) Tryz.func33 rfl (List.Sublist.refl _) (Sto.Le.refl _) ⟨rfl, rfl⟩
 ·refine Z 5 rfl ?_
  refine st_if rfl h (fun h => ?_) (fun h => ?_)
  ·refine Z 2 rfl ?_
   refine o_assign rfl rfl rfl (ev_str z_str21) ?_
   refine st_end ?_
   obtain rfl := Eq.symm h
   exact st_ret (gs' := []) Tryz.func33 rfl (List.Sublist.refl _) (Sto.Le.refl _) ⟨rfl, rfl⟩
  ·refine Z 5 rfl ?_
   refine st_if rfl h (fun h => ?_) (fun h => ?_)
   ·refine Z 2 rfl ?_
    refine o_assign rfl rfl rfl (ev_str z_str22) ?_
    refine st_end ?_
    obtain rfl := Eq.symm h
    exact st_ret (gs' := []) Tryz.func33 rfl (List.Sublist.refl _) (Sto.Le.refl _) ⟨rfl, rfl⟩
   ·refine Z 5 rfl ?_
    refine st_if rfl h (fun h => ?_) (fun h => ?_)
    ·refine Z 2 rfl ?_
     refine o_assign rfl rfl rfl (ev_str z_str23) ?_
     refine st_end ?_
     obtain rfl := Eq.symm h
     exact st_ret (gs' := []) Tryz.func33 rfl (List.Sublist.refl _) (Sto.Le.refl _) ⟨rfl, rfl⟩
    ·refine Z 5 rfl ?_
     refine st_if rfl h (fun h => ?_) (fun h => ?_)
     ·refine Z 2 rfl ?_
      refine o_assign rfl rfl rfl (ev_str z_str24) ?_
      refine st_end ?_
      obtain rfl := Eq.symm h
      exact st_ret (gs' := []) Tryz.func33 rfl (List.Sublist.refl _) (Sto.Le.refl _) ⟨rfl, rfl⟩
     ·refine Z 4 rfl ?_
      refine o_assign rfl rfl rfl (ev_str z_str0) ?_
      refine st_end ?_
      obtain rfl := Eq.symm h
      exact st_ret (gs' := []) Tryz.func33 rfl (List.Sublist.refl _) (Sto.Le.refl _) ⟨rfl, rfl⟩
theorem field_All_1_ok {c0 : Int} {c1 : Int} {bc0 : Nat} {bc1 : Nat} {σ0 : Sto} (hc0_0 : Cel σ0 ⟨bc0, 0, none⟩ (.int .i64 c0)) (hc1_0 : Cel σ0 ⟨bc1, 0, none⟩ (.int .i64 c1)) :
    IterV Tryz.prog (fun _ x vx => vx = [.agg [.string x.1, .int .i64 x.2.1, .int .i64 x.2.2.1, .int .i64 x.2.2.2.1, .int .i64 x.2.2.2.2.1, .int .i64 x.2.2.2.2.2.1, .int .i64 x.2.2.2.2.2.2].toArray]) (.func (.func 67) #[] [.pointer (some ⟨bc0, 0, none⟩), .pointer (some ⟨bc1, 0, none⟩)].toArray) σ0 [] (fun (_ : Unit) _ f => f = []) (field_All_1 c0 c1) := by
 intro S Y I y hyc hyo hIm hY s s' o hR σ g hle hIg
 obtain ⟨r, hr0⟩ : ∃ r, r = (s', o) := ⟨_, rfl⟩
 rw [← hr0] at hR
 have h := hR
 refine callV_of (caps := [.pointer (some ⟨bc0, 0, none⟩), .pointer (some ⟨bc1, 0, none⟩)]) z_en67 ?_
 refine call_of Tryz.func67 Tryz.ntmps67 rfl rfl (fun cs fs => ?_)
 refine st_ord [0] _ rfl ?_
 refine Z 5 rfl ?_
 refine o_loadI (v := .int .i64 c0) rfl rfl rfl z_sc3 rfl (Cel.up hc0_0 hle) ?_
 obtain ⟨r1, hr2, h⟩ := h
 refine st_call (foot := []) rfl rfl rfl rfl rfl rfl (callV_fn z_en45 (field_Of_ok hr2 σ)) ?_
 rintro vτ3 τ3 gsτ3 hl4 ⟨v5, rfl, rfl, hs6⟩
 refine o_lenI rfl rfl rfl z_slT115 rfl hs6 ?_
 refine Z 2 rfl ?_
 obtain ⟨e7, hL7, hA7⟩ := h
 refine st_loop hL7 (fun (s7 : S × Int) ρ τ7 gs => τ3.Le τ7 ∧ ∃ (g8 : Grp), ESub ρ [(0, y), (2, .pointer (some ⟨bc1, 0, none⟩)), (7, v5), (8, .int .i64 (r1.length : Int)), (9, .int .i64 s7.2)] ∧ gs = [g8] ∧ I s7.1 τ7 g8) ⟨Sto.Le.refl _, g, rfl, rfl, (hIm _ _ _ _ hl4 hIg)⟩ ?_
 rintro s7 o7 h he7 ρ7 τ7 gs7 ⟨hl7, g8, hρ, rfl, hI9⟩ hn7
 refine st_es hρ ?_
 refine Z 5 rfl ?_
 refine st_if rfl h (fun h => ?_) (fun h => ?_)
 ·refine Z 2 rfl ?_
  refine st_cut (fun ρ τ10 gs => ∃ (s10 : S) (g11 : Grp), field_All_1_j2 S Y s7 s10 o7 ∧ τ7.Le τ10 ∧ ESub ρ [(0, y), (2, .pointer (some ⟨bc1, 0, none⟩)), (7, v5), (8, .int .i64 (r1.length : Int)), (9, .int .i64 s7.2)] ∧ gs = [g11] ∧ I s10 τ10 g11) ?_ (fun hk10 => ?_)
  ·rintro ρ10 τ10 gs10 ⟨s10, g11, h, hl10, hρ, rfl, hI12⟩
   refine st_es hρ ?_
   refine Z 4 rfl ?_
   exact hn7 _ _ _ _ h ⟨(hl7.trans hl10), g11, rfl, rfl, hI12⟩
  refine Z 3 rfl ?_
  obtain ⟨q13, hf14, h⟩ := h
  refine o_index rfl rfl rfl z_slT115 rfl rfl (hs6.up hl7) rfl hf14 (fun b15 of16 vs hc17 hrep => ?_)
  obtain ⟨_, _, rfl, rfl, ⟨_, _, rfl, rfl, ⟨_, _, rfl, rfl, ⟨_, _, rfl, rfl, ⟨_, _, rfl, rfl, ⟨_, _, rfl, rfl, rfl⟩⟩⟩⟩⟩⟩ := hrep
  refine o_loadIN (vs := [.string q13.1, .int .i64 q13.2.1, .int .i64 q13.2.2.1, .int .i64 q13.2.2.2.1, .int .i64 q13.2.2.2.2.1, .int .i64 q13.2.2.2.2.2.1, .int .i64 q13.2.2.2.2.2.2]) rfl rfl rfl z_agg96 rfl rfl (celn_part 0 rfl hc17) ?_
  refine o_alloc rfl rfl rfl z_zero96 (fun b18 => ?_)
  refine ZZ 7 [0, 0] rfl rfl ?_
  refine o_loadI (v := .int .i64 c1) rfl rfl rfl z_sc3 rfl (Cel.up hc1_0 ((hle.trans hl4).trans hl7)) ?_
  refine Z 2 rfl ?_
  refine st_if rfl h (fun h => ?_) (fun h => ?_)
  ·refine st_exit rfl ?_
   refine st_ord [1] _ rfl ?_
   exact hk10 _ _ _ ⟨s7.1, g8, h, (Sto.Le.refl _), rfl, rfl, hI9⟩
  ·refine ZZ 5 [0] rfl rfl ?_
   obtain ⟨y19, u20, hy21, h⟩ := h
   refine st_ord [1, 0] _ rfl ?_
   refine st_call (foot := [g8]) rfl rfl rfl rfl rfl rfl (hY q13 s7.1 _ _ _ _ _ (hle.trans (hl4.trans hl7)) hy21 rfl hI9) ?_
   rintro vτ22 τ22 gsτ22 hl23 ⟨rfl, g24, rfl, hI25⟩
   refine Z 2 rfl ?_
   refine st_if rfl h (fun h => ?_) (fun h => ?_)
   ·refine Z 2 rfl ?_
    refine st_ord [0] _ rfl ?_
    obtain rfl := he7 _ h
    replace h := hA7
    obtain rfl := Eq.symm h
    cases hr0
    exact st_fin (gs' := [g24, []]) Tryz.func67 rfl (by simp) ((hl4.trans hl7).trans hl23) ⟨g24, _, rfl, hI25, rfl⟩
   ·refine Z 2 rfl ?_
    refine st_ord [0] _ rfl ?_
    exact hk10 _ _ _ ⟨u20, g24, h, hl23, rfl, rfl, hI25⟩
 ·refine Z 2 rfl ?_
  obtain rfl := he7 _ h
  replace h := hA7
  obtain rfl := Eq.symm h
  cases hr0
  exact st_fin (gs' := [g8, []]) Tryz.func67 rfl (by simp) (hl4.trans hl7) ⟨g8, _, rfl, hI9, rfl⟩
theorem field_All_ok {a0 : Int} {a1 : Int} {r : (((S : Type) → ((ByteArray × Int × Int × Int × Int × Int × Int) → S → Bool × S → Prop) → S → S × Unit → Prop))} (h : field_All a0 a1 r) (σ : Sto)  :
    Does Tryz.prog 34 [.int .i64 a0, .int .i64 a1] σ [] (fun v τ gs => ∃ (f9 : Nat) (q10 : Array Value), gs = [] ∧ .func (.func f9) #[] q10 = v ∧ IterV Tryz.prog (fun _ x vx => vx = [.agg [.string x.1, .int .i64 x.2.1, .int .i64 x.2.2.1, .int .i64 x.2.2.2.1, .int .i64 x.2.2.2.2.1, .int .i64 x.2.2.2.2.2.1, .int .i64 x.2.2.2.2.2.2].toArray]) (.func (.func f9) #[] q10) τ [] (fun (_ : Unit) _ f => f = []) r) := by
 refine call_of Tryz.func34 Tryz.ntmps34 rfl rfl (fun cs fs => ?_)
 refine Z 2 rfl ?_
 refine o_boxC rfl rfl rfl rfl rfl rfl (fun b1 => ?_)
 refine o_boxC rfl rfl rfl rfl rfl rfl (fun b2 => ?_)
 refine Z 4 rfl ?_
 refine st_ord [1, 0] _ rfl ?_
 refine st_freeze (fun τ3 hl4 hg5 => ?_)
 refine st_freeze (fun τ6 hl7 hg8 => ?_)
 refine Z 3 rfl ?_
 obtain rfl := Eq.symm h
 exact st_ret (gs' := []) Tryz.func34 rfl (List.Sublist.refl _) (hl4.trans hl7) ⟨_, _, rfl, rfl, (field_All_1_ok (Cel.up (cel_of hg5 rfl) hl7) (cel_of hg8 rfl))⟩
theorem strconv_Itoa_ok {a0 : Int} {r : ByteArray} (h : strconv_Itoa a0 r) (σ : Sto) (hT : Tab Tryz.prog σ) :
    Does Tryz.prog 109 [.int .i64 a0] σ [] (fun v τ gs => gs = [] ∧ .string r = v) := by
 obtain ⟨hk, rfl⟩ := h
 rw [itoa_lib]
 exact does_grow fun w hw => Tryz.strconv_Itoa a0 (i64_lo hk) (i64_hi hk) w (hT w hw)
theorem say_Number_ok {a0 : Int} {r : ByteArray} (h : say_Number a0 r) (σ : Sto) (hT : Tab Tryz.prog σ) :
    Does Tryz.prog 68 [.int .i64 a0] σ [] (fun v τ gs => gs = [] ∧ .string r = v) := by
 refine call_of Tryz.func68 Tryz.ntmps68 rfl rfl (fun cs fs => ?_)
 refine Z 2 rfl ?_
 refine o_assign rfl rfl rfl (ev_str z_str0) ?_
 refine Z 4 rfl ?_
 obtain ⟨r1, hr2, h⟩ := h
 refine st_call (foot := []) rfl rfl rfl rfl rfl rfl (callV_fn z_en109 (strconv_Itoa_ok hr2 σ hT)) ?_
 rintro vτ3 τ3 gsτ3 hl4 ⟨rfl, rfl⟩
 refine Z 2 rfl ?_
 obtain rfl := Eq.symm h
 exact st_ret (gs' := []) Tryz.func68 rfl (List.Sublist.refl _) hl4 ⟨rfl, rfl⟩
theorem strings_Join_ok {a0 : List ByteArray} {a1 : ByteArray} {v1 : Value} {r : ByteArray} (h : strings_Join a0 a1 r) (σ : Sto) (hs2 : Sl kS σ v1 a0) :
    Does Tryz.prog 69 [v1, .string a1] σ [] (fun v τ gs => gs = [] ∧ .string r = v) := by
 obtain ⟨h1, h2, rfl⟩ := h
 exact join_does Tryz.strings_Join_none Tryz.strings_Join hs2 h1 h2
theorem say_hex_ok {a0 : ByteArray} {r : ByteArray} (h : say_hex a0 r) (σ : Sto)  :
    Does Tryz.prog 70 [.string a0] σ [] (fun v τ gs => gs = [] ∧ .string r = v) := by
 refine call_of Tryz.func70 Tryz.ntmps70 rfl rfl (fun cs fs => ?_)
 refine Z 2 rfl ?_
 refine o_assign rfl rfl rfl (ev_str z_str0) ?_
 refine Z 5 rfl ?_
 refine o_sbin (v := .bool (decide (a0 = (bstr [])))) rfl rfl rfl rfl (ev_str z_str0) rfl ?_
 refine st_end ?_
 refine st_if rfl h (fun h => ?_) (fun h => ?_)
 ·refine Z 2 rfl ?_
  refine o_assign rfl rfl rfl (ev_str z_str28) ?_
  refine st_end ?_
  obtain rfl := Eq.symm h
  exact st_ret (gs' := []) Tryz.func70 rfl (List.Sublist.refl _) (Sto.Le.refl _) ⟨rfl, rfl⟩
 ·refine Z 6 rfl ?_
  refine st_cut (fun ρ τ1 gs => ∃ (s1 : List Int) (v2 : Value) (g3 : Grp), say_hex_j1 s1 r ∧ σ.Le τ1 ∧ ESub ρ [(2, .string (bstr [])), (3, v2)] ∧ gs = [g3] ∧ Ow (kI .u8) 5 τ1 v2 s1 g3) ?_ (fun hk1 => ?_)
  ·rintro ρ1 τ1 gs1 ⟨s1, v2, g3, h, hl1, hρ, rfl, ho4⟩
   refine st_es hρ ?_
   refine Z 3 rfl ?_
   refine st_freeze (fun τ5 hl6 hg7 => ?_)
   have hs8 := ho4.freeze hl6 hg7
   refine o_bstr (xs := s1) rfl rfl rfl Tryz.underlying23 Tryz.underlying5 Tryz.underlying9 rfl hs8 ?_
   refine Z 2 rfl ?_
   obtain rfl := Eq.symm h
   exact st_ret (gs' := []) Tryz.func70 rfl (List.Sublist.refl _) (hl1.trans hl6) ⟨rfl, rfl⟩
  refine Z 3 rfl ?_
  obtain ⟨hf14, h⟩ := h
  refine o_bytes rfl rfl rfl Tryz.underlying9 Tryz.underlying23 Tryz.underlying5 rfl hf14 (fun v10 τ11 hl12 hs13 => ?_)
  refine o_lenI rfl rfl rfl z_slT23 rfl hs13 ?_
  refine Z 2 rfl ?_
  obtain ⟨e15, hL15, hA15⟩ := h
  refine st_addNil ?_
  refine st_loop hL15 (fun (s15 : List Int × Int) ρ τ15 gs => τ11.Le τ15 ∧ ∃ (v16 : Value) (g17 : Grp), ESub ρ [(2, .string (bstr [])), (3, v16), (9, v10), (10, .int .i64 ((bints a0).length : Int)), (11, .int .i64 s15.2)] ∧ gs = [g17] ∧ Ow (kI .u8) 5 τ15 v16 s15.1 g17) ⟨Sto.Le.refl _, _, _, rfl, rfl, Ow.nil⟩ ?_
  rintro s15 o15 h he15 ρ15 τ15 gs15 ⟨hl15, v16, g17, hρ, rfl, ho18⟩ hn15
  refine st_es hρ ?_
  refine Z 5 rfl ?_
  refine st_if rfl h (fun h => ?_) (fun h => ?_)
  ·refine Z 5 rfl ?_
   obtain ⟨q19, hf20, h⟩ := h
   refine o_index rfl rfl rfl z_slT23 rfl rfl (hs13.up hl15) rfl hf20 (fun b21 of22 vs hc23 hrep => ?_)
   obtain rfl := hrep
   refine o_loadI (v := .int .u8 q19) rfl rfl rfl z_sc5 rfl (hc23 0 _ rfl) ?_
   refine Z 2 rfl ?_
   obtain ⟨q24, hf25, q26, hf27, hf38, hf39, h⟩ := h
   refine st_d41 [] [g17] 9 1 [none, none, none, none, none, none, none, none, some (0, 0)] [none, none, none, none, none, none, none, none, none] [[none, some 23]] [.v (v16), .v (.int .u8 q19), .v (.int .u8 (ishr .u8 q19 4)), .v (.int .u8 q24), .v (.int .u8 q19), .v (.int .u8 (iand .u8 q19 15)), .v (.int .u8 q26), .t fun τ v => ∃ (v28 : Value), (v28 : Value) = v ∧ Sl (kI .u8) τ v28 [q24, q26], .t fun _ _ => True] [[fun τ u F => F = [g17], fun τ u F => ∃ (v40 : Value) (g41 : Grp), F = [g41] ∧ v40 = u ∧ Ow (kI .u8) 5 τ v40 (s15.1 ++ [q24, q26]) g41]] rfl z_mix rfl ⟨fun _ _ _ hl ⟨v28, hv, hs34⟩ => ⟨v28, hv, hs34.up hl⟩, ⟨fun _ _ _ _ _ => trivial, trivial⟩⟩ ⟨⟨fun _ _ _ _ hl h => h, ⟨fun _ _ _ _ hl h => (let ⟨v40, g41, hF, hU, ho42⟩ := h; ⟨v40, g41, hF, hU, ho42.up hl⟩), trivial⟩⟩, trivial⟩ rfl rfl ?_ (allB_cons (allB_cons (allB_cons (allB_cons (allB_cons (allB_cons (allB_cons (allB_cons (allB_cons allB_nil (p4 dA)) (p4 dA)) (p4 dA)) ?_) (p4 dA)) (p4 dA)) ?_) ?_) ?_) ?_
   ·exact rfl
   ·intro ρ' τ pool rs hl hd hout hw hk
    obtain ⟨_, e2, rfl⟩ := hd 2 rfl _ rfl
    refine o_indexS rfl rfl rfl Tryz.underlying9 (ev_str z_str29) e2 hf25 ?_
    exact hk _ _ (Sto.Le.refl _) rfl
   ·intro ρ' τ pool rs hl hd hout hw hk
    obtain ⟨_, e5, rfl⟩ := hd 5 rfl _ rfl
    refine o_indexS rfl rfl rfl Tryz.underlying9 (ev_str z_str29) e5 hf27 ?_
    exact hk _ _ (Sto.Le.refl _) rfl
   ·intro ρ' τ pool rs hl hd hout hw hk
    obtain ⟨_, e3, rfl⟩ := hd 3 rfl _ rfl
    obtain ⟨_, e6, rfl⟩ := hd 6 rfl _ rfl
    refine o_litE (eI .u8) [q24, q26] rfl rfl rfl z_slT23 z_zero5 ⟨rfl, ⟨_, e3, rfl⟩, ⟨rfl, ⟨_, e6, rfl⟩, trivial⟩⟩ rfl rfl rfl rfl (fun v28 g29 ho30 => ?_)
    refine st_freeze (fun τ31 hl32 hg33 => ?_)
    have hs34 := ho30.freeze hl32 hg33
    exact hk _ _ hl32 ⟨v28, rfl, hs34⟩
   ·intro ρ' τ u Fv pool rs hl hI hu hd hout hw hk
    obtain ⟨_, e0, rfl⟩ := hd 0 rfl _ rfl
    obtain ⟨_, e7, v28, rfl, hs34⟩ := hd 7 rfl _ rfl
    have hI0 := hI
    obtain rfl := hI
    refine st_gs [g17, pool] rfl ?_
    refine o_append (dk := (kI .u8)) (xs := s15.1) (ys := [q24, q26]) rfl rfl rfl rfl z_slT23 e0 (ho18.up hl) e7 (Sl.src hs34) hf38 hf39 (fun v35 g36 ho37 => ?_)
    exact hk _ _ [g36] (Sto.Le.refl _) trivial (by exact ⟨v35, g36, rfl, rfl, ho37⟩)
   intro ρ' τ43 vals u Fv hl43 hI hu hv hout
   obtain ⟨v40, g41, rfl, rfl, ho42⟩ := hI
   refine st_gs [g41] rfl ?_
   refine st_env (ρ' := [(2, .string (bstr [])), (9, v10), (10, .int .i64 ((bints a0).length : Int)), (11, .int .i64 s15.2), (23, v40)]) ⟨(hout 2 rfl).trans rfl, (hout 9 rfl).trans rfl, (hout 10 rfl).trans rfl, (hout 11 rfl).trans rfl, (by exact hu _ rfl), trivial⟩ ?_
   refine Z 7 rfl ?_
   exact hn15 _ _ _ _ h ⟨(hl15.trans hl43), _, _, rfl, rfl, ho42⟩
  ·refine st_exit rfl ?_
   obtain rfl := he15 _ h
   replace h := hA15
   exact hk1 _ _ _ ⟨s15.1, _, _, h, (hl12.trans hl15), rfl, rfl, ho18⟩
theorem say_value_ok {a0 : Int × List Int × List (Int × Int) × List Int × ByteArray × ByteArray} {a1 : ByteArray × Int × Int × Int × Int × Int × Int} {v1 : Value} {v2 : Value} {r : ByteArray} (h : say_value a0 a1 r) (σ : Sto) (hs3 : Sl (kP (kI .i64) (kI .i64)) σ v1 a0.2.2.1) (hs4 : Sl (kI .i64) σ v2 a0.2.2.2.1) (hT : Tab Tryz.prog σ) :
    Does Tryz.prog 35 [.agg [.int .i64 a0.1, .int .i64 (a0.2.1.getD 0 0), .int .i64 (a0.2.1.getD 1 0), .int .i64 (a0.2.1.getD 2 0), .int .i64 (a0.2.1.getD 3 0), .int .i64 (a0.2.1.getD 4 0), .int .i64 (a0.2.1.getD 5 0), v1, v2, .string a0.2.2.2.2.1, .string a0.2.2.2.2.2].toArray, .agg [.string a1.1, .int .i64 a1.2.1, .int .i64 a1.2.2.1, .int .i64 a1.2.2.2.1, .int .i64 a1.2.2.2.2.1, .int .i64 a1.2.2.2.2.2.1, .int .i64 a1.2.2.2.2.2.2].toArray] σ [] (fun v τ gs => gs = [] ∧ .string r = v) := by
 refine call_of Tryz.func35 Tryz.ntmps35 rfl rfl (fun cs fs => ?_)
 refine Z 2 rfl ?_
 refine o_box (cs := [.int .i64 a0.1, .int .i64 (a0.2.1.getD 0 0), .int .i64 (a0.2.1.getD 1 0), .int .i64 (a0.2.1.getD 2 0), .int .i64 (a0.2.1.getD 3 0), .int .i64 (a0.2.1.getD 4 0), .int .i64 (a0.2.1.getD 5 0), v1, v2, .string a0.2.2.2.2.1, .string a0.2.2.2.2.2]) rfl rfl rfl rfl rfl (fun b5 => ?_)
 refine o_boxC rfl rfl rfl rfl rfl rfl (fun b6 => ?_)
 refine o_assign rfl rfl rfl (ev_str z_str0) ?_
 refine ZZ 17 [0] rfl rfl ?_
 refine st_if rfl h (fun h => ?_) (fun h => ?_)
 ·refine st_seq ?_
  refine st_cut (fun ρ τ7 gs => ∃ (s7 : List ByteArray) (v8 : Value) (g9 : Grp), say_value_j1 s7 r ∧ σ.Le τ7 ∧ ESub ρ [(2, .pointer (some ⟨b5, 0, none⟩)), (3, .pointer (some ⟨b6, 0, none⟩)), (4, .string (bstr [])), (5, v8)] ∧ gs = [[(b5, .cells #[.int .i64 a0.1, .int .i64 (a0.2.1.getD 0 0), .int .i64 (a0.2.1.getD 1 0), .int .i64 (a0.2.1.getD 2 0), .int .i64 (a0.2.1.getD 3 0), .int .i64 (a0.2.1.getD 4 0), .int .i64 (a0.2.1.getD 5 0), v1, v2, .string a0.2.2.2.2.1, .string a0.2.2.2.2.2] 38 (0, 0))], [(b6, .cells #[.string a1.1, .int .i64 a1.2.1, .int .i64 a1.2.2.1, .int .i64 a1.2.2.2.1, .int .i64 a1.2.2.2.2.1, .int .i64 a1.2.2.2.2.2.1, .int .i64 a1.2.2.2.2.2.2] 96 (0, 0))], g9] ∧ Ow kS 9 τ7 v8 s7 g9) ?_ (fun hk7 => ?_)
  ·rintro ρ7 τ7 gs7 ⟨s7, v8, g9, h, hl7, hρ, rfl, ho10⟩
   refine st_es hρ ?_
   refine Z 3 rfl ?_
   obtain ⟨r16, hr17, h⟩ := h
   refine st_ord [2, 0, 0] _ rfl ?_
   refine st_freeze (fun τ11 hl12 hg13 => ?_)
   have hs14 := ho10.freeze hl12 hg13
   refine st_call (foot := []) rfl rfl rfl rfl (evs_cons rfl (evs_cons (ev_str z_str27) rfl)) rfl (callV_fn z_en69 (strings_Join_ok hr17 τ11 hs14)) ?_
   rintro vτ18 τ18 gsτ18 hl19 ⟨rfl, rfl⟩
   refine Z 2 rfl ?_
   refine st_ord [] _ rfl ?_
   obtain rfl := Eq.symm h
   exact st_ret (gs' := []) Tryz.func35 rfl (List.Sublist.refl _) ((hl7.trans hl12).trans hl19) ⟨rfl, rfl⟩
  refine ZZ 4 [1] rfl rfl ?_
  refine o_lenI rfl rfl rfl z_slT36 rfl hs3 ?_
  refine Z 2 rfl ?_
  obtain ⟨e20, hL20, hA20⟩ := h
  refine st_addNil ?_
  refine st_ord [2, 1, 0] _ rfl ?_
  refine st_loop hL20 (fun (s20 : List ByteArray × Int) ρ τ20 gs => σ.Le τ20 ∧ ∃ (v21 : Value) (g22 : Grp), ESub ρ [(2, .pointer (some ⟨b5, 0, none⟩)), (3, .pointer (some ⟨b6, 0, none⟩)), (4, .string (bstr [])), (5, v21), (15, v1), (16, .int .i64 (a0.2.2.1.length : Int)), (17, .int .i64 s20.2)] ∧ gs = [[(b5, .cells #[.int .i64 a0.1, .int .i64 (a0.2.1.getD 0 0), .int .i64 (a0.2.1.getD 1 0), .int .i64 (a0.2.1.getD 2 0), .int .i64 (a0.2.1.getD 3 0), .int .i64 (a0.2.1.getD 4 0), .int .i64 (a0.2.1.getD 5 0), v1, v2, .string a0.2.2.2.2.1, .string a0.2.2.2.2.2] 38 (0, 0))], [(b6, .cells #[.string a1.1, .int .i64 a1.2.1, .int .i64 a1.2.2.1, .int .i64 a1.2.2.2.1, .int .i64 a1.2.2.2.2.1, .int .i64 a1.2.2.2.2.2.1, .int .i64 a1.2.2.2.2.2.2] 96 (0, 0))], g22] ∧ Ow kS 9 τ20 v21 s20.1 g22) ⟨Sto.Le.refl _, _, _, rfl, rfl, Ow.nil⟩ ?_
  rintro s20 o20 h he20 ρ20 τ20 gs20 ⟨hl20, v21, g22, hρ, rfl, ho23⟩ hn20
  refine st_es hρ ?_
  refine Z 5 rfl ?_
  refine st_if rfl h (fun h => ?_) (fun h => ?_)
  ·refine Z 5 rfl ?_
   obtain ⟨q24, hf25, h⟩ := h
   refine o_index rfl rfl rfl z_slT36 rfl rfl (hs3.up hl20) rfl hf25 (fun b26 of27 vs hc28 hrep => ?_)
   obtain ⟨_, _, rfl, rfl, rfl⟩ := hrep
   refine o_loadIN (vs := [.int .i64 q24.1, .int .i64 q24.2]) rfl rfl rfl z_agg105 rfl rfl (celn_part 0 rfl hc28) ?_
   refine o_alloc rfl rfl rfl z_zero105 (fun b29 => ?_)
   refine ZZ 2 [0] rfl rfl ?_
   obtain ⟨r30, hr31, hf34, r35, hr36, hf39, hf50, hf51, h⟩ := h
   refine st_d41 [[(b29, .cells #[.int .i64 q24.1, .int .i64 q24.2] 105 (0, 0))], [(b5, .cells #[.int .i64 a0.1, .int .i64 (a0.2.1.getD 0 0), .int .i64 (a0.2.1.getD 1 0), .int .i64 (a0.2.1.getD 2 0), .int .i64 (a0.2.1.getD 3 0), .int .i64 (a0.2.1.getD 4 0), .int .i64 (a0.2.1.getD 5 0), v1, v2, .string a0.2.2.2.2.1, .string a0.2.2.2.2.2] 38 (0, 0))], [(b6, .cells #[.string a1.1, .int .i64 a1.2.1, .int .i64 a1.2.2.1, .int .i64 a1.2.2.2.1, .int .i64 a1.2.2.2.2.1, .int .i64 a1.2.2.2.2.2.1, .int .i64 a1.2.2.2.2.2.2] 96 (0, 0))]] [g22] 11 1 [none, none, none, none, none, none, none, none, none, none, some (0, 0)] [none, none, none, none, none, none, none, none, none, none, none] [[none, some 31]] [.v (v21), .v (.pointer (some ⟨b29, 0, none⟩)), .v (.int .i64 q24.1), .v (.string r30), .v (.string (r30 ++ (bstr [44]))), .v (.pointer (some ⟨b29, 1, none⟩)), .v (.int .i64 q24.2), .v (.string r35), .v (.string ((r30 ++ (bstr [44])) ++ r35)), .t fun τ v => ∃ (v40 : Value), (v40 : Value) = v ∧ Sl kS τ v40 [((r30 ++ (bstr [44])) ++ r35)], .t fun _ _ => True] [[fun τ u F => F = [g22], fun τ u F => ∃ (v52 : Value) (g53 : Grp), F = [g53] ∧ v52 = u ∧ Ow kS 9 τ v52 (s20.1 ++ [((r30 ++ (bstr [44])) ++ r35)]) g53]] rfl z_mix rfl ⟨fun _ _ _ hl ⟨v40, hv, hs46⟩ => ⟨v40, hv, hs46.up hl⟩, ⟨fun _ _ _ _ _ => trivial, trivial⟩⟩ ⟨⟨fun _ _ _ _ hl h => h, ⟨fun _ _ _ _ hl h => (let ⟨v52, g53, hF, hU, ho54⟩ := h; ⟨v52, g53, hF, hU, ho54.up hl⟩), trivial⟩⟩, trivial⟩ rfl rfl ?_ (allB_cons (allB_cons (allB_cons (allB_cons (allB_cons (allB_cons (allB_cons (allB_cons (allB_cons (allB_cons (allB_cons allB_nil (p4 dA)) (p4 dA)) ?_) ?_) ?_) (p4 dA)) ?_) ?_) ?_) ?_) ?_) ?_
   ·exact rfl
   ·intro ρ' τ pool rs hl hd hout hw hk
    obtain ⟨_, e1, rfl⟩ := hd 1 rfl _ rfl
    refine o_load (j := 0) (v := .int .i64 q24.1) rfl rfl rfl z_sc3 e1 rfl rfl ?_
    exact hk _ _ (Sto.Le.refl _) rfl
   ·intro ρ' τ pool rs hl hd hout hw hk
    obtain ⟨_, e2, rfl⟩ := hd 2 rfl _ rfl
    refine st_call (foot := []) rfl rfl rfl rfl (evs_cons e2 rfl) rfl (callV_fn z_en68 (say_Number_ok hr31 τ (hT.up (hl20.trans hl)))) ?_
    rintro vτ32 τ32 gsτ32 hl33 ⟨rfl, rfl⟩
    exact hk _ _ hl33 rfl
   ·intro ρ' τ pool rs hl hd hout hw hk
    obtain ⟨_, e3, rfl⟩ := hd 3 rfl _ rfl
    refine o_sadd rfl rfl rfl e3 (ev_str z_str26) hf34 ?_
    exact hk _ _ (Sto.Le.refl _) rfl
   ·intro ρ' τ pool rs hl hd hout hw hk
    obtain ⟨_, e5, rfl⟩ := hd 5 rfl _ rfl
    refine o_load (j := 0) (v := .int .i64 q24.2) rfl rfl rfl z_sc3 e5 rfl rfl ?_
    exact hk _ _ (Sto.Le.refl _) rfl
   ·intro ρ' τ pool rs hl hd hout hw hk
    obtain ⟨_, e6, rfl⟩ := hd 6 rfl _ rfl
    refine st_call (foot := []) rfl rfl rfl rfl (evs_cons e6 rfl) rfl (callV_fn z_en68 (say_Number_ok hr36 τ (hT.up (hl20.trans hl)))) ?_
    rintro vτ37 τ37 gsτ37 hl38 ⟨rfl, rfl⟩
    exact hk _ _ hl38 rfl
   ·intro ρ' τ pool rs hl hd hout hw hk
    obtain ⟨_, e4, rfl⟩ := hd 4 rfl _ rfl
    obtain ⟨_, e7, rfl⟩ := hd 7 rfl _ rfl
    refine o_sadd rfl rfl rfl e4 e7 hf39 ?_
    exact hk _ _ (Sto.Le.refl _) rfl
   ·intro ρ' τ pool rs hl hd hout hw hk
    obtain ⟨_, e8, rfl⟩ := hd 8 rfl _ rfl
    refine o_litE eS [((r30 ++ (bstr [44])) ++ r35)] rfl rfl rfl z_slT106 z_zero9 ⟨rfl, ⟨_, e8, rfl⟩, trivial⟩ rfl rfl rfl rfl (fun v40 g41 ho42 => ?_)
    refine st_freeze (fun τ43 hl44 hg45 => ?_)
    have hs46 := ho42.freeze hl44 hg45
    exact hk _ _ hl44 ⟨v40, rfl, hs46⟩
   ·intro ρ' τ u Fv pool rs hl hI hu hd hout hw hk
    obtain ⟨_, e0, rfl⟩ := hd 0 rfl _ rfl
    obtain ⟨_, e9, v40, rfl, hs46⟩ := hd 9 rfl _ rfl
    have hI0 := hI
    obtain rfl := hI
    refine st_gs [[(b29, .cells #[.int .i64 q24.1, .int .i64 q24.2] 105 (0, 0))], [(b5, .cells #[.int .i64 a0.1, .int .i64 (a0.2.1.getD 0 0), .int .i64 (a0.2.1.getD 1 0), .int .i64 (a0.2.1.getD 2 0), .int .i64 (a0.2.1.getD 3 0), .int .i64 (a0.2.1.getD 4 0), .int .i64 (a0.2.1.getD 5 0), v1, v2, .string a0.2.2.2.2.1, .string a0.2.2.2.2.2] 38 (0, 0))], [(b6, .cells #[.string a1.1, .int .i64 a1.2.1, .int .i64 a1.2.2.1, .int .i64 a1.2.2.2.1, .int .i64 a1.2.2.2.2.1, .int .i64 a1.2.2.2.2.2.1, .int .i64 a1.2.2.2.2.2.2] 96 (0, 0))], g22, pool] rfl ?_
    refine st_ord [3, 0, 0, 0, 0] _ rfl ?_
    refine o_append (dk := kS) (xs := s20.1) (ys := [((r30 ++ (bstr [44])) ++ r35)]) rfl rfl rfl rfl z_slT106 e0 (ho23.up hl) e9 (Sl.src hs46) hf50 hf51 (fun v47 g48 ho49 => ?_)
    refine st_ord [1, 1, 1, 0, 0] _ rfl ?_
    exact hk _ _ [g48] (Sto.Le.refl _) trivial (by exact ⟨v47, g48, rfl, rfl, ho49⟩)
   intro ρ' τ55 vals u Fv hl55 hI hu hv hout
   obtain ⟨v52, g53, rfl, rfl, ho54⟩ := hI
   refine st_gs [[(b29, .cells #[.int .i64 q24.1, .int .i64 q24.2] 105 (0, 0))], [(b5, .cells #[.int .i64 a0.1, .int .i64 (a0.2.1.getD 0 0), .int .i64 (a0.2.1.getD 1 0), .int .i64 (a0.2.1.getD 2 0), .int .i64 (a0.2.1.getD 3 0), .int .i64 (a0.2.1.getD 4 0), .int .i64 (a0.2.1.getD 5 0), v1, v2, .string a0.2.2.2.2.1, .string a0.2.2.2.2.2] 38 (0, 0))], [(b6, .cells #[.string a1.1, .int .i64 a1.2.1, .int .i64 a1.2.2.1, .int .i64 a1.2.2.2.1, .int .i64 a1.2.2.2.2.1, .int .i64 a1.2.2.2.2.2.1, .int .i64 a1.2.2.2.2.2.2] 96 (0, 0))], g53] rfl ?_
   refine st_env (ρ' := [(2, .pointer (some ⟨b5, 0, none⟩)), (3, .pointer (some ⟨b6, 0, none⟩)), (4, .string (bstr [])), (15, v1), (16, .int .i64 (a0.2.2.1.length : Int)), (17, .int .i64 s20.2), (31, v52)]) ⟨(hout 2 rfl).trans rfl, (hout 3 rfl).trans rfl, (hout 4 rfl).trans rfl, (hout 15 rfl).trans rfl, (hout 16 rfl).trans rfl, (hout 17 rfl).trans rfl, (by exact hu _ rfl), trivial⟩ ?_
   refine Z 7 rfl ?_
   refine st_ord [1, 1, 1] _ rfl ?_
   exact hn20 _ _ _ _ h ⟨(hl20.trans hl55), _, _, rfl, rfl, ho54⟩
  ·refine st_exit rfl ?_
   obtain rfl := he20 _ h
   replace h := hA20
   exact hk7 _ _ _ ⟨s20.1, _, _, h, hl20, rfl, rfl, ho23⟩
 ·refine Z 5 rfl ?_
  refine st_if rfl h (fun h => ?_) (fun h => ?_)
  ·refine st_seq ?_
   refine st_cut (fun ρ τ57 gs => ∃ (s57 : List ByteArray) (v58 : Value) (g59 : Grp), say_value_j3 s57 r ∧ σ.Le τ57 ∧ ESub ρ [(2, .pointer (some ⟨b5, 0, none⟩)), (3, .pointer (some ⟨b6, 0, none⟩)), (4, .string (bstr [])), (5, v58)] ∧ gs = [[(b5, .cells #[.int .i64 a0.1, .int .i64 (a0.2.1.getD 0 0), .int .i64 (a0.2.1.getD 1 0), .int .i64 (a0.2.1.getD 2 0), .int .i64 (a0.2.1.getD 3 0), .int .i64 (a0.2.1.getD 4 0), .int .i64 (a0.2.1.getD 5 0), v1, v2, .string a0.2.2.2.2.1, .string a0.2.2.2.2.2] 38 (0, 0))], [(b6, .cells #[.string a1.1, .int .i64 a1.2.1, .int .i64 a1.2.2.1, .int .i64 a1.2.2.2.1, .int .i64 a1.2.2.2.2.1, .int .i64 a1.2.2.2.2.2.1, .int .i64 a1.2.2.2.2.2.2] 96 (0, 0))], g59] ∧ Ow kS 9 τ57 v58 s57 g59) ?_ (fun hk57 => ?_)
   ·rintro ρ57 τ57 gs57 ⟨s57, v58, g59, h, hl57, hρ, rfl, ho60⟩
    refine st_es hρ ?_
    refine Z 3 rfl ?_
    obtain ⟨r66, hr67, h⟩ := h
    refine st_ord [2, 0, 0] _ rfl ?_
    refine st_freeze (fun τ61 hl62 hg63 => ?_)
    have hs64 := ho60.freeze hl62 hg63
    refine st_call (foot := []) rfl rfl rfl rfl (evs_cons rfl (evs_cons (ev_str z_str26) rfl)) rfl (callV_fn z_en69 (strings_Join_ok hr67 τ61 hs64)) ?_
    rintro vτ68 τ68 gsτ68 hl69 ⟨rfl, rfl⟩
    refine Z 2 rfl ?_
    refine st_ord [] _ rfl ?_
    obtain rfl := Eq.symm h
    exact st_ret (gs' := []) Tryz.func35 rfl (List.Sublist.refl _) ((hl57.trans hl62).trans hl69) ⟨rfl, rfl⟩
   refine ZZ 4 [1] rfl rfl ?_
   refine o_lenI rfl rfl rfl z_slT27 rfl hs4 ?_
   refine Z 2 rfl ?_
   obtain ⟨e70, hL70, hA70⟩ := h
   refine st_addNil ?_
   refine st_ord [2, 1, 0] _ rfl ?_
   refine st_loop hL70 (fun (s70 : List ByteArray × Int) ρ τ70 gs => σ.Le τ70 ∧ ∃ (v71 : Value) (g72 : Grp), ESub ρ [(2, .pointer (some ⟨b5, 0, none⟩)), (3, .pointer (some ⟨b6, 0, none⟩)), (4, .string (bstr [])), (5, v71), (38, v2), (39, .int .i64 (a0.2.2.2.1.length : Int)), (40, .int .i64 s70.2)] ∧ gs = [[(b5, .cells #[.int .i64 a0.1, .int .i64 (a0.2.1.getD 0 0), .int .i64 (a0.2.1.getD 1 0), .int .i64 (a0.2.1.getD 2 0), .int .i64 (a0.2.1.getD 3 0), .int .i64 (a0.2.1.getD 4 0), .int .i64 (a0.2.1.getD 5 0), v1, v2, .string a0.2.2.2.2.1, .string a0.2.2.2.2.2] 38 (0, 0))], [(b6, .cells #[.string a1.1, .int .i64 a1.2.1, .int .i64 a1.2.2.1, .int .i64 a1.2.2.2.1, .int .i64 a1.2.2.2.2.1, .int .i64 a1.2.2.2.2.2.1, .int .i64 a1.2.2.2.2.2.2] 96 (0, 0))], g72] ∧ Ow kS 9 τ70 v71 s70.1 g72) ⟨Sto.Le.refl _, _, _, rfl, rfl, Ow.nil⟩ ?_
   rintro s70 o70 h he70 ρ70 τ70 gs70 ⟨hl70, v71, g72, hρ, rfl, ho73⟩ hn70
   refine st_es hρ ?_
   refine Z 5 rfl ?_
   refine st_if rfl h (fun h => ?_) (fun h => ?_)
   ·refine Z 5 rfl ?_
    obtain ⟨q74, hf75, h⟩ := h
    refine o_index rfl rfl rfl z_slT27 rfl rfl (hs4.up hl70) rfl hf75 (fun b76 of77 vs hc78 hrep => ?_)
    obtain rfl := hrep
    refine o_loadI (v := .int .i64 q74) rfl rfl rfl z_sc3 rfl (hc78 0 _ rfl) ?_
    refine Z 5 rfl ?_
    obtain ⟨r79, hr80, h⟩ := h
    refine st_call (foot := []) rfl rfl rfl rfl rfl rfl (callV_fn z_en68 (say_Number_ok hr80 τ70 (hT.up hl70))) ?_
    rintro vτ81 τ81 gsτ81 hl82 ⟨rfl, rfl⟩
    refine o_litE eS [r79] rfl rfl rfl z_slT106 z_zero9 ⟨rfl, ⟨_, rfl, rfl⟩, trivial⟩ rfl rfl rfl rfl (fun v83 g84 ho85 => ?_)
    obtain ⟨hf89, hf90, h⟩ := h
    refine st_ord [3, 0, 0, 0] _ rfl ?_
    refine o_append (dk := kS) (xs := s70.1) (ys := [r79]) rfl rfl rfl rfl z_slT106 rfl (ho73.up hl82) rfl (Ow.src (j := 1) ho85 rfl) hf89 hf90 (fun v86 g87 ho88 => ?_)
    refine Z 7 rfl ?_
    refine st_ord [2, 2, 0] _ rfl ?_
    exact hn70 _ _ _ _ h ⟨(hl70.trans hl82), _, _, rfl, rfl, ho88⟩
   ·refine st_exit rfl ?_
    obtain rfl := he70 _ h
    replace h := hA70
    exact hk57 _ _ _ ⟨s70.1, _, _, h, hl70, rfl, rfl, ho73⟩
  ·refine Z 5 rfl ?_
   refine st_if rfl h (fun h => ?_) (fun h => ?_)
   ·refine ZZ 4 [1] rfl rfl ?_
    obtain ⟨r92, hr93, h⟩ := h
    refine st_call (foot := []) rfl rfl rfl rfl rfl rfl (callV_fn z_en70 (say_hex_ok hr93 σ)) ?_
    rintro vτ94 τ94 gsτ94 hl95 ⟨rfl, rfl⟩
    refine Z 2 rfl ?_
    refine st_ord [] _ rfl ?_
    obtain rfl := Eq.symm h
    exact st_ret (gs' := []) Tryz.func35 rfl (List.Sublist.refl _) hl95 ⟨rfl, rfl⟩
   ·refine Z 5 rfl ?_
    refine st_if rfl h (fun h => ?_) (fun h => ?_)
    ·refine ZZ 4 [1] rfl rfl ?_
     obtain ⟨r96, hr97, h⟩ := h
     refine st_call (foot := []) rfl rfl rfl rfl rfl rfl (callV_fn z_en70 (say_hex_ok hr97 σ)) ?_
     rintro vτ98 τ98 gsτ98 hl99 ⟨rfl, rfl⟩
     refine Z 2 rfl ?_
     refine st_ord [] _ rfl ?_
     obtain rfl := Eq.symm h
     exact st_ret (gs' := []) Tryz.func35 rfl (List.Sublist.refl _) hl99 ⟨rfl, rfl⟩
    ·refine ZZ 7 [0] rfl rfl ?_
     obtain ⟨hf100, hf101, h⟩ := h
     refine o_indexA rfl rfl rfl z_arr35 rfl rfl hf100 hf101 ?_
     refine o_loadV (j := 1) (a1.2.2.1.toNat) (f := (Value.int .i64)) (zz := 0) (l := 6) (xs := a0.2.1) [.int .i64 a0.1] [v1, v2, .string a0.2.2.2.2.1, .string a0.2.2.2.2.2] rfl rfl rfl z_sc3 rfl rfl (by simp only [List.length_cons, List.length_nil] <;> omega) (by omega) ?_
     obtain ⟨r102, hr103, h⟩ := h
     refine st_call (foot := []) rfl rfl rfl rfl rfl rfl (callV_fn z_en68 (say_Number_ok hr103 σ hT)) ?_
     rintro vτ104 τ104 gsτ104 hl105 ⟨rfl, rfl⟩
     refine Z 2 rfl ?_
     refine st_ord [] _ rfl ?_
     obtain rfl := Eq.symm h
     exact st_ret (gs' := []) Tryz.func35 rfl (List.Sublist.refl _) hl105 ⟨rfl, rfl⟩
theorem say_Line_ok {a0 : Int × List Int × List (Int × Int) × List Int × ByteArray × ByteArray} {v1 : Value} {v2 : Value} {r : ByteArray} (h : say_Line a0 r) (σ : Sto) (hs3 : Sl (kP (kI .i64) (kI .i64)) σ v1 a0.2.2.1) (hs4 : Sl (kI .i64) σ v2 a0.2.2.2.1) (hT : Tab Tryz.prog σ) :
    Does Tryz.prog 14 [.agg [.int .i64 a0.1, .int .i64 (a0.2.1.getD 0 0), .int .i64 (a0.2.1.getD 1 0), .int .i64 (a0.2.1.getD 2 0), .int .i64 (a0.2.1.getD 3 0), .int .i64 (a0.2.1.getD 4 0), .int .i64 (a0.2.1.getD 5 0), v1, v2, .string a0.2.2.2.2.1, .string a0.2.2.2.2.2].toArray] σ [] (fun v τ gs => gs = [] ∧ .string r = v) := by
 refine call_of Tryz.func14 Tryz.ntmps14 rfl rfl (fun cs fs => ?_)
 refine Z 2 rfl ?_
 refine o_box (cs := [.int .i64 a0.1, .int .i64 (a0.2.1.getD 0 0), .int .i64 (a0.2.1.getD 1 0), .int .i64 (a0.2.1.getD 2 0), .int .i64 (a0.2.1.getD 3 0), .int .i64 (a0.2.1.getD 4 0), .int .i64 (a0.2.1.getD 5 0), v1, v2, .string a0.2.2.2.2.1, .string a0.2.2.2.2.2]) rfl rfl rfl rfl rfl (fun b5 => ?_)
 refine o_assign rfl rfl rfl (ev_str z_str0) ?_
 refine ZZ 5 [0] rfl rfl ?_
 obtain ⟨r6, hr7, h⟩ := h
 refine st_call (foot := []) rfl rfl rfl rfl rfl rfl (callV_fn z_en18 (msg_Check_ok hr7 σ hs3 hs4)) ?_
 rintro vτ8 τ8 gsτ8 hl9 ⟨rfl, rfl⟩
 refine Z 2 rfl ?_
 refine st_if rfl h (fun h => ?_) (fun h => ?_)
 ·refine Z 2 rfl ?_
  refine o_assign rfl rfl rfl (ev_str z_str0) ?_
  refine st_end ?_
  refine st_ord [] _ rfl ?_
  obtain rfl := Eq.symm h
  exact st_ret (gs' := []) Tryz.func14 rfl (List.Sublist.refl _) hl9 ⟨rfl, rfl⟩
 ·refine ZZ 5 [0] rfl rfl ?_
  obtain ⟨r10, hr11, h⟩ := h
  refine st_call (foot := []) rfl rfl rfl rfl rfl rfl (callV_fn z_en33 (field_Word_ok hr11 τ8)) ?_
  rintro vτ12 τ12 gsτ12 hl13 ⟨rfl, rfl⟩
  refine o_alloc rfl rfl rfl z_zero9 (fun b14 => ?_)
  refine ZZ 7 [0, 1] rfl rfl ?_
  obtain ⟨r15, hr16, h⟩ := h
  refine st_call (foot := []) rfl rfl rfl rfl rfl rfl (callV_fn z_en34 (field_All_ok hr16 τ12)) ?_
  rintro vτ17 τ17 gsτ17 hl18 ⟨f19, q20, rfl, rfl, hit21⟩
  refine Z 2 rfl ?_
  obtain ⟨t22, w22, hR22, hA22⟩ := h
  refine st_env (ρ' := [(1, .pointer (some ⟨b5, 0, none⟩)), (2, .string (bstr [])), (3, .pointer (some ⟨b14, 0, none⟩)), (13, .func (.func f19) #[] q20)]) ⟨rfl, rfl, rfl, rfl, trivial⟩ ?_
  refine st_ord [1, 0] _ rfl ?_
  refine st_addNil ?_
  refine st_range (B := say_Line_l1 a0) (s0 := r10) ranges_fctx rfl hit21 (Sto.Le.refl _) hR22 rfl (fun _ _ _ h => by cases h; rfl) (fun (s22 : ByteArray) τ22 gs => τ17.Le τ22 ∧ gs = [[(b5, .cells #[.int .i64 a0.1, .int .i64 (a0.2.1.getD 0 0), .int .i64 (a0.2.1.getD 1 0), .int .i64 (a0.2.1.getD 2 0), .int .i64 (a0.2.1.getD 3 0), .int .i64 (a0.2.1.getD 4 0), .int .i64 (a0.2.1.getD 5 0), v1, v2, .string a0.2.2.2.2.1, .string a0.2.2.2.2.2] 38 (0, 0))], [(b14, .cells #[.string s22] 9 (0, 0))]]) (fun _ _ _ _ => False) (fun _ _ _ _ hl ⟨hb, hg⟩ => ⟨hb.trans hl, hg⟩) (fun _ _ _ _ _ _ h => h.elim) ⟨Sto.Le.refl _, rfl⟩ ?_ ?_ ?_
  ·rintro x22 s22 o22 τ22 gs22 vx22 hl22 h rfl ⟨hb22, rfl⟩ l22 rc22 caller22 cs22 fs22
   refine st_region ?_
   refine o_alloc rfl rfl rfl z_zero96 (fun b23 => ?_)
   refine ZZ 2 [0] rfl rfl ?_
   refine st_begin ?_
   refine st_block ?_
   obtain ⟨hf24, hf25, r26, hr27, hf30, hf31, h⟩ := h
   refine st_draw 10 (dl [.v (.string s22), .v (.pointer (some ⟨b23, 0, none⟩)), .v (.string x22.1), .v (.string ((bstr [32]) ++ x22.1)), .v (.string (((bstr [32]) ++ x22.1) ++ (bstr [32]))), .v (.agg #[.int .i64 a0.1, .int .i64 (a0.2.1.getD 0 0), .int .i64 (a0.2.1.getD 1 0), .int .i64 (a0.2.1.getD 2 0), .int .i64 (a0.2.1.getD 3 0), .int .i64 (a0.2.1.getD 4 0), .int .i64 (a0.2.1.getD 5 0), v1, v2, .string a0.2.2.2.2.1, .string a0.2.2.2.2.2]), .v (.agg #[.string x22.1, .int .i64 x22.2.1, .int .i64 x22.2.2.1, .int .i64 x22.2.2.2.1, .int .i64 x22.2.2.2.2.1, .int .i64 x22.2.2.2.2.2.1, .int .i64 x22.2.2.2.2.2.2]), .v (.string r26), .v (.string ((((bstr [32]) ++ x22.1) ++ (bstr [32])) ++ r26)), .v (.string (s22 ++ ((((bstr [32]) ++ x22.1) ++ (bstr [32])) ++ r26)))]) (fun _ _ => []) z_mix rfl (dl_mono trivial) (allB_cons (allB_cons (allB_cons (allB_cons (allB_cons (allB_cons (allB_cons (allB_cons (allB_cons (allB_cons allB_nil ?_) (p1 dA)) ?_) ?_) ?_) ?_) ?_) ?_) ?_) ?_) ?_
   ·intro ρ' τ pool rs hl hd hout hk
    refine o_load (j := 2) (v := .string s22) rfl rfl rfl z_sc9 ((hout 3 rfl).trans rfl) rfl rfl ?_
    exact st_addNil (hk _ _ (Sto.Le.refl _) rfl)
   ·intro ρ' τ pool rs hl hd hout hk
    obtain ⟨_, e1, rfl⟩ := hd 1 rfl
    refine o_load (j := 0) (v := .string x22.1) rfl rfl rfl z_sc9 e1 rfl rfl ?_
    exact st_addNil (hk _ _ (Sto.Le.refl _) rfl)
   ·intro ρ' τ pool rs hl hd hout hk
    obtain ⟨_, e2, rfl⟩ := hd 2 rfl
    refine o_sadd rfl rfl rfl (ev_str z_str25) e2 hf24 ?_
    exact st_addNil (hk _ _ (Sto.Le.refl _) rfl)
   ·intro ρ' τ pool rs hl hd hout hk
    obtain ⟨_, e3, rfl⟩ := hd 3 rfl
    refine o_sadd rfl rfl rfl e3 (ev_str z_str25) hf25 ?_
    exact st_addNil (hk _ _ (Sto.Le.refl _) rfl)
   ·intro ρ' τ pool rs hl hd hout hk
    refine o_loadN (j := 1) (vs := [.int .i64 a0.1, .int .i64 (a0.2.1.getD 0 0), .int .i64 (a0.2.1.getD 1 0), .int .i64 (a0.2.1.getD 2 0), .int .i64 (a0.2.1.getD 3 0), .int .i64 (a0.2.1.getD 4 0), .int .i64 (a0.2.1.getD 5 0), v1, v2, .string a0.2.2.2.2.1, .string a0.2.2.2.2.2]) rfl rfl rfl z_agg38 ((hout 1 rfl).trans rfl) rfl rfl ?_
    exact st_addNil (hk _ _ (Sto.Le.refl _) rfl)
   ·intro ρ' τ pool rs hl hd hout hk
    refine o_loadN (j := 0) (vs := [.string x22.1, .int .i64 x22.2.1, .int .i64 x22.2.2.1, .int .i64 x22.2.2.2.1, .int .i64 x22.2.2.2.2.1, .int .i64 x22.2.2.2.2.2.1, .int .i64 x22.2.2.2.2.2.2]) rfl rfl rfl z_agg96 ((hout 4 rfl).trans rfl) rfl rfl ?_
    exact st_addNil (hk _ _ (Sto.Le.refl _) rfl)
   ·intro ρ' τ pool rs hl hd hout hk
    obtain ⟨_, e5, rfl⟩ := hd 5 rfl
    obtain ⟨_, e6, rfl⟩ := hd 6 rfl
    refine st_call (foot := []) rfl rfl rfl rfl (evs_cons e5 (evs_cons e6 rfl)) rfl (callV_fn z_en35 (say_value_ok hr27 τ (hs3.up ((((hl9.trans hl13).trans hl18).trans hl22).trans hl)) (hs4.up ((((hl9.trans hl13).trans hl18).trans hl22).trans hl)) (hT.up ((((hl9.trans hl13).trans hl18).trans hl22).trans hl)))) ?_
    rintro vτ28 τ28 gsτ28 hl29 ⟨rfl, rfl⟩
    exact st_addNil (hk _ _ hl29 rfl)
   ·intro ρ' τ pool rs hl hd hout hk
    obtain ⟨_, e4, rfl⟩ := hd 4 rfl
    obtain ⟨_, e7, rfl⟩ := hd 7 rfl
    refine o_sadd rfl rfl rfl e4 e7 hf30 ?_
    exact st_addNil (hk _ _ (Sto.Le.refl _) rfl)
   ·intro ρ' τ pool rs hl hd hout hk
    obtain ⟨_, e0, rfl⟩ := hd 0 rfl
    obtain ⟨_, e8, rfl⟩ := hd 8 rfl
    refine o_sadd rfl rfl rfl e0 e8 hf31 ?_
    exact st_addNil (hk _ _ (Sto.Le.refl _) rfl)
   intro ρ' τ32 vals hl32 hv hout
   refine st_ord [0, 0, 0] _ rfl ?_
   refine st_env (ρ' := [(24, .string (s22 ++ ((((bstr [32]) ++ x22.1) ++ (bstr [32])) ++ r26))), (1, .pointer (some ⟨b5, 0, none⟩)), (2, .string (bstr [])), (3, .pointer (some ⟨b14, 0, none⟩)), (14, .agg #[.string x22.1, .int .i64 x22.2.1, .int .i64 x22.2.2.1, .int .i64 x22.2.2.2.1, .int .i64 x22.2.2.2.2.1, .int .i64 x22.2.2.2.2.2.1, .int .i64 x22.2.2.2.2.2.2]), (4, .pointer (some ⟨b23, 0, none⟩))]) ⟨(lv1 hv 9 rfl rfl), (hout 1 rfl).trans rfl, (hout 2 rfl).trans rfl, (hout 3 rfl).trans rfl, (hout 14 rfl).trans rfl, (hout 4 rfl).trans rfl, trivial⟩ ?_
   refine ZZ 3 [2] rfl rfl ?_
   refine st_ord [1, 1] _ rfl ?_
   exact st_rend (List.Sublist.refl _) hl32 ⟨_, h, (hl22.trans hl32), rfl⟩
  ·rintro p33 τ34 gs22 f22 ht hl35 ⟨hb, rfl⟩ rfl
   subst ht
   replace h := hA22
   refine st_ord [1, 1] _ rfl ?_
   refine ZZ 6 [1] rfl rfl ?_
   refine st_ord [] _ rfl ?_
   obtain rfl := Eq.symm h
   exact st_ret (gs' := []) Tryz.func14 rfl (List.Sublist.refl _) (((hl9.trans hl13).trans hl18).trans hl35) ⟨rfl, rfl⟩
  ·exact fun _ _ _ _ _ _ _ h => h.elim
theorem law17_Of_ok {a0 : Int × List Int × List (Int × Int) × List Int × ByteArray × ByteArray} {v1 : Value} {v2 : Value} {r : (Int × List Int × List (List Int) × List Int × ByteArray × ByteArray)} (h : law17_Of a0 r) (σ : Sto) (hs3 : Sl (kP (kI .i64) (kI .i64)) σ v1 a0.2.2.1) (hs4 : Sl (kI .i64) σ v2 a0.2.2.2.1) :
    Does Tryz.prog 16 [.agg [.int .i64 a0.1, .int .i64 (a0.2.1.getD 0 0), .int .i64 (a0.2.1.getD 1 0), .int .i64 (a0.2.1.getD 2 0), .int .i64 (a0.2.1.getD 3 0), .int .i64 (a0.2.1.getD 4 0), .int .i64 (a0.2.1.getD 5 0), v1, v2, .string a0.2.2.2.2.1, .string a0.2.2.2.2.2].toArray] σ [] (fun v τ gs => ∃ (v49 : Value) (v50 : Value), gs = [] ∧ .agg [.int .i64 r.1, .int .i64 (r.2.1.getD 0 0), .int .i64 (r.2.1.getD 1 0), .int .i64 (r.2.1.getD 2 0), .int .i64 (r.2.1.getD 3 0), .int .i64 (r.2.1.getD 4 0), .int .i64 (r.2.1.getD 5 0), v49, v50, .string r.2.2.2.2.1, .string r.2.2.2.2.2].toArray = v ∧ Sl (kA .i64 2) τ v49 r.2.2.1 ∧ Sl (kI .i64) τ v50 r.2.2.2.1) := by
 refine call_of Tryz.func16 Tryz.ntmps16 rfl rfl (fun cs fs => ?_)
 refine Z 2 rfl ?_
 refine o_box (cs := [.int .i64 a0.1, .int .i64 (a0.2.1.getD 0 0), .int .i64 (a0.2.1.getD 1 0), .int .i64 (a0.2.1.getD 2 0), .int .i64 (a0.2.1.getD 3 0), .int .i64 (a0.2.1.getD 4 0), .int .i64 (a0.2.1.getD 5 0), v1, v2, .string a0.2.2.2.2.1, .string a0.2.2.2.2.2]) rfl rfl rfl rfl rfl (fun b5 => ?_)
 refine o_alloc rfl rfl rfl z_zero44 (fun b6 => ?_)
 refine ZZ 13 [1, 1, 1, 1, 1] rfl rfl ?_
 refine o_build (ps := [(0, [.int .i64 a0.1]), (1, [.int .i64 (a0.2.1.getD 0 0), .int .i64 (a0.2.1.getD 1 0), .int .i64 (a0.2.1.getD 2 0), .int .i64 (a0.2.1.getD 3 0), .int .i64 (a0.2.1.getD 4 0), .int .i64 (a0.2.1.getD 5 0)]), (3, [v2]), (4, [.string a0.2.2.2.2.1]), (5, [.string a0.2.2.2.2.2])]) (cs := [.int .i64 a0.1, .int .i64 (a0.2.1.getD 0 0), .int .i64 (a0.2.1.getD 1 0), .int .i64 (a0.2.1.getD 2 0), .int .i64 (a0.2.1.getD 3 0), .int .i64 (a0.2.1.getD 4 0), .int .i64 (a0.2.1.getD 5 0), .slice none 0 0, v2, .string a0.2.2.2.2.1, .string a0.2.2.2.2.2]) rfl rfl rfl z_struct44 ⟨rfl, ⟨_, rfl, rfl⟩, ⟨rfl, ⟨_, rfl, rfl⟩, ⟨rfl, ⟨_, rfl, (oneL_sl hs4)⟩, ⟨rfl, ⟨_, rfl, rfl⟩, ⟨rfl, ⟨_, rfl, rfl⟩, trivial⟩⟩⟩⟩⟩ rfl ?_
 refine o_alloc rfl rfl rfl z_zero44 (fun b7 => ?_)
 refine o_store (j := 0) (vs := [.int .i64 a0.1, .int .i64 (a0.2.1.getD 0 0), .int .i64 (a0.2.1.getD 1 0), .int .i64 (a0.2.1.getD 2 0), .int .i64 (a0.2.1.getD 3 0), .int .i64 (a0.2.1.getD 4 0), .int .i64 (a0.2.1.getD 5 0), .slice none 0 0, v2, .string a0.2.2.2.2.1, .string a0.2.2.2.2.2]) (cs' := [.int .i64 a0.1, .int .i64 (a0.2.1.getD 0 0), .int .i64 (a0.2.1.getD 1 0), .int .i64 (a0.2.1.getD 2 0), .int .i64 (a0.2.1.getD 3 0), .int .i64 (a0.2.1.getD 4 0), .int .i64 (a0.2.1.getD 5 0), .slice none 0 0, v2, .string a0.2.2.2.2.1, .string a0.2.2.2.2.2]) rfl rfl rfl z_size44 rfl rfl rfl (ones_cons rfl (ones_cons rfl (ones_cons rfl (ones_cons rfl (ones_cons rfl (ones_cons rfl (ones_cons rfl (ones_cons rfl (ones_cons hs4.one' (ones_cons rfl (ones_cons rfl ones_nil))))))))))) rfl rfl rfl ?_
 refine st_gs [[(b7, .cells #[.int .i64 a0.1, .int .i64 (a0.2.1.getD 0 0), .int .i64 (a0.2.1.getD 1 0), .int .i64 (a0.2.1.getD 2 0), .int .i64 (a0.2.1.getD 3 0), .int .i64 (a0.2.1.getD 4 0), .int .i64 (a0.2.1.getD 5 0), .slice none 0 0, v2, .string a0.2.2.2.2.1, .string a0.2.2.2.2.2] 44 (0, 0))], [(b6, .cells #[.int .i64 0, .int .i64 0, .int .i64 0, .int .i64 0, .int .i64 0, .int .i64 0, .int .i64 0, .slice none 0 0, .slice none 0 0, .string (bstr []), .string (bstr [])] 44 (0, 0))], [(b5, .cells #[.int .i64 a0.1, .int .i64 (a0.2.1.getD 0 0), .int .i64 (a0.2.1.getD 1 0), .int .i64 (a0.2.1.getD 2 0), .int .i64 (a0.2.1.getD 3 0), .int .i64 (a0.2.1.getD 4 0), .int .i64 (a0.2.1.getD 5 0), v1, v2, .string a0.2.2.2.2.1, .string a0.2.2.2.2.2] 38 (0, 0))]] rfl ?_
 refine Z 2 rfl ?_
 refine st_cut (fun ρ τ8 gs => ∃ (s8 : List (List Int)) (v9 : Value) (g10 : Grp), law17_Of_j1 a0 s8 r ∧ σ.Le τ8 ∧ ESub ρ [(2, .pointer (some ⟨b6, 0, none⟩)), (3, .pointer (some ⟨b7, 0, none⟩))] ∧ gs = [[(b6, .cells #[.int .i64 0, .int .i64 0, .int .i64 0, .int .i64 0, .int .i64 0, .int .i64 0, .int .i64 0, .slice none 0 0, .slice none 0 0, .string (bstr []), .string (bstr [])] 44 (0, 0))], [(b7, .cells #[.int .i64 a0.1, .int .i64 (a0.2.1.getD 0 0), .int .i64 (a0.2.1.getD 1 0), .int .i64 (a0.2.1.getD 2 0), .int .i64 (a0.2.1.getD 3 0), .int .i64 (a0.2.1.getD 4 0), .int .i64 (a0.2.1.getD 5 0), v9, v2, .string a0.2.2.2.2.1, .string a0.2.2.2.2.2] 44 (0, 0))], g10] ∧ Ow (kA .i64 2) 102 τ8 v9 s8 g10) ?_ (fun hk8 => ?_)
 ·rintro ρ8 τ8 gs8 ⟨s8, v9, g10, h, hl8, hρ, rfl, ho11⟩
  refine st_es hρ ?_
  refine ZZ 3 [1] rfl rfl ?_
  refine o_store (j := 0) (vs := [.int .i64 a0.1, .int .i64 (a0.2.1.getD 0 0), .int .i64 (a0.2.1.getD 1 0), .int .i64 (a0.2.1.getD 2 0), .int .i64 (a0.2.1.getD 3 0), .int .i64 (a0.2.1.getD 4 0), .int .i64 (a0.2.1.getD 5 0), v9, v2, .string a0.2.2.2.2.1, .string a0.2.2.2.2.2]) (cs' := [.int .i64 a0.1, .int .i64 (a0.2.1.getD 0 0), .int .i64 (a0.2.1.getD 1 0), .int .i64 (a0.2.1.getD 2 0), .int .i64 (a0.2.1.getD 3 0), .int .i64 (a0.2.1.getD 4 0), .int .i64 (a0.2.1.getD 5 0), v9, v2, .string a0.2.2.2.2.1, .string a0.2.2.2.2.2]) rfl rfl rfl z_size44 rfl rfl rfl (ones_cons rfl (ones_cons rfl (ones_cons rfl (ones_cons rfl (ones_cons rfl (ones_cons rfl (ones_cons rfl (ones_cons ho11.one' (ones_cons (hs4.up hl8).one' (ones_cons rfl (ones_cons rfl ones_nil))))))))))) rfl rfl rfl ?_
  refine st_gs [[(b6, .cells #[.int .i64 a0.1, .int .i64 (a0.2.1.getD 0 0), .int .i64 (a0.2.1.getD 1 0), .int .i64 (a0.2.1.getD 2 0), .int .i64 (a0.2.1.getD 3 0), .int .i64 (a0.2.1.getD 4 0), .int .i64 (a0.2.1.getD 5 0), v9, v2, .string a0.2.2.2.2.1, .string a0.2.2.2.2.2] 44 (0, 0))], [(b7, .cells #[.int .i64 a0.1, .int .i64 (a0.2.1.getD 0 0), .int .i64 (a0.2.1.getD 1 0), .int .i64 (a0.2.1.getD 2 0), .int .i64 (a0.2.1.getD 3 0), .int .i64 (a0.2.1.getD 4 0), .int .i64 (a0.2.1.getD 5 0), v9, v2, .string a0.2.2.2.2.1, .string a0.2.2.2.2.2] 44 (0, 0))], g10] rfl ?_
  refine st_end ?_
  refine st_ord [2, 0, 0] _ rfl ?_
  refine st_freeze (fun τ12 hl13 hg14 => ?_)
  have hs15 := ho11.freeze hl13 hg14
  obtain rfl := Eq.symm h
  exact st_retC (gs' := []) [.agg #[.int .i64 a0.1, .int .i64 (a0.2.1.getD 0 0), .int .i64 (a0.2.1.getD 1 0), .int .i64 (a0.2.1.getD 2 0), .int .i64 (a0.2.1.getD 3 0), .int .i64 (a0.2.1.getD 4 0), .int .i64 (a0.2.1.getD 5 0), v9, v2, .string a0.2.2.2.2.1, .string a0.2.2.2.2.2]] Tryz.func16 ⟨⟨_, _, _, _, rfl, mem_flat 0 rfl, fun w hw => cellOfN (vs := [.int .i64 a0.1, .int .i64 (a0.2.1.getD 0 0), .int .i64 (a0.2.1.getD 1 0), .int .i64 (a0.2.1.getD 2 0), .int .i64 (a0.2.1.getD 3 0), .int .i64 (a0.2.1.getD 4 0), .int .i64 (a0.2.1.getD 5 0), v9, v2, .string a0.2.2.2.2.1, .string a0.2.2.2.2.2]) z_agg44 rfl w hw⟩, trivial⟩ (by simp) (hl8.trans hl13) ⟨_, _, rfl, rfl, hs15, (hs4.up (hl8.trans hl13))⟩
 refine Z 4 rfl ?_
 obtain ⟨e18, hL18, hA18⟩ := h
 refine st_addNil ?_
 refine st_ord [3, 2, 1, 0] _ rfl ?_
 refine st_loop hL18 (fun (s18 : Int × List (List Int)) ρ τ18 gs => σ.Le τ18 ∧ ∃ (v19 : Value) (g20 : Grp), ESub ρ [(1, .pointer (some ⟨b5, 0, none⟩)), (2, .pointer (some ⟨b6, 0, none⟩)), (3, .pointer (some ⟨b7, 0, none⟩)), (4, .int .i64 s18.1)] ∧ gs = [[(b5, .cells #[.int .i64 a0.1, .int .i64 (a0.2.1.getD 0 0), .int .i64 (a0.2.1.getD 1 0), .int .i64 (a0.2.1.getD 2 0), .int .i64 (a0.2.1.getD 3 0), .int .i64 (a0.2.1.getD 4 0), .int .i64 (a0.2.1.getD 5 0), v1, v2, .string a0.2.2.2.2.1, .string a0.2.2.2.2.2] 38 (0, 0))], [(b6, .cells #[.int .i64 0, .int .i64 0, .int .i64 0, .int .i64 0, .int .i64 0, .int .i64 0, .int .i64 0, .slice none 0 0, .slice none 0 0, .string (bstr []), .string (bstr [])] 44 (0, 0))], [(b7, .cells #[.int .i64 a0.1, .int .i64 (a0.2.1.getD 0 0), .int .i64 (a0.2.1.getD 1 0), .int .i64 (a0.2.1.getD 2 0), .int .i64 (a0.2.1.getD 3 0), .int .i64 (a0.2.1.getD 4 0), .int .i64 (a0.2.1.getD 5 0), v19, v2, .string a0.2.2.2.2.1, .string a0.2.2.2.2.2] 44 (0, 0))], g20] ∧ Ow (kA .i64 2) 102 τ18 v19 s18.2 g20) ⟨Sto.Le.refl _, _, _, rfl, rfl, Ow.nil⟩ ?_
 rintro s18 o18 h he18 ρ18 τ18 gs18 ⟨hl18, v19, g20, hρ, rfl, ho21⟩ hn18
 refine st_es hρ ?_
 refine ZZ 6 [0] rfl rfl ?_
 refine o_lenI rfl rfl rfl z_slT36 rfl (hs3.up hl18) ?_
 refine Z 2 rfl ?_
 refine st_if rfl h (fun h => ?_) (fun h => ?_)
 ·refine Z 3 rfl ?_
  obtain ⟨q22, hf23, q27, hf28, hf42, hf43, h⟩ := h
  refine st_d41 [[(b5, .cells #[.int .i64 a0.1, .int .i64 (a0.2.1.getD 0 0), .int .i64 (a0.2.1.getD 1 0), .int .i64 (a0.2.1.getD 2 0), .int .i64 (a0.2.1.getD 3 0), .int .i64 (a0.2.1.getD 4 0), .int .i64 (a0.2.1.getD 5 0), v1, v2, .string a0.2.2.2.2.1, .string a0.2.2.2.2.2] 38 (0, 0))], [(b6, .cells #[.int .i64 0, .int .i64 0, .int .i64 0, .int .i64 0, .int .i64 0, .int .i64 0, .int .i64 0, .slice none 0 0, .slice none 0 0, .string (bstr []), .string (bstr [])] 44 (0, 0))]] [[(b7, .cells #[.int .i64 a0.1, .int .i64 (a0.2.1.getD 0 0), .int .i64 (a0.2.1.getD 1 0), .int .i64 (a0.2.1.getD 2 0), .int .i64 (a0.2.1.getD 3 0), .int .i64 (a0.2.1.getD 4 0), .int .i64 (a0.2.1.getD 5 0), v19, v2, .string a0.2.2.2.2.1, .string a0.2.2.2.2.2] 44 (0, 0))], g20] 17 2 [none, some (0, 0), none, none, none, none, none, none, none, none, none, none, none, none, none, none, some (0, 1)] [none, none, none, none, none, none, none, none, none, none, none, none, none, none, none, none, none] [[none, some 24, some 39]] [.v (.pointer (some ⟨b7, 7, none⟩)), .v (v19), .v (.pointer (some ⟨b5, 7, none⟩)), .v (v1), .v (.int .i64 s18.1), .t fun τ v => ∃ (b24 : Nat) (of25 : Nat) (vsb24 : List Value), (.pointer (some ⟨b24, of25, none⟩) : Value) = v ∧ CelN τ ⟨b24, of25, none⟩ vsb24 ∧ (kP (kI .i64) (kI .i64)).rep τ vsb24 q22, .t fun τ v => ∃ (b24 : Nat) (of25 : Nat) (vsb24 : List Value), (.pointer (some ⟨b24, of25, none⟩) : Value) = v ∧ CelN τ ⟨b24, of25, none⟩ vsb24 ∧ (kP (kI .i64) (kI .i64)).rep τ vsb24 q22, .v (.int .i64 q22.1), .v (.pointer (some ⟨b5, 7, none⟩)), .v (v1), .v (.int .i64 s18.1), .t fun τ v => ∃ (b29 : Nat) (of30 : Nat) (vsb29 : List Value), (.pointer (some ⟨b29, of30, none⟩) : Value) = v ∧ CelN τ ⟨b29, of30, none⟩ vsb29 ∧ (kP (kI .i64) (kI .i64)).rep τ vsb29 q27, .t fun τ v => ∃ (b29 : Nat) (of30 : Nat) (vsb29 : List Value), (.pointer (some ⟨b29, of30 + 1, none⟩) : Value) = v ∧ CelN τ ⟨b29, of30, none⟩ vsb29 ∧ (kP (kI .i64) (kI .i64)).rep τ vsb29 q27, .v (.int .i64 q27.2), .v (.agg #[.int .i64 q22.1, .int .i64 q27.2]), .t fun τ v => ∃ (v32 : Value), (v32 : Value) = v ∧ Sl (kA .i64 2) τ v32 [[q22.1, q27.2]], .t fun _ _ => True] [[fun τ u F => F = [[(b7, .cells #[.int .i64 a0.1, .int .i64 (a0.2.1.getD 0 0), .int .i64 (a0.2.1.getD 1 0), .int .i64 (a0.2.1.getD 2 0), .int .i64 (a0.2.1.getD 3 0), .int .i64 (a0.2.1.getD 4 0), .int .i64 (a0.2.1.getD 5 0), v19, v2, .string a0.2.2.2.2.1, .string a0.2.2.2.2.2] 44 (0, 0))], g20], fun τ u F => F = [[(b7, .cells #[.int .i64 a0.1, .int .i64 (a0.2.1.getD 0 0), .int .i64 (a0.2.1.getD 1 0), .int .i64 (a0.2.1.getD 2 0), .int .i64 (a0.2.1.getD 3 0), .int .i64 (a0.2.1.getD 4 0), .int .i64 (a0.2.1.getD 5 0), v19, v2, .string a0.2.2.2.2.1, .string a0.2.2.2.2.2] 44 (0, 0))], g20], fun τ u F => ∃ (v44 : Value) (g45 : Grp), F = [g45, [(b7, .cells #[.int .i64 a0.1, .int .i64 (a0.2.1.getD 0 0), .int .i64 (a0.2.1.getD 1 0), .int .i64 (a0.2.1.getD 2 0), .int .i64 (a0.2.1.getD 3 0), .int .i64 (a0.2.1.getD 4 0), .int .i64 (a0.2.1.getD 5 0), v19, v2, .string a0.2.2.2.2.1, .string a0.2.2.2.2.2] 44 (0, 0))]] ∧ v44 = u ∧ Ow (kA .i64 2) 102 τ v44 (s18.2 ++ [[q22.1, q27.2]]) g45]] rfl z_mix rfl ⟨fun _ _ _ hl ⟨b24, of25, vsb24, hv, hc26, hrepb24⟩ => ⟨b24, of25, vsb24, hv, hc26.up hl, Kd.mono _ hl hrepb24⟩, ⟨fun _ _ _ hl ⟨b24, of25, vsb24, hv, hc26, hrepb24⟩ => ⟨b24, of25, vsb24, hv, hc26.up hl, Kd.mono _ hl hrepb24⟩, ⟨fun _ _ _ hl ⟨b29, of30, vsb29, hv, hc31, hrepb29⟩ => ⟨b29, of30, vsb29, hv, hc31.up hl, Kd.mono _ hl hrepb29⟩, ⟨fun _ _ _ hl ⟨b29, of30, vsb29, hv, hc31, hrepb29⟩ => ⟨b29, of30, vsb29, hv, hc31.up hl, Kd.mono _ hl hrepb29⟩, ⟨fun _ _ _ hl ⟨v32, hv, hs38⟩ => ⟨v32, hv, hs38.up hl⟩, ⟨fun _ _ _ _ _ => trivial, trivial⟩⟩⟩⟩⟩⟩ ⟨⟨fun _ _ _ _ hl h => h, ⟨fun _ _ _ _ hl h => h, ⟨fun _ _ _ _ hl h => (let ⟨v44, g45, hF, hU, ho46⟩ := h; ⟨v44, g45, hF, hU, ho46.up hl⟩), trivial⟩⟩⟩, trivial⟩ rfl rfl ?_ (allB_cons (allB_cons (allB_cons (allB_cons (allB_cons (allB_cons (allB_cons (allB_cons (allB_cons (allB_cons (allB_cons (allB_cons (allB_cons (allB_cons (allB_cons (allB_cons (allB_cons allB_nil (p4 dA)) ?_) (p4 dA)) ?_) (p4 dA)) ?_) ?_) ?_) (p4 dA)) ?_) (p4 dA)) ?_) ?_) ?_) ?_) ?_) ?_) ?_
  ·exact rfl
  ·intro ρ' τ u Fv pool rs hl hI hu hd hout hw hk
   obtain ⟨_, e0, rfl⟩ := hd 0 rfl _ rfl
   have hI0 := hI
   obtain rfl := hI
   refine st_gs [[(b5, .cells #[.int .i64 a0.1, .int .i64 (a0.2.1.getD 0 0), .int .i64 (a0.2.1.getD 1 0), .int .i64 (a0.2.1.getD 2 0), .int .i64 (a0.2.1.getD 3 0), .int .i64 (a0.2.1.getD 4 0), .int .i64 (a0.2.1.getD 5 0), v1, v2, .string a0.2.2.2.2.1, .string a0.2.2.2.2.2] 38 (0, 0))], [(b6, .cells #[.int .i64 0, .int .i64 0, .int .i64 0, .int .i64 0, .int .i64 0, .int .i64 0, .int .i64 0, .slice none 0 0, .slice none 0 0, .string (bstr []), .string (bstr [])] 44 (0, 0))], [(b7, .cells #[.int .i64 a0.1, .int .i64 (a0.2.1.getD 0 0), .int .i64 (a0.2.1.getD 1 0), .int .i64 (a0.2.1.getD 2 0), .int .i64 (a0.2.1.getD 3 0), .int .i64 (a0.2.1.getD 4 0), .int .i64 (a0.2.1.getD 5 0), v19, v2, .string a0.2.2.2.2.1, .string a0.2.2.2.2.2] 44 (0, 0))], g20, pool] rfl ?_
   refine o_load (j := 2) (v := v19) rfl rfl rfl z_sc42 e0 rfl rfl ?_
   exact hk _ _ [[(b7, .cells #[.int .i64 a0.1, .int .i64 (a0.2.1.getD 0 0), .int .i64 (a0.2.1.getD 1 0), .int .i64 (a0.2.1.getD 2 0), .int .i64 (a0.2.1.getD 3 0), .int .i64 (a0.2.1.getD 4 0), .int .i64 (a0.2.1.getD 5 0), v19, v2, .string a0.2.2.2.2.1, .string a0.2.2.2.2.2] 44 (0, 0))], g20] (Sto.Le.refl _) rfl (by exact hI0)
  ·intro ρ' τ pool rs hl hd hout hw hk
   obtain ⟨_, e2, rfl⟩ := hd 2 rfl _ rfl
   refine o_load (j := 0) (v := v1) rfl rfl rfl z_sc36 e2 rfl rfl ?_
   exact hk _ _ (Sto.Le.refl _) rfl
  ·intro ρ' τ pool rs hl hd hout hw hk
   obtain ⟨_, e3, rfl⟩ := hd 3 rfl _ rfl
   obtain ⟨_, e4, rfl⟩ := hd 4 rfl _ rfl
   refine o_index rfl rfl rfl z_slT36 rfl e3 (hs3.up (hl18.trans hl)) e4 hf23 (fun b24 of25 vsb24 hc26 hrepb24 => ?_)
   exact hk _ _ (Sto.Le.refl _) ⟨b24, of25, _, rfl, hc26, hrepb24⟩
  ·intro ρ' τ pool rs hl hd hout hw hk
   obtain ⟨_, e5, b24, of25, vsb24, rfl, hc26, hrepb24⟩ := hd 5 rfl _ rfl
   have hrepb24 := hrepb24
   obtain ⟨_, _, rfl, rfl, rfl⟩ := hrepb24
   refine o_fieldAddr rfl rfl rfl z_field105_0 e5 ?_
   exact hk _ _ (Sto.Le.refl _) ⟨b24, of25, _, rfl, hc26, hrepb24⟩
  ·intro ρ' τ pool rs hl hd hout hw hk
   obtain ⟨_, e6, b24, of25, vsb24, rfl, hc26, hrepb24⟩ := hd 6 rfl _ rfl
   have hrepb24 := hrepb24
   obtain ⟨_, _, rfl, rfl, rfl⟩ := hrepb24
   refine o_loadI (v := .int .i64 q22.1) rfl rfl rfl z_sc3 e6 (hc26 0 _ rfl) ?_
   exact hk _ _ (Sto.Le.refl _) rfl
  ·intro ρ' τ pool rs hl hd hout hw hk
   obtain ⟨_, e8, rfl⟩ := hd 8 rfl _ rfl
   refine o_load (j := 0) (v := v1) rfl rfl rfl z_sc36 e8 rfl rfl ?_
   exact hk _ _ (Sto.Le.refl _) rfl
  ·intro ρ' τ pool rs hl hd hout hw hk
   obtain ⟨_, e9, rfl⟩ := hd 9 rfl _ rfl
   obtain ⟨_, e10, rfl⟩ := hd 10 rfl _ rfl
   refine o_index rfl rfl rfl z_slT36 rfl e9 (hs3.up (hl18.trans hl)) e10 hf28 (fun b29 of30 vsb29 hc31 hrepb29 => ?_)
   exact hk _ _ (Sto.Le.refl _) ⟨b29, of30, _, rfl, hc31, hrepb29⟩
  ·intro ρ' τ pool rs hl hd hout hw hk
   obtain ⟨_, e11, b29, of30, vsb29, rfl, hc31, hrepb29⟩ := hd 11 rfl _ rfl
   have hrepb29 := hrepb29
   obtain ⟨_, _, rfl, rfl, rfl⟩ := hrepb29
   refine o_fieldAddr rfl rfl rfl z_field105_1 e11 ?_
   exact hk _ _ (Sto.Le.refl _) ⟨b29, of30, _, rfl, hc31, hrepb29⟩
  ·intro ρ' τ pool rs hl hd hout hw hk
   obtain ⟨_, e12, b29, of30, vsb29, rfl, hc31, hrepb29⟩ := hd 12 rfl _ rfl
   have hrepb29 := hrepb29
   obtain ⟨_, _, rfl, rfl, rfl⟩ := hrepb29
   refine o_loadI (v := .int .i64 q27.2) rfl rfl rfl z_sc3 e12 (hc31 1 _ rfl) ?_
   exact hk _ _ (Sto.Le.refl _) rfl
  ·intro ρ' τ pool rs hl hd hout hw hk
   obtain ⟨_, e7, rfl⟩ := hd 7 rfl _ rfl
   obtain ⟨_, e13, rfl⟩ := hd 13 rfl _ rfl
   refine o_buildA (ps := [(0, [.int .i64 q22.1]), (1, [.int .i64 q27.2])]) (cs := [.int .i64 q22.1, .int .i64 q27.2]) rfl rfl rfl z_arrz102 ⟨rfl, ⟨_, e7, rfl⟩, ⟨rfl, ⟨_, e13, rfl⟩, trivial⟩⟩ (fill_all [.int .i64 q22.1, .int .i64 q27.2] _ rfl) ?_
   exact hk _ _ (Sto.Le.refl _) rfl
  ·intro ρ' τ pool rs hl hd hout hw hk
   obtain ⟨_, e14, rfl⟩ := hd 14 rfl _ rfl
   refine o_litE (eA .i64 2) [[q22.1, q27.2]] rfl rfl rfl z_slT42 z_zero102 ⟨rfl, ⟨_, e14, rfl⟩, trivial⟩ rfl rfl rfl rfl (fun v32 g33 ho34 => ?_)
   refine st_freeze (fun τ35 hl36 hg37 => ?_)
   have hs38 := ho34.freeze hl36 hg37
   exact hk _ _ hl36 ⟨v32, rfl, hs38⟩
  ·intro ρ' τ u Fv pool rs hl hI hu hd hout hw hk
   obtain ⟨_, e1, rfl⟩ := hd 1 rfl _ rfl
   obtain ⟨_, e15, v32, rfl, hs38⟩ := hd 15 rfl _ rfl
   have hI0 := hI
   obtain rfl := hI
   refine st_gs [[(b5, .cells #[.int .i64 a0.1, .int .i64 (a0.2.1.getD 0 0), .int .i64 (a0.2.1.getD 1 0), .int .i64 (a0.2.1.getD 2 0), .int .i64 (a0.2.1.getD 3 0), .int .i64 (a0.2.1.getD 4 0), .int .i64 (a0.2.1.getD 5 0), v1, v2, .string a0.2.2.2.2.1, .string a0.2.2.2.2.2] 38 (0, 0))], [(b6, .cells #[.int .i64 0, .int .i64 0, .int .i64 0, .int .i64 0, .int .i64 0, .int .i64 0, .int .i64 0, .slice none 0 0, .slice none 0 0, .string (bstr []), .string (bstr [])] 44 (0, 0))], [(b7, .cells #[.int .i64 a0.1, .int .i64 (a0.2.1.getD 0 0), .int .i64 (a0.2.1.getD 1 0), .int .i64 (a0.2.1.getD 2 0), .int .i64 (a0.2.1.getD 3 0), .int .i64 (a0.2.1.getD 4 0), .int .i64 (a0.2.1.getD 5 0), v19, v2, .string a0.2.2.2.2.1, .string a0.2.2.2.2.2] 44 (0, 0))], g20, pool] rfl ?_
   refine st_ord [3, 0, 0, 0, 0] _ rfl ?_
   refine o_append (dk := (kA .i64 2)) (xs := s18.2) (ys := [[q22.1, q27.2]]) rfl rfl rfl rfl z_slT42 e1 (ho21.up hl) e15 (Sl.src hs38) hf42 hf43 (fun v39 g40 ho41 => ?_)
   refine st_ord [1, 1, 0, 0, 0] _ rfl ?_
   exact hk _ _ [g40, [(b7, .cells #[.int .i64 a0.1, .int .i64 (a0.2.1.getD 0 0), .int .i64 (a0.2.1.getD 1 0), .int .i64 (a0.2.1.getD 2 0), .int .i64 (a0.2.1.getD 3 0), .int .i64 (a0.2.1.getD 4 0), .int .i64 (a0.2.1.getD 5 0), v19, v2, .string a0.2.2.2.2.1, .string a0.2.2.2.2.2] 44 (0, 0))]] (Sto.Le.refl _) trivial (by exact ⟨v39, g40, rfl, rfl, ho41⟩)
  intro ρ' τ47 vals u Fv hl47 hI hu hv hout
  obtain ⟨v44, g45, rfl, rfl, ho46⟩ := hI
  refine st_gs [[(b5, .cells #[.int .i64 a0.1, .int .i64 (a0.2.1.getD 0 0), .int .i64 (a0.2.1.getD 1 0), .int .i64 (a0.2.1.getD 2 0), .int .i64 (a0.2.1.getD 3 0), .int .i64 (a0.2.1.getD 4 0), .int .i64 (a0.2.1.getD 5 0), v1, v2, .string a0.2.2.2.2.1, .string a0.2.2.2.2.2] 38 (0, 0))], [(b6, .cells #[.int .i64 0, .int .i64 0, .int .i64 0, .int .i64 0, .int .i64 0, .int .i64 0, .int .i64 0, .slice none 0 0, .slice none 0 0, .string (bstr []), .string (bstr [])] 44 (0, 0))], g45, [(b7, .cells #[.int .i64 a0.1, .int .i64 (a0.2.1.getD 0 0), .int .i64 (a0.2.1.getD 1 0), .int .i64 (a0.2.1.getD 2 0), .int .i64 (a0.2.1.getD 3 0), .int .i64 (a0.2.1.getD 4 0), .int .i64 (a0.2.1.getD 5 0), v19, v2, .string a0.2.2.2.2.1, .string a0.2.2.2.2.2] 44 (0, 0))]] rfl ?_
  refine st_env (ρ' := [(1, .pointer (some ⟨b5, 0, none⟩)), (2, .pointer (some ⟨b6, 0, none⟩)), (3, .pointer (some ⟨b7, 0, none⟩)), (4, .int .i64 s18.1), (39, v44)]) ⟨(hout 1 rfl).trans rfl, (hout 2 rfl).trans rfl, (hout 3 rfl).trans rfl, (hout 4 rfl).trans rfl, (by exact hu _ rfl), trivial⟩ ?_
  refine o_fieldAddr rfl rfl rfl z_field44_2 rfl ?_
  refine o_store (j := 3) (vs := [v44]) (cs' := [.int .i64 a0.1, .int .i64 (a0.2.1.getD 0 0), .int .i64 (a0.2.1.getD 1 0), .int .i64 (a0.2.1.getD 2 0), .int .i64 (a0.2.1.getD 3 0), .int .i64 (a0.2.1.getD 4 0), .int .i64 (a0.2.1.getD 5 0), v44, v2, .string a0.2.2.2.2.1, .string a0.2.2.2.2.2]) rfl rfl rfl z_size42 rfl rfl (oneL_ow ho46) (ones_cons ho46.one' ones_nil) rfl rfl rfl ?_
  refine st_gs [[(b5, .cells #[.int .i64 a0.1, .int .i64 (a0.2.1.getD 0 0), .int .i64 (a0.2.1.getD 1 0), .int .i64 (a0.2.1.getD 2 0), .int .i64 (a0.2.1.getD 3 0), .int .i64 (a0.2.1.getD 4 0), .int .i64 (a0.2.1.getD 5 0), v1, v2, .string a0.2.2.2.2.1, .string a0.2.2.2.2.2] 38 (0, 0))], [(b6, .cells #[.int .i64 0, .int .i64 0, .int .i64 0, .int .i64 0, .int .i64 0, .int .i64 0, .int .i64 0, .slice none 0 0, .slice none 0 0, .string (bstr []), .string (bstr [])] 44 (0, 0))], g45, [(b7, .cells #[.int .i64 a0.1, .int .i64 (a0.2.1.getD 0 0), .int .i64 (a0.2.1.getD 1 0), .int .i64 (a0.2.1.getD 2 0), .int .i64 (a0.2.1.getD 3 0), .int .i64 (a0.2.1.getD 4 0), .int .i64 (a0.2.1.getD 5 0), v44, v2, .string a0.2.2.2.2.1, .string a0.2.2.2.2.2] 44 (0, 0))]] rfl ?_
  refine Z 7 rfl ?_
  refine st_ord [0, 0, 1, 0] _ rfl ?_
  exact hn18 _ _ _ _ h ⟨(hl18.trans hl47), _, _, rfl, rfl, ho46⟩
 ·refine st_exit rfl ?_
  obtain rfl := he18 _ h
  replace h := hA18
  refine st_ord [1, 1, 1] _ rfl ?_
  exact hk8 _ _ _ ⟨s18.2, _, _, h, hl18, rfl, rfl, ho21⟩
theorem ref16_All_ok {a0 : Int} {r : (List (ByteArray × Int × Int × Int × Int × Int × Int))} (h : ref16_All a0 r) (σ : Sto)  :
    Does Tryz.prog 38 [.int .i64 a0] σ [] (fun v τ gs => ∃ (v55 : Value), gs = [] ∧ v55 = v ∧ Sl (kP kS (kP (kI .i64) (kP (kI .i64) (kP (kI .i64) (kP (kI .i64) (kP (kI .i64) (kI .i64))))))) τ v55 r) := by
 refine call_of Tryz.func38 Tryz.ntmps38 rfl rfl (fun cs fs => ?_)
 refine Z 14 rfl ?_
 refine o_lit (dk := (kP kS (kP (kI .i64) (kP (kI .i64) (kP (kI .i64) (kP (kI .i64) (kP (kI .i64) (kI .i64)))))))) (xs := ([] : List (ByteArray × Int × Int × Int × Int × Int × Int))) (ps := []) (cs := []) rfl rfl rfl z_slT99 z_zero101 trivial rfl rfl rfl rfl Kd.Many.nil (fun v1 g2 ho3 => ?_)
 refine Z 3 rfl ?_
 refine st_cut (fun ρ τ4 gs => ∃ (s4 : (List (ByteArray × Int × Int × Int × Int × Int × Int))) (v5 : Value) (g6 : Grp), ref16_All_j1 s4 r ∧ σ.Le τ4 ∧ ESub ρ [(2, .slice none 0 0), (3, .slice none 0 0), (4, .int .i64 0), (5, v5)] ∧ gs = [g6] ∧ Ow (kP kS (kP (kI .i64) (kP (kI .i64) (kP (kI .i64) (kP (kI .i64) (kP (kI .i64) (kI .i64))))))) 101 τ4 v5 s4 g6) ?_ (fun hk4 => ?_)
 ·rintro ρ4 τ4 gs4 ⟨s4, v5, g6, h, hl4, hρ, rfl, ho7⟩
  refine st_es hρ ?_
  refine st_seq ?_
  refine st_cut (fun ρ τ8 gs => ∃ (s8 : (List (ByteArray × Int × Int × Int × Int × Int × Int))) (v9 : Value) (g10 : Grp), ref16_All_j2 s8 r ∧ τ4.Le τ8 ∧ ESub ρ [(2, .slice none 0 0), (3, v9)] ∧ gs = [g10] ∧ Ow (kP kS (kP (kI .i64) (kP (kI .i64) (kP (kI .i64) (kP (kI .i64) (kP (kI .i64) (kI .i64))))))) 101 τ8 v9 s8 g10) ?_ (fun hk8 => ?_)
  ·rintro ρ8 τ8 gs8 ⟨s8, v9, g10, h, hl8, hρ, rfl, ho11⟩
   refine st_es hρ ?_
   refine Z 5 rfl ?_
   refine st_freeze (fun τ12 hl13 hg14 => ?_)
   have hs15 := ho11.freeze hl13 hg14
   obtain rfl := Eq.symm h
   exact st_ret (gs' := []) Tryz.func38 rfl (List.Sublist.refl _) ((hl4.trans hl8).trans hl13) ⟨_, rfl, rfl, hs15⟩
  refine Z 4 rfl ?_
  obtain ⟨e18, hL18, hA18⟩ := h
  refine st_addNil ?_
  refine st_ord [1, 0] _ rfl ?_
  refine st_loop hL18 (fun (s18 : (List (ByteArray × Int × Int × Int × Int × Int × Int)) × Int × Int) ρ τ18 gs => τ4.Le τ18 ∧ ∃ (v19 : Value) (g20 : Grp), ESub ρ [(2, .slice none 0 0), (3, v19), (4, .int .i64 s18.2.1), (5, v5), (6, .int .i64 s18.2.2)] ∧ gs = [g6, g20] ∧ Ow (kP kS (kP (kI .i64) (kP (kI .i64) (kP (kI .i64) (kP (kI .i64) (kP (kI .i64) (kI .i64))))))) 101 τ18 v19 s18.1 g20) ⟨Sto.Le.refl _, _, _, rfl, rfl, Ow.nil⟩ ?_
  rintro s18 o18 h he18 ρ18 τ18 gs18 ⟨hl18, v19, g20, hρ, rfl, ho21⟩ hn18
  refine st_es hρ ?_
  refine Z 5 rfl ?_
  refine o_lenO rfl rfl rfl z_slT99 rfl (ho7.up hl18) ?_
  refine Z 2 rfl ?_
  refine st_if rfl h (fun h => ?_) (fun h => ?_)
  ·refine Z 7 rfl ?_
   obtain ⟨q22, hf23, h⟩ := h
   refine o_indexOw rfl rfl rfl z_slT99 rfl rfl (ho7.up hl18) rfl hf23 (fun b24 hb25 => ?_)
   obtain ⟨vs26, hrep27, hat28⟩ := Ow.at (ho7.up hl18) hb25 hf23
   obtain ⟨_, _, rfl, rfl, ⟨_, _, rfl, rfl, ⟨_, _, rfl, rfl, ⟨_, _, rfl, rfl, ⟨_, _, rfl, rfl, ⟨_, _, rfl, rfl, rfl⟩⟩⟩⟩⟩⟩ := hrep27
   refine o_loadOwN (j := 0) (off := 0) (us := [.string q22.1, .int .i64 q22.2.1, .int .i64 q22.2.2.1, .int .i64 q22.2.2.2.1, .int .i64 q22.2.2.2.2.1, .int .i64 q22.2.2.2.2.2.1, .int .i64 q22.2.2.2.2.2.2]) rfl rfl rfl z_agg101 rfl hat28 rfl (by exact rfl) ?_
   refine o_alloc rfl rfl rfl z_zero101 (fun b29 => ?_)
   refine ZZ 8 [0, 0] rfl rfl ?_
   refine st_cut (fun ρ τ30 gs => ∃ (s30 : Int × Int), ref16_All_j4 s18 q22 s30 o18 ∧ τ18.Le τ30 ∧ ESub ρ [(2, .slice none 0 0), (3, v19), (4, .int .i64 s30.1), (5, v5), (6, .int .i64 s18.2.2), (7, .pointer (some ⟨b29, 0, none⟩))] ∧ gs = [[(b29, .cells #[.string q22.1, .int .i64 q22.2.1, .int .i64 s30.2, .int .i64 q22.2.2.2.1, .int .i64 q22.2.2.2.2.1, .int .i64 q22.2.2.2.2.2.1, .int .i64 q22.2.2.2.2.2.2] 101 (0, 0))], g20, g6]) ?_ (fun hk30 => ?_)
   ·rintro ρ30 τ30 gs30 ⟨s30, h, hl30, hρ, rfl⟩
    refine st_es hρ ?_
    refine ZZ 3 [0] rfl rfl ?_
    refine o_litE (eP eS (eP (eI .i64) (eP (eI .i64) (eP (eI .i64) (eP (eI .i64) (eP (eI .i64) (eI .i64))))))) [(q22.1, q22.2.1, s30.2, q22.2.2.2.1, q22.2.2.2.2.1, q22.2.2.2.2.2.1, q22.2.2.2.2.2.2)] rfl rfl rfl z_slT99 z_zero101 ⟨rfl, ⟨_, rfl, rfl⟩, trivial⟩ rfl rfl rfl rfl (fun v31 g32 ho33 => ?_)
    obtain ⟨hf37, hf38, h⟩ := h
    refine st_ord [2, 0, 0, 0] _ rfl ?_
    refine o_append (dk := (kP kS (kP (kI .i64) (kP (kI .i64) (kP (kI .i64) (kP (kI .i64) (kP (kI .i64) (kI .i64)))))))) (xs := s18.1) (ys := [(q22.1, q22.2.1, s30.2, q22.2.2.2.1, q22.2.2.2.2.1, q22.2.2.2.2.2.1, q22.2.2.2.2.2.2)]) rfl rfl rfl rfl z_slT99 rfl (ho21.up hl30) rfl (Ow.src (j := 1) ho33 rfl) hf37 hf38 (fun v34 g35 ho36 => ?_)
    refine Z 8 rfl ?_
    refine st_ord [3, 0] _ rfl ?_
    exact hn18 _ _ _ _ h ⟨(hl18.trans hl30), _, _, rfl, rfl, ho36⟩
   refine ZZ 6 [0] rfl rfl ?_
   refine st_if rfl h (fun h => ?_) (fun h => ?_)
   ·refine ZZ 11 [0] rfl rfl ?_
    refine st_ord [0, 1, 0] _ rfl ?_
    exact hk30 _ _ _ ⟨((IntKind.i64.wrap (s18.2.1 + 1)), s18.2.1), h, (Sto.Le.refl _), rfl, rfl⟩
   ·refine st_skip ?_
    refine st_ord [0, 1, 0] _ rfl ?_
    exact hk30 _ _ _ ⟨(s18.2.1, (-1)), h, (Sto.Le.refl _), rfl, rfl⟩
  ·refine st_exit rfl ?_
   obtain rfl := he18 _ h
   replace h := hA18
   refine st_ord [1] _ rfl ?_
   exact hk8 _ _ _ ⟨s18.1, _, _, h, hl18, rfl, rfl, ho21⟩
 refine Z 10 rfl ?_
 refine st_if rfl h (fun h => ?_) (fun h => ?_)
 ·refine st_region ?_
  refine o_build (ps := [(0, [.string (bstr [114, 111, 98, 111, 116])]), (1, [.int .i64 1]), (2, [.int .i64 0]), (3, [.int .i64 0]), (4, [.int .i64 65535]), (5, [.int .i64 1]), (6, [.int .i64 0])]) (cs := [.string (bstr [114, 111, 98, 111, 116]), .int .i64 1, .int .i64 0, .int .i64 0, .int .i64 65535, .int .i64 1, .int .i64 0]) rfl rfl rfl z_struct101 ⟨rfl, ⟨_, (ev_str z_str1), rfl⟩, ⟨rfl, ⟨_, rfl, rfl⟩, ⟨rfl, ⟨_, rfl, rfl⟩, ⟨rfl, ⟨_, rfl, rfl⟩, ⟨rfl, ⟨_, rfl, rfl⟩, ⟨rfl, ⟨_, rfl, rfl⟩, ⟨rfl, ⟨_, rfl, rfl⟩, trivial⟩⟩⟩⟩⟩⟩⟩ rfl ?_
  refine o_build (ps := [(0, [.string (bstr [115, 112, 101, 101, 100])]), (1, [.int .i64 1]), (2, [.int .i64 0]), (3, [.int .i64 1]), (4, [.int .i64 5000]), (5, [.int .i64 1]), (6, [.int .i64 0])]) (cs := [.string (bstr [115, 112, 101, 101, 100]), .int .i64 1, .int .i64 0, .int .i64 1, .int .i64 5000, .int .i64 1, .int .i64 0]) rfl rfl rfl z_struct101 ⟨rfl, ⟨_, (ev_str z_str2), rfl⟩, ⟨rfl, ⟨_, rfl, rfl⟩, ⟨rfl, ⟨_, rfl, rfl⟩, ⟨rfl, ⟨_, rfl, rfl⟩, ⟨rfl, ⟨_, rfl, rfl⟩, ⟨rfl, ⟨_, rfl, rfl⟩, ⟨rfl, ⟨_, rfl, rfl⟩, trivial⟩⟩⟩⟩⟩⟩⟩ rfl ?_
  refine o_build (ps := [(0, [.string (bstr [97, 99, 99, 101, 108])]), (1, [.int .i64 1]), (2, [.int .i64 0]), (3, [.int .i64 1]), (4, [.int .i64 10000]), (5, [.int .i64 2]), (6, [.int .i64 500])]) (cs := [.string (bstr [97, 99, 99, 101, 108]), .int .i64 1, .int .i64 0, .int .i64 1, .int .i64 10000, .int .i64 2, .int .i64 500]) rfl rfl rfl z_struct101 ⟨rfl, ⟨_, (ev_str z_str3), rfl⟩, ⟨rfl, ⟨_, rfl, rfl⟩, ⟨rfl, ⟨_, rfl, rfl⟩, ⟨rfl, ⟨_, rfl, rfl⟩, ⟨rfl, ⟨_, rfl, rfl⟩, ⟨rfl, ⟨_, rfl, rfl⟩, ⟨rfl, ⟨_, rfl, rfl⟩, trivial⟩⟩⟩⟩⟩⟩⟩ rfl ?_
  refine o_build (ps := [(0, [.string (bstr [112, 97, 116, 104])]), (1, [.int .i64 3]), (2, [.int .i64 0]), (3, [.int .i64 1]), (4, [.int .i64 16]), (5, [.int .i64 1]), (6, [.int .i64 0])]) (cs := [.string (bstr [112, 97, 116, 104]), .int .i64 3, .int .i64 0, .int .i64 1, .int .i64 16, .int .i64 1, .int .i64 0]) rfl rfl rfl z_struct101 ⟨rfl, ⟨_, (ev_str z_str4), rfl⟩, ⟨rfl, ⟨_, rfl, rfl⟩, ⟨rfl, ⟨_, rfl, rfl⟩, ⟨rfl, ⟨_, rfl, rfl⟩, ⟨rfl, ⟨_, rfl, rfl⟩, ⟨rfl, ⟨_, rfl, rfl⟩, ⟨rfl, ⟨_, rfl, rfl⟩, trivial⟩⟩⟩⟩⟩⟩⟩ rfl ?_
  refine o_build (ps := [(0, [.string (bstr [116, 97, 103])]), (1, [.int .i64 6]), (2, [.int .i64 0]), (3, [.int .i64 0]), (4, [.int .i64 16]), (5, [.int .i64 2]), (6, [.int .i64 0])]) (cs := [.string (bstr [116, 97, 103]), .int .i64 6, .int .i64 0, .int .i64 0, .int .i64 16, .int .i64 2, .int .i64 0]) rfl rfl rfl z_struct101 ⟨rfl, ⟨_, (ev_str z_str5), rfl⟩, ⟨rfl, ⟨_, rfl, rfl⟩, ⟨rfl, ⟨_, rfl, rfl⟩, ⟨rfl, ⟨_, rfl, rfl⟩, ⟨rfl, ⟨_, rfl, rfl⟩, ⟨rfl, ⟨_, rfl, rfl⟩, ⟨rfl, ⟨_, rfl, rfl⟩, trivial⟩⟩⟩⟩⟩⟩⟩ rfl ?_
  refine o_litE (eP eS (eP (eI .i64) (eP (eI .i64) (eP (eI .i64) (eP (eI .i64) (eP (eI .i64) (eI .i64))))))) [((bstr [114, 111, 98, 111, 116]), 1, 0, 0, 65535, 1, 0), ((bstr [115, 112, 101, 101, 100]), 1, 0, 1, 5000, 1, 0), ((bstr [97, 99, 99, 101, 108]), 1, 0, 1, 10000, 2, 500), ((bstr [112, 97, 116, 104]), 3, 0, 1, 16, 1, 0), ((bstr [116, 97, 103]), 6, 0, 0, 16, 2, 0)] rfl rfl rfl z_slT99 z_zero101 ⟨rfl, ⟨_, rfl, rfl⟩, ⟨rfl, ⟨_, rfl, rfl⟩, ⟨rfl, ⟨_, rfl, rfl⟩, ⟨rfl, ⟨_, rfl, rfl⟩, ⟨rfl, ⟨_, rfl, rfl⟩, trivial⟩⟩⟩⟩⟩ rfl rfl rfl rfl (fun v40 g41 ho42 => ?_)
  refine Z 3 rfl ?_
  refine st_ord [0] _ rfl ?_
  exact hk4 _ _ _ ⟨[((bstr [114, 111, 98, 111, 116]), 1, 0, 0, 65535, 1, 0), ((bstr [115, 112, 101, 101, 100]), 1, 0, 1, 5000, 1, 0), ((bstr [97, 99, 99, 101, 108]), 1, 0, 1, 10000, 2, 500), ((bstr [112, 97, 116, 104]), 3, 0, 1, 16, 1, 0), ((bstr [116, 97, 103]), 6, 0, 0, 16, 2, 0)], _, _, h, (Sto.Le.refl _), rfl, rfl, ho42⟩
 ·refine Z 5 rfl ?_
  refine st_if rfl h (fun h => ?_) (fun h => ?_)
  ·refine st_region ?_
   refine o_build (ps := [(0, [.string (bstr [114, 111, 98, 111, 116])]), (1, [.int .i64 1]), (2, [.int .i64 0]), (3, [.int .i64 0]), (4, [.int .i64 65535]), (5, [.int .i64 1]), (6, [.int .i64 0])]) (cs := [.string (bstr [114, 111, 98, 111, 116]), .int .i64 1, .int .i64 0, .int .i64 0, .int .i64 65535, .int .i64 1, .int .i64 0]) rfl rfl rfl z_struct101 ⟨rfl, ⟨_, (ev_str z_str1), rfl⟩, ⟨rfl, ⟨_, rfl, rfl⟩, ⟨rfl, ⟨_, rfl, rfl⟩, ⟨rfl, ⟨_, rfl, rfl⟩, ⟨rfl, ⟨_, rfl, rfl⟩, ⟨rfl, ⟨_, rfl, rfl⟩, ⟨rfl, ⟨_, rfl, rfl⟩, trivial⟩⟩⟩⟩⟩⟩⟩ rfl ?_
   refine o_build (ps := [(0, [.string (bstr [114, 101, 97, 115, 111, 110])]), (1, [.int .i64 1]), (2, [.int .i64 0]), (3, [.int .i64 0]), (4, [.int .i64 15]), (5, [.int .i64 1]), (6, [.int .i64 0])]) (cs := [.string (bstr [114, 101, 97, 115, 111, 110]), .int .i64 1, .int .i64 0, .int .i64 0, .int .i64 15, .int .i64 1, .int .i64 0]) rfl rfl rfl z_struct101 ⟨rfl, ⟨_, (ev_str z_str6), rfl⟩, ⟨rfl, ⟨_, rfl, rfl⟩, ⟨rfl, ⟨_, rfl, rfl⟩, ⟨rfl, ⟨_, rfl, rfl⟩, ⟨rfl, ⟨_, rfl, rfl⟩, ⟨rfl, ⟨_, rfl, rfl⟩, ⟨rfl, ⟨_, rfl, rfl⟩, trivial⟩⟩⟩⟩⟩⟩⟩ rfl ?_
   refine o_build (ps := [(0, [.string (bstr [122, 111, 110, 101])]), (1, [.int .i64 1]), (2, [.int .i64 0]), (3, [.int .i64 0]), (4, [.int .i64 4095]), (5, [.int .i64 2]), (6, [.int .i64 0])]) (cs := [.string (bstr [122, 111, 110, 101]), .int .i64 1, .int .i64 0, .int .i64 0, .int .i64 4095, .int .i64 2, .int .i64 0]) rfl rfl rfl z_struct101 ⟨rfl, ⟨_, (ev_str z_str7), rfl⟩, ⟨rfl, ⟨_, rfl, rfl⟩, ⟨rfl, ⟨_, rfl, rfl⟩, ⟨rfl, ⟨_, rfl, rfl⟩, ⟨rfl, ⟨_, rfl, rfl⟩, ⟨rfl, ⟨_, rfl, rfl⟩, ⟨rfl, ⟨_, rfl, rfl⟩, trivial⟩⟩⟩⟩⟩⟩⟩ rfl ?_
   refine o_litE (eP eS (eP (eI .i64) (eP (eI .i64) (eP (eI .i64) (eP (eI .i64) (eP (eI .i64) (eI .i64))))))) [((bstr [114, 111, 98, 111, 116]), 1, 0, 0, 65535, 1, 0), ((bstr [114, 101, 97, 115, 111, 110]), 1, 0, 0, 15, 1, 0), ((bstr [122, 111, 110, 101]), 1, 0, 0, 4095, 2, 0)] rfl rfl rfl z_slT99 z_zero101 ⟨rfl, ⟨_, rfl, rfl⟩, ⟨rfl, ⟨_, rfl, rfl⟩, ⟨rfl, ⟨_, rfl, rfl⟩, trivial⟩⟩⟩ rfl rfl rfl rfl (fun v43 g44 ho45 => ?_)
   refine Z 3 rfl ?_
   refine st_ord [0] _ rfl ?_
   exact hk4 _ _ _ ⟨[((bstr [114, 111, 98, 111, 116]), 1, 0, 0, 65535, 1, 0), ((bstr [114, 101, 97, 115, 111, 110]), 1, 0, 0, 15, 1, 0), ((bstr [122, 111, 110, 101]), 1, 0, 0, 4095, 2, 0)], _, _, h, (Sto.Le.refl _), rfl, rfl, ho45⟩
  ·refine Z 5 rfl ?_
   refine st_if rfl h (fun h => ?_) (fun h => ?_)
   ·refine st_region ?_
    refine o_build (ps := [(0, [.string (bstr [114, 111, 98, 111, 116])]), (1, [.int .i64 1]), (2, [.int .i64 0]), (3, [.int .i64 0]), (4, [.int .i64 65535]), (5, [.int .i64 1]), (6, [.int .i64 0])]) (cs := [.string (bstr [114, 111, 98, 111, 116]), .int .i64 1, .int .i64 0, .int .i64 0, .int .i64 65535, .int .i64 1, .int .i64 0]) rfl rfl rfl z_struct101 ⟨rfl, ⟨_, (ev_str z_str1), rfl⟩, ⟨rfl, ⟨_, rfl, rfl⟩, ⟨rfl, ⟨_, rfl, rfl⟩, ⟨rfl, ⟨_, rfl, rfl⟩, ⟨rfl, ⟨_, rfl, rfl⟩, ⟨rfl, ⟨_, rfl, rfl⟩, ⟨rfl, ⟨_, rfl, rfl⟩, trivial⟩⟩⟩⟩⟩⟩⟩ rfl ?_
    refine o_build (ps := [(0, [.string (bstr [122, 111, 110, 101])]), (1, [.int .i64 1]), (2, [.int .i64 0]), (3, [.int .i64 0]), (4, [.int .i64 4095]), (5, [.int .i64 1]), (6, [.int .i64 0])]) (cs := [.string (bstr [122, 111, 110, 101]), .int .i64 1, .int .i64 0, .int .i64 0, .int .i64 4095, .int .i64 1, .int .i64 0]) rfl rfl rfl z_struct101 ⟨rfl, ⟨_, (ev_str z_str7), rfl⟩, ⟨rfl, ⟨_, rfl, rfl⟩, ⟨rfl, ⟨_, rfl, rfl⟩, ⟨rfl, ⟨_, rfl, rfl⟩, ⟨rfl, ⟨_, rfl, rfl⟩, ⟨rfl, ⟨_, rfl, rfl⟩, ⟨rfl, ⟨_, rfl, rfl⟩, trivial⟩⟩⟩⟩⟩⟩⟩ rfl ?_
    refine o_build (ps := [(0, [.string (bstr [108, 101, 97, 115, 101])]), (1, [.int .i64 1]), (2, [.int .i64 0]), (3, [.int .i64 1]), (4, [.int .i64 255]), (5, [.int .i64 2]), (6, [.int .i64 1])]) (cs := [.string (bstr [108, 101, 97, 115, 101]), .int .i64 1, .int .i64 0, .int .i64 1, .int .i64 255, .int .i64 2, .int .i64 1]) rfl rfl rfl z_struct101 ⟨rfl, ⟨_, (ev_str z_str8), rfl⟩, ⟨rfl, ⟨_, rfl, rfl⟩, ⟨rfl, ⟨_, rfl, rfl⟩, ⟨rfl, ⟨_, rfl, rfl⟩, ⟨rfl, ⟨_, rfl, rfl⟩, ⟨rfl, ⟨_, rfl, rfl⟩, ⟨rfl, ⟨_, rfl, rfl⟩, trivial⟩⟩⟩⟩⟩⟩⟩ rfl ?_
    refine o_build (ps := [(0, [.string (bstr [99, 101, 108, 108, 115])]), (1, [.int .i64 4]), (2, [.int .i64 0]), (3, [.int .i64 1]), (4, [.int .i64 32]), (5, [.int .i64 1]), (6, [.int .i64 0])]) (cs := [.string (bstr [99, 101, 108, 108, 115]), .int .i64 4, .int .i64 0, .int .i64 1, .int .i64 32, .int .i64 1, .int .i64 0]) rfl rfl rfl z_struct101 ⟨rfl, ⟨_, (ev_str z_str9), rfl⟩, ⟨rfl, ⟨_, rfl, rfl⟩, ⟨rfl, ⟨_, rfl, rfl⟩, ⟨rfl, ⟨_, rfl, rfl⟩, ⟨rfl, ⟨_, rfl, rfl⟩, ⟨rfl, ⟨_, rfl, rfl⟩, ⟨rfl, ⟨_, rfl, rfl⟩, trivial⟩⟩⟩⟩⟩⟩⟩ rfl ?_
    refine o_litE (eP eS (eP (eI .i64) (eP (eI .i64) (eP (eI .i64) (eP (eI .i64) (eP (eI .i64) (eI .i64))))))) [((bstr [114, 111, 98, 111, 116]), 1, 0, 0, 65535, 1, 0), ((bstr [122, 111, 110, 101]), 1, 0, 0, 4095, 1, 0), ((bstr [108, 101, 97, 115, 101]), 1, 0, 1, 255, 2, 1), ((bstr [99, 101, 108, 108, 115]), 4, 0, 1, 32, 1, 0)] rfl rfl rfl z_slT99 z_zero101 ⟨rfl, ⟨_, rfl, rfl⟩, ⟨rfl, ⟨_, rfl, rfl⟩, ⟨rfl, ⟨_, rfl, rfl⟩, ⟨rfl, ⟨_, rfl, rfl⟩, trivial⟩⟩⟩⟩ rfl rfl rfl rfl (fun v46 g47 ho48 => ?_)
    refine Z 3 rfl ?_
    refine st_ord [0] _ rfl ?_
    exact hk4 _ _ _ ⟨[((bstr [114, 111, 98, 111, 116]), 1, 0, 0, 65535, 1, 0), ((bstr [122, 111, 110, 101]), 1, 0, 0, 4095, 1, 0), ((bstr [108, 101, 97, 115, 101]), 1, 0, 1, 255, 2, 1), ((bstr [99, 101, 108, 108, 115]), 4, 0, 1, 32, 1, 0)], _, _, h, (Sto.Le.refl _), rfl, rfl, ho48⟩
   ·refine Z 5 rfl ?_
    refine st_if rfl h (fun h => ?_) (fun h => ?_)
    ·refine st_region ?_
     refine o_build (ps := [(0, [.string (bstr [114, 111, 98, 111, 116])]), (1, [.int .i64 1]), (2, [.int .i64 0]), (3, [.int .i64 0]), (4, [.int .i64 65535]), (5, [.int .i64 1]), (6, [.int .i64 0])]) (cs := [.string (bstr [114, 111, 98, 111, 116]), .int .i64 1, .int .i64 0, .int .i64 0, .int .i64 65535, .int .i64 1, .int .i64 0]) rfl rfl rfl z_struct101 ⟨rfl, ⟨_, (ev_str z_str1), rfl⟩, ⟨rfl, ⟨_, rfl, rfl⟩, ⟨rfl, ⟨_, rfl, rfl⟩, ⟨rfl, ⟨_, rfl, rfl⟩, ⟨rfl, ⟨_, rfl, rfl⟩, ⟨rfl, ⟨_, rfl, rfl⟩, ⟨rfl, ⟨_, rfl, rfl⟩, trivial⟩⟩⟩⟩⟩⟩⟩ rfl ?_
     refine o_build (ps := [(0, [.string (bstr [120])]), (1, [.int .i64 2]), (2, [.int .i64 0]), (3, [.int .i64 (-1000000)]), (4, [.int .i64 1000000]), (5, [.int .i64 1]), (6, [.int .i64 0])]) (cs := [.string (bstr [120]), .int .i64 2, .int .i64 0, .int .i64 (-1000000), .int .i64 1000000, .int .i64 1, .int .i64 0]) rfl rfl rfl z_struct101 ⟨rfl, ⟨_, (ev_str z_str10), rfl⟩, ⟨rfl, ⟨_, rfl, rfl⟩, ⟨rfl, ⟨_, rfl, rfl⟩, ⟨rfl, ⟨_, rfl, rfl⟩, ⟨rfl, ⟨_, rfl, rfl⟩, ⟨rfl, ⟨_, rfl, rfl⟩, ⟨rfl, ⟨_, rfl, rfl⟩, trivial⟩⟩⟩⟩⟩⟩⟩ rfl ?_
     refine o_build (ps := [(0, [.string (bstr [121])]), (1, [.int .i64 2]), (2, [.int .i64 0]), (3, [.int .i64 (-1000000)]), (4, [.int .i64 1000000]), (5, [.int .i64 1]), (6, [.int .i64 0])]) (cs := [.string (bstr [121]), .int .i64 2, .int .i64 0, .int .i64 (-1000000), .int .i64 1000000, .int .i64 1, .int .i64 0]) rfl rfl rfl z_struct101 ⟨rfl, ⟨_, (ev_str z_str11), rfl⟩, ⟨rfl, ⟨_, rfl, rfl⟩, ⟨rfl, ⟨_, rfl, rfl⟩, ⟨rfl, ⟨_, rfl, rfl⟩, ⟨rfl, ⟨_, rfl, rfl⟩, ⟨rfl, ⟨_, rfl, rfl⟩, ⟨rfl, ⟨_, rfl, rfl⟩, trivial⟩⟩⟩⟩⟩⟩⟩ rfl ?_
     refine o_build (ps := [(0, [.string (bstr [104, 101, 97, 100, 105, 110, 103])]), (1, [.int .i64 1]), (2, [.int .i64 0]), (3, [.int .i64 0]), (4, [.int .i64 35999]), (5, [.int .i64 1]), (6, [.int .i64 0])]) (cs := [.string (bstr [104, 101, 97, 100, 105, 110, 103]), .int .i64 1, .int .i64 0, .int .i64 0, .int .i64 35999, .int .i64 1, .int .i64 0]) rfl rfl rfl z_struct101 ⟨rfl, ⟨_, (ev_str z_str12), rfl⟩, ⟨rfl, ⟨_, rfl, rfl⟩, ⟨rfl, ⟨_, rfl, rfl⟩, ⟨rfl, ⟨_, rfl, rfl⟩, ⟨rfl, ⟨_, rfl, rfl⟩, ⟨rfl, ⟨_, rfl, rfl⟩, ⟨rfl, ⟨_, rfl, rfl⟩, trivial⟩⟩⟩⟩⟩⟩⟩ rfl ?_
     refine o_build (ps := [(0, [.string (bstr [98, 97, 116, 116, 101, 114, 121])]), (1, [.int .i64 1]), (2, [.int .i64 0]), (3, [.int .i64 0]), (4, [.int .i64 1000]), (5, [.int .i64 1]), (6, [.int .i64 0])]) (cs := [.string (bstr [98, 97, 116, 116, 101, 114, 121]), .int .i64 1, .int .i64 0, .int .i64 0, .int .i64 1000, .int .i64 1, .int .i64 0]) rfl rfl rfl z_struct101 ⟨rfl, ⟨_, (ev_str z_str13), rfl⟩, ⟨rfl, ⟨_, rfl, rfl⟩, ⟨rfl, ⟨_, rfl, rfl⟩, ⟨rfl, ⟨_, rfl, rfl⟩, ⟨rfl, ⟨_, rfl, rfl⟩, ⟨rfl, ⟨_, rfl, rfl⟩, ⟨rfl, ⟨_, rfl, rfl⟩, trivial⟩⟩⟩⟩⟩⟩⟩ rfl ?_
     refine o_build (ps := [(0, [.string (bstr [115, 117, 114, 101])]), (1, [.int .i64 1]), (2, [.int .i64 0]), (3, [.int .i64 0]), (4, [.int .i64 100]), (5, [.int .i64 2]), (6, [.int .i64 100])]) (cs := [.string (bstr [115, 117, 114, 101]), .int .i64 1, .int .i64 0, .int .i64 0, .int .i64 100, .int .i64 2, .int .i64 100]) rfl rfl rfl z_struct101 ⟨rfl, ⟨_, (ev_str z_str14), rfl⟩, ⟨rfl, ⟨_, rfl, rfl⟩, ⟨rfl, ⟨_, rfl, rfl⟩, ⟨rfl, ⟨_, rfl, rfl⟩, ⟨rfl, ⟨_, rfl, rfl⟩, ⟨rfl, ⟨_, rfl, rfl⟩, ⟨rfl, ⟨_, rfl, rfl⟩, trivial⟩⟩⟩⟩⟩⟩⟩ rfl ?_
     refine o_litE (eP eS (eP (eI .i64) (eP (eI .i64) (eP (eI .i64) (eP (eI .i64) (eP (eI .i64) (eI .i64))))))) [((bstr [114, 111, 98, 111, 116]), 1, 0, 0, 65535, 1, 0), ((bstr [120]), 2, 0, (-1000000), 1000000, 1, 0), ((bstr [121]), 2, 0, (-1000000), 1000000, 1, 0), ((bstr [104, 101, 97, 100, 105, 110, 103]), 1, 0, 0, 35999, 1, 0), ((bstr [98, 97, 116, 116, 101, 114, 121]), 1, 0, 0, 1000, 1, 0), ((bstr [115, 117, 114, 101]), 1, 0, 0, 100, 2, 100)] rfl rfl rfl z_slT99 z_zero101 ⟨rfl, ⟨_, rfl, rfl⟩, ⟨rfl, ⟨_, rfl, rfl⟩, ⟨rfl, ⟨_, rfl, rfl⟩, ⟨rfl, ⟨_, rfl, rfl⟩, ⟨rfl, ⟨_, rfl, rfl⟩, ⟨rfl, ⟨_, rfl, rfl⟩, trivial⟩⟩⟩⟩⟩⟩ rfl rfl rfl rfl (fun v49 g50 ho51 => ?_)
     refine Z 3 rfl ?_
     refine st_ord [0] _ rfl ?_
     exact hk4 _ _ _ ⟨[((bstr [114, 111, 98, 111, 116]), 1, 0, 0, 65535, 1, 0), ((bstr [120]), 2, 0, (-1000000), 1000000, 1, 0), ((bstr [121]), 2, 0, (-1000000), 1000000, 1, 0), ((bstr [104, 101, 97, 100, 105, 110, 103]), 1, 0, 0, 35999, 1, 0), ((bstr [98, 97, 116, 116, 101, 114, 121]), 1, 0, 0, 1000, 1, 0), ((bstr [115, 117, 114, 101]), 1, 0, 0, 100, 2, 100)], _, _, h, (Sto.Le.refl _), rfl, rfl, ho51⟩
    ·refine Z 5 rfl ?_
     refine st_if rfl h (fun h => ?_) (fun h => ?_)
     ·refine st_region ?_
      refine o_build (ps := [(0, [.string (bstr [114, 111, 98, 111, 116])]), (1, [.int .i64 1]), (2, [.int .i64 0]), (3, [.int .i64 0]), (4, [.int .i64 65535]), (5, [.int .i64 1]), (6, [.int .i64 0])]) (cs := [.string (bstr [114, 111, 98, 111, 116]), .int .i64 1, .int .i64 0, .int .i64 0, .int .i64 65535, .int .i64 1, .int .i64 0]) rfl rfl rfl z_struct101 ⟨rfl, ⟨_, (ev_str z_str1), rfl⟩, ⟨rfl, ⟨_, rfl, rfl⟩, ⟨rfl, ⟨_, rfl, rfl⟩, ⟨rfl, ⟨_, rfl, rfl⟩, ⟨rfl, ⟨_, rfl, rfl⟩, ⟨rfl, ⟨_, rfl, rfl⟩, ⟨rfl, ⟨_, rfl, rfl⟩, trivial⟩⟩⟩⟩⟩⟩⟩ rfl ?_
      refine o_build (ps := [(0, [.string (bstr [99, 111, 100, 101])]), (1, [.int .i64 1]), (2, [.int .i64 0]), (3, [.int .i64 1]), (4, [.int .i64 9999]), (5, [.int .i64 1]), (6, [.int .i64 0])]) (cs := [.string (bstr [99, 111, 100, 101]), .int .i64 1, .int .i64 0, .int .i64 1, .int .i64 9999, .int .i64 1, .int .i64 0]) rfl rfl rfl z_struct101 ⟨rfl, ⟨_, (ev_str z_str15), rfl⟩, ⟨rfl, ⟨_, rfl, rfl⟩, ⟨rfl, ⟨_, rfl, rfl⟩, ⟨rfl, ⟨_, rfl, rfl⟩, ⟨rfl, ⟨_, rfl, rfl⟩, ⟨rfl, ⟨_, rfl, rfl⟩, ⟨rfl, ⟨_, rfl, rfl⟩, trivial⟩⟩⟩⟩⟩⟩⟩ rfl ?_
      refine o_build (ps := [(0, [.string (bstr [115, 101, 118, 101, 114, 105, 116, 121])]), (1, [.int .i64 1]), (2, [.int .i64 0]), (3, [.int .i64 0]), (4, [.int .i64 4]), (5, [.int .i64 1]), (6, [.int .i64 0])]) (cs := [.string (bstr [115, 101, 118, 101, 114, 105, 116, 121]), .int .i64 1, .int .i64 0, .int .i64 0, .int .i64 4, .int .i64 1, .int .i64 0]) rfl rfl rfl z_struct101 ⟨rfl, ⟨_, (ev_str z_str16), rfl⟩, ⟨rfl, ⟨_, rfl, rfl⟩, ⟨rfl, ⟨_, rfl, rfl⟩, ⟨rfl, ⟨_, rfl, rfl⟩, ⟨rfl, ⟨_, rfl, rfl⟩, ⟨rfl, ⟨_, rfl, rfl⟩, ⟨rfl, ⟨_, rfl, rfl⟩, trivial⟩⟩⟩⟩⟩⟩⟩ rfl ?_
      refine o_build (ps := [(0, [.string (bstr [112, 97, 114, 116])]), (1, [.int .i64 1]), (2, [.int .i64 0]), (3, [.int .i64 0]), (4, [.int .i64 255]), (5, [.int .i64 2]), (6, [.int .i64 0])]) (cs := [.string (bstr [112, 97, 114, 116]), .int .i64 1, .int .i64 0, .int .i64 0, .int .i64 255, .int .i64 2, .int .i64 0]) rfl rfl rfl z_struct101 ⟨rfl, ⟨_, (ev_str z_str17), rfl⟩, ⟨rfl, ⟨_, rfl, rfl⟩, ⟨rfl, ⟨_, rfl, rfl⟩, ⟨rfl, ⟨_, rfl, rfl⟩, ⟨rfl, ⟨_, rfl, rfl⟩, ⟨rfl, ⟨_, rfl, rfl⟩, ⟨rfl, ⟨_, rfl, rfl⟩, trivial⟩⟩⟩⟩⟩⟩⟩ rfl ?_
      refine o_build (ps := [(0, [.string (bstr [116, 105, 109, 101, 115])]), (1, [.int .i64 1]), (2, [.int .i64 0]), (3, [.int .i64 1]), (4, [.int .i64 1000000]), (5, [.int .i64 2]), (6, [.int .i64 1])]) (cs := [.string (bstr [116, 105, 109, 101, 115]), .int .i64 1, .int .i64 0, .int .i64 1, .int .i64 1000000, .int .i64 2, .int .i64 1]) rfl rfl rfl z_struct101 ⟨rfl, ⟨_, (ev_str z_str18), rfl⟩, ⟨rfl, ⟨_, rfl, rfl⟩, ⟨rfl, ⟨_, rfl, rfl⟩, ⟨rfl, ⟨_, rfl, rfl⟩, ⟨rfl, ⟨_, rfl, rfl⟩, ⟨rfl, ⟨_, rfl, rfl⟩, ⟨rfl, ⟨_, rfl, rfl⟩, trivial⟩⟩⟩⟩⟩⟩⟩ rfl ?_
      refine o_build (ps := [(0, [.string (bstr [116, 101, 120, 116])]), (1, [.int .i64 5]), (2, [.int .i64 0]), (3, [.int .i64 0]), (4, [.int .i64 64]), (5, [.int .i64 1]), (6, [.int .i64 0])]) (cs := [.string (bstr [116, 101, 120, 116]), .int .i64 5, .int .i64 0, .int .i64 0, .int .i64 64, .int .i64 1, .int .i64 0]) rfl rfl rfl z_struct101 ⟨rfl, ⟨_, (ev_str z_str19), rfl⟩, ⟨rfl, ⟨_, rfl, rfl⟩, ⟨rfl, ⟨_, rfl, rfl⟩, ⟨rfl, ⟨_, rfl, rfl⟩, ⟨rfl, ⟨_, rfl, rfl⟩, ⟨rfl, ⟨_, rfl, rfl⟩, ⟨rfl, ⟨_, rfl, rfl⟩, trivial⟩⟩⟩⟩⟩⟩⟩ rfl ?_
      refine o_litE (eP eS (eP (eI .i64) (eP (eI .i64) (eP (eI .i64) (eP (eI .i64) (eP (eI .i64) (eI .i64))))))) [((bstr [114, 111, 98, 111, 116]), 1, 0, 0, 65535, 1, 0), ((bstr [99, 111, 100, 101]), 1, 0, 1, 9999, 1, 0), ((bstr [115, 101, 118, 101, 114, 105, 116, 121]), 1, 0, 0, 4, 1, 0), ((bstr [112, 97, 114, 116]), 1, 0, 0, 255, 2, 0), ((bstr [116, 105, 109, 101, 115]), 1, 0, 1, 1000000, 2, 1), ((bstr [116, 101, 120, 116]), 5, 0, 0, 64, 1, 0)] rfl rfl rfl z_slT99 z_zero101 ⟨rfl, ⟨_, rfl, rfl⟩, ⟨rfl, ⟨_, rfl, rfl⟩, ⟨rfl, ⟨_, rfl, rfl⟩, ⟨rfl, ⟨_, rfl, rfl⟩, ⟨rfl, ⟨_, rfl, rfl⟩, ⟨rfl, ⟨_, rfl, rfl⟩, trivial⟩⟩⟩⟩⟩⟩ rfl rfl rfl rfl (fun v52 g53 ho54 => ?_)
      refine Z 3 rfl ?_
      refine st_ord [0] _ rfl ?_
      exact hk4 _ _ _ ⟨[((bstr [114, 111, 98, 111, 116]), 1, 0, 0, 65535, 1, 0), ((bstr [99, 111, 100, 101]), 1, 0, 1, 9999, 1, 0), ((bstr [115, 101, 118, 101, 114, 105, 116, 121]), 1, 0, 0, 4, 1, 0), ((bstr [112, 97, 114, 116]), 1, 0, 0, 255, 2, 0), ((bstr [116, 105, 109, 101, 115]), 1, 0, 1, 1000000, 2, 1), ((bstr [116, 101, 120, 116]), 5, 0, 0, 64, 1, 0)], _, _, h, (Sto.Le.refl _), rfl, rfl, ho54⟩
     ·refine Z 2 rfl ?_
      exact hk4 _ _ _ ⟨([] : List (ByteArray × Int × Int × Int × Int × Int × Int)), _, _, h, (Sto.Le.refl _), rfl, rfl, ho3⟩
theorem ref17_path_ok {a0 : List (List Int)} {v1 : Value} {r : Int} (h : ref17_path a0 r) (σ : Sto) (hs2 : Sl (kA .i64 2) σ v1 a0) :
    Does Tryz.prog 71 [v1] σ [] (fun v τ gs => gs = [] ∧ .int .i64 r = v) := by
 refine call_of Tryz.func71 Tryz.ntmps71 rfl rfl (fun cs fs => ?_)
 refine Z 8 rfl ?_
 refine o_lenI rfl rfl rfl z_slT42 rfl hs2 ?_
 refine Z 2 rfl ?_
 refine st_if rfl h (fun h => ?_) (fun h => ?_)
 ·refine Z 4 rfl ?_
  obtain rfl := Eq.symm h
  exact st_ret (gs' := []) Tryz.func71 rfl (List.Sublist.refl _) (Sto.Le.refl _) ⟨rfl, rfl⟩
 ·refine Z 5 rfl ?_
  refine o_lenI rfl rfl rfl z_slT42 rfl hs2 ?_
  refine Z 2 rfl ?_
  refine st_if rfl h (fun h => ?_) (fun h => ?_)
  ·refine Z 4 rfl ?_
   obtain rfl := Eq.symm h
   exact st_ret (gs' := []) Tryz.func71 rfl (List.Sublist.refl _) (Sto.Le.refl _) ⟨rfl, rfl⟩
  ·refine Z 2 rfl ?_
   refine st_cut (fun ρ τ3 gs => ∃ (s3 : Unit), ref17_path_j1 s3 r ∧ σ.Le τ3 ∧ ESub ρ [(2, .int .i64 0)] ∧ gs = []) ?_ (fun hk3 => ?_)
   ·rintro ρ3 τ3 gs3 ⟨s3, h, hl3, hρ, rfl⟩
    refine st_es hρ ?_
    refine Z 4 rfl ?_
    obtain rfl := Eq.symm h
    exact st_ret (gs' := []) Tryz.func71 rfl (List.Sublist.refl _) hl3 ⟨rfl, rfl⟩
   refine Z 4 rfl ?_
   obtain ⟨e4, hL4, hA4⟩ := h
   refine st_loop hL4 (fun (s4 : Int) ρ τ4 gs => σ.Le τ4 ∧ ESub ρ [(0, v1), (2, .int .i64 0), (3, .int .i64 s4)] ∧ gs = []) ⟨Sto.Le.refl _, rfl, rfl⟩ ?_
   rintro s4 o4 h he4 ρ4 τ4 gs4 ⟨hl4, hρ, rfl⟩ hn4
   refine st_es hρ ?_
   refine Z 5 rfl ?_
   refine o_lenI rfl rfl rfl z_slT42 rfl (hs2.up hl4) ?_
   refine Z 2 rfl ?_
   refine st_if rfl h (fun h => ?_) (fun h => ?_)
   ·refine Z 2 rfl ?_
    refine st_cut (fun ρ τ5 gs => ∃ (s5 : Unit), ref17_path_j3 s4 s5 o4 ∧ τ4.Le τ5 ∧ ESub ρ [(0, v1), (2, .int .i64 0), (3, .int .i64 s4)] ∧ gs = []) ?_ (fun hk5 => ?_)
    ·rintro ρ5 τ5 gs5 ⟨s5, h, hl5, hρ, rfl⟩
     refine st_es hρ ?_
     refine Z 5 rfl ?_
     exact hn4 _ _ _ _ h ⟨(hl4.trans hl5), rfl, rfl⟩
    refine Z 5 rfl ?_
    obtain ⟨e6, hL6, hA6⟩ := h
    refine st_loop hL6 (fun (s6 : Int) ρ τ6 gs => τ4.Le τ6 ∧ ESub ρ [(0, v1), (2, .int .i64 0), (3, .int .i64 s4), (4, .int .i64 s6)] ∧ gs = []) ⟨Sto.Le.refl _, rfl, rfl⟩ ?_
    rintro s6 o6 h he6 ρ6 τ6 gs6 ⟨hl6, hρ, rfl⟩ hn6
    refine st_es hρ ?_
    refine Z 6 rfl ?_
    refine st_if rfl h (fun h => ?_) (fun h => ?_)
    ·refine Z 4 rfl ?_
     refine st_cut (fun ρ τ7 gs => ∃ (s7 : Bool), ref17_path_j5 s6 s7 o6 ∧ τ6.Le τ7 ∧ ESub ρ [(0, v1), (2, .int .i64 0), (3, .int .i64 s4), (4, .int .i64 s6), (36, .bool s7)] ∧ gs = []) ?_ (fun hk7 => ?_)
     ·rintro ρ7 τ7 gs7 ⟨s7, h, hl7, hρ, rfl⟩
      refine st_es hρ ?_
      refine st_if rfl h (fun h => ?_) (fun h => ?_)
      ·refine Z 4 rfl ?_
       obtain rfl := he6 _ h
       replace h := hA6
       obtain rfl := he4 _ h
       replace h := hA4
       obtain rfl := Eq.symm h
       exact st_ret (gs' := []) Tryz.func71 rfl (List.Sublist.refl _) ((hl4.trans hl6).trans hl7) ⟨rfl, rfl⟩
      ·refine Z 7 rfl ?_
       exact hn6 _ _ _ _ h ⟨(hl6.trans hl7), rfl, rfl⟩
     refine Z 4 rfl ?_
     obtain ⟨q8, hf9, h⟩ := h
     refine o_index rfl rfl rfl z_slT42 rfl rfl (hs2.up (hl4.trans hl6)) rfl hf9 (fun b10 of11 vs hc12 hrep => ?_)
     obtain rfl := hrep
     obtain ⟨hf13, hf14, h⟩ := h
     refine o_indexA rfl rfl rfl z_arr102 rfl rfl hf13 hf14 ?_
     refine o_loadI (v := .int .i64 (q8.getD s6.toNat 0)) rfl rfl rfl z_sc3 rfl (cel_arr (f := (Value.int .i64)) (zz := 0) (n := 2) (xs := q8) (p := 0) (q := s6.toNat) hc12 rfl (by omega) (by omega)) ?_
     refine o_ibin (v := .bool (decide ((q8.getD s6.toNat 0) < (-1000000)))) rfl rfl rfl rfl rfl rfl ?_
     refine o_mif rfl rfl rfl rfl h (fun h => ?_) (fun h => ?_)
     ·refine Z 9 rfl ?_
      exact hk7 _ _ _ ⟨true, h, (Sto.Le.refl _), rfl, rfl⟩
     ·refine Z 3 rfl ?_
      obtain ⟨q15, hf16, h⟩ := h
      refine o_index rfl rfl rfl z_slT42 rfl rfl (hs2.up (hl4.trans hl6)) rfl hf16 (fun b17 of18 vs hc19 hrep => ?_)
      obtain rfl := hrep
      obtain ⟨hf20, hf21, h⟩ := h
      refine o_indexA rfl rfl rfl z_arr102 rfl rfl hf20 hf21 ?_
      refine o_loadI (v := .int .i64 (q15.getD s6.toNat 0)) rfl rfl rfl z_sc3 rfl (cel_arr (f := (Value.int .i64)) (zz := 0) (n := 2) (xs := q15) (p := 0) (q := s6.toNat) hc19 rfl (by omega) (by omega)) ?_
      refine Z 3 rfl ?_
      exact hk7 _ _ _ ⟨(decide (1000000 < (q15.getD s6.toNat 0))), h, (Sto.Le.refl _), rfl, rfl⟩
    ·refine Z 2 rfl ?_
     obtain rfl := he6 _ h
     replace h := hA6
     exact hk5 _ _ _ ⟨(), h, hl6, rfl, rfl⟩
   ·refine st_exit rfl ?_
    obtain rfl := he4 _ h
    replace h := hA4
    exact hk3 _ _ _ ⟨(), h, hl4, rfl, rfl⟩
theorem ref17_cells_ok {a0 : List Int} {v1 : Value} {r : Int} (h : ref17_cells a0 r) (σ : Sto) (hs2 : Sl (kI .i64) σ v1 a0) :
    Does Tryz.prog 72 [v1] σ [] (fun v τ gs => gs = [] ∧ .int .i64 r = v) := by
 refine call_of Tryz.func72 Tryz.ntmps72 rfl rfl (fun cs fs => ?_)
 refine Z 8 rfl ?_
 refine o_lenI rfl rfl rfl z_slT27 rfl hs2 ?_
 refine Z 2 rfl ?_
 refine st_if rfl h (fun h => ?_) (fun h => ?_)
 ·refine Z 4 rfl ?_
  obtain rfl := Eq.symm h
  exact st_ret (gs' := []) Tryz.func72 rfl (List.Sublist.refl _) (Sto.Le.refl _) ⟨rfl, rfl⟩
 ·refine Z 5 rfl ?_
  refine o_lenI rfl rfl rfl z_slT27 rfl hs2 ?_
  refine Z 2 rfl ?_
  refine st_if rfl h (fun h => ?_) (fun h => ?_)
  ·refine Z 4 rfl ?_
   obtain rfl := Eq.symm h
   exact st_ret (gs' := []) Tryz.func72 rfl (List.Sublist.refl _) (Sto.Le.refl _) ⟨rfl, rfl⟩
  ·refine Z 2 rfl ?_
   refine st_cut (fun ρ τ3 gs => ∃ (s3 : Unit), ref17_cells_j1 s3 r ∧ σ.Le τ3 ∧ ESub ρ [(2, .int .i64 0)] ∧ gs = []) ?_ (fun hk3 => ?_)
   ·rintro ρ3 τ3 gs3 ⟨s3, h, hl3, hρ, rfl⟩
    refine st_es hρ ?_
    refine Z 4 rfl ?_
    obtain rfl := Eq.symm h
    exact st_ret (gs' := []) Tryz.func72 rfl (List.Sublist.refl _) hl3 ⟨rfl, rfl⟩
   refine Z 4 rfl ?_
   obtain ⟨e4, hL4, hA4⟩ := h
   refine st_loop hL4 (fun (s4 : Int) ρ τ4 gs => σ.Le τ4 ∧ ESub ρ [(0, v1), (2, .int .i64 0), (3, .int .i64 s4)] ∧ gs = []) ⟨Sto.Le.refl _, rfl, rfl⟩ ?_
   rintro s4 o4 h he4 ρ4 τ4 gs4 ⟨hl4, hρ, rfl⟩ hn4
   refine st_es hρ ?_
   refine Z 5 rfl ?_
   refine o_lenI rfl rfl rfl z_slT27 rfl (hs2.up hl4) ?_
   refine Z 2 rfl ?_
   refine st_if rfl h (fun h => ?_) (fun h => ?_)
   ·refine Z 5 rfl ?_
    refine st_cut (fun ρ τ5 gs => ∃ (s5 : Bool), ref17_cells_j3 a0 s4 s5 o4 ∧ τ4.Le τ5 ∧ ESub ρ [(0, v1), (2, .int .i64 0), (3, .int .i64 s4), (27, .bool s5)] ∧ gs = []) ?_ (fun hk5 => ?_)
    ·rintro ρ5 τ5 gs5 ⟨s5, h, hl5, hρ, rfl⟩
     refine st_es hρ ?_
     refine st_if rfl h (fun h => ?_) (fun h => ?_)
     ·refine Z 4 rfl ?_
      obtain rfl := he4 _ h
      replace h := hA4
      obtain rfl := Eq.symm h
      exact st_ret (gs' := []) Tryz.func72 rfl (List.Sublist.refl _) (hl4.trans hl5) ⟨rfl, rfl⟩
     ·refine Z 2 rfl ?_
      obtain ⟨q7, hf8, q12, hf13, h⟩ := h
      let cc6 : Prop := (decide (0 < s4)) = true
      refine st_draw 14 (dl [.v (.int .i64 s4), .v (.bool (decide (0 < s4))), .v (.bool (decide (0 < s4))), .g cc6 (v1), .g cc6 (.int .i64 s4), .h cc6 fun τ v => ∃ (b9 : Nat) (of10 : Nat) (vsb9 : List Value), (.pointer (some ⟨b9, of10, none⟩) : Value) = v ∧ CelN τ ⟨b9, of10, none⟩ vsb9 ∧ (kI .i64).rep τ vsb9 q7, .g cc6 (.int .i64 q7), .g cc6 (v1), .g cc6 (.int .i64 s4), .g cc6 (.int .i64 (IntKind.i64.wrap (s4 - 1))), .h cc6 fun τ v => ∃ (b14 : Nat) (of15 : Nat) (vsb14 : List Value), (.pointer (some ⟨b14, of15, none⟩) : Value) = v ∧ CelN τ ⟨b14, of15, none⟩ vsb14 ∧ (kI .i64).rep τ vsb14 q12, .g cc6 (.int .i64 q12), .g cc6 (.bool (decide (q7 ≤ q12))), .v (.bool ((decide (0 < s4)) && (decide (q7 ≤ q12))))]) (fun _ _ => []) z_mix rfl (dl_mono ⟨fun _ _ _ hl ⟨b9, of10, vsb9, hv, hc11, hrepb9⟩ => ⟨b9, of10, vsb9, hv, hc11.up hl, Kd.mono _ hl hrepb9⟩, ⟨fun _ _ _ hl ⟨b14, of15, vsb14, hv, hc16, hrepb14⟩ => ⟨b14, of15, vsb14, hv, hc16.up hl, Kd.mono _ hl hrepb14⟩, trivial⟩⟩) (allB_cons (allB_cons (allB_cons (allB_cons (allB_cons (allB_cons (allB_cons (allB_cons (allB_cons (allB_cons (allB_cons (allB_cons (allB_cons (allB_cons allB_nil (p1 dA)) (p1 dA)) (p1 dA)) (p1 (dG []))) (p1 (dG []))) ?_) ?_) (p1 (dG []))) (p1 (dG []))) (p1 (dG [8]))) ?_) ?_) (p1 (dG [6, 11]))) (p1 dK)) ?_
      ·intro ρ' τ pool rs hl hd hout hk
       obtain ⟨_, e2, rfl⟩ := hd 2 rfl
       obtain ⟨w3, e3, t3⟩ := hd 3 rfl
       obtain ⟨w4, e4, t4⟩ := hd 4 rfl
       by_cases hG : (decide (0 < s4)) = true
       ·have hC := hG
        replace hf8 := hf8 hC
        obtain ⟨rfl⟩ := t4.1 hC
        obtain ⟨rfl⟩ := t3.1 hC
        refine o_index rfl (wants_of rfl e2 hG) rfl z_slT27 rfl e3 (hs2.up ((hl4.trans hl5).trans hl)) e4 hf8 (fun b9 of10 vsb9 hc11 hrepb9 => ?_)
        exact st_addNil (hk _ _ (Sto.Le.refl _) ⟨fun _ => ⟨b9, of10, _, rfl, hc11, hrepb9⟩, fun hn => absurd hC hn⟩)
       ·refine st_pass rfl rfl rfl e2 (beq_off hG) rfl ?_
        exact st_addNil (hk _ _ (Sto.Le.refl _) ⟨fun h => absurd h hG, fun _ => rfl⟩)
      ·intro ρ' τ pool rs hl hd hout hk
       obtain ⟨_, e2, rfl⟩ := hd 2 rfl
       obtain ⟨w5, e5, t5⟩ := hd 5 rfl
       by_cases hG : (decide (0 < s4)) = true
       ·have hC := hG
        obtain ⟨b9, of10, vsb9, rfl, hc11, hrepb9⟩ := t5.1 hC
        have hrepb9 := hrepb9
        obtain rfl := hrepb9
        refine o_loadI (v := .int .i64 q7) rfl (wants_of rfl e2 hG) rfl z_sc3 e5 (hc11 0 _ rfl) ?_
        exact st_addNil (hk _ _ (Sto.Le.refl _) ⟨fun _ => rfl, fun hn => absurd hC hn⟩)
       ·refine st_pass rfl rfl rfl e2 (beq_off hG) rfl ?_
        exact st_addNil (hk _ _ (Sto.Le.refl _) ⟨fun h => absurd h hG, fun _ => rfl⟩)
      ·intro ρ' τ pool rs hl hd hout hk
       obtain ⟨_, e2, rfl⟩ := hd 2 rfl
       obtain ⟨w7, e7, t7⟩ := hd 7 rfl
       obtain ⟨w9, e9, t9⟩ := hd 9 rfl
       by_cases hG : (decide (0 < s4)) = true
       ·have hC := hG
        replace hf13 := hf13 hC
        obtain ⟨rfl⟩ := t7.1 hC
        obtain ⟨rfl⟩ := t9.1 hC
        refine o_index rfl (wants_of rfl e2 hG) rfl z_slT27 rfl e7 (hs2.up ((hl4.trans hl5).trans hl)) e9 hf13 (fun b14 of15 vsb14 hc16 hrepb14 => ?_)
        exact st_addNil (hk _ _ (Sto.Le.refl _) ⟨fun _ => ⟨b14, of15, _, rfl, hc16, hrepb14⟩, fun hn => absurd hC hn⟩)
       ·refine st_pass rfl rfl rfl e2 (beq_off hG) rfl ?_
        exact st_addNil (hk _ _ (Sto.Le.refl _) ⟨fun h => absurd h hG, fun _ => rfl⟩)
      ·intro ρ' τ pool rs hl hd hout hk
       obtain ⟨_, e2, rfl⟩ := hd 2 rfl
       obtain ⟨w10, e10, t10⟩ := hd 10 rfl
       by_cases hG : (decide (0 < s4)) = true
       ·have hC := hG
        obtain ⟨b14, of15, vsb14, rfl, hc16, hrepb14⟩ := t10.1 hC
        have hrepb14 := hrepb14
        obtain rfl := hrepb14
        refine o_loadI (v := .int .i64 q12) rfl (wants_of rfl e2 hG) rfl z_sc3 e10 (hc16 0 _ rfl) ?_
        exact st_addNil (hk _ _ (Sto.Le.refl _) ⟨fun _ => rfl, fun hn => absurd hC hn⟩)
       ·refine st_pass rfl rfl rfl e2 (beq_off hG) rfl ?_
        exact st_addNil (hk _ _ (Sto.Le.refl _) ⟨fun h => absurd h hG, fun _ => rfl⟩)
      intro ρ' τ17 vals hl17 hv hout
      refine st_ord [] _ rfl ?_
      refine st_env (ρ' := [(41, .bool ((decide (0 < s4)) && (decide (q7 ≤ q12)))), (0, v1), (2, .int .i64 0), (3, .int .i64 s4)]) ⟨(lv1 hv 13 rfl rfl), (hout 0 rfl).trans rfl, (hout 2 rfl).trans rfl, (hout 3 rfl).trans rfl, trivial⟩ ?_
      refine st_end ?_
      refine st_if rfl h (fun h => ?_) (fun h => ?_)
      ·refine Z 4 rfl ?_
       obtain rfl := he4 _ h
       replace h := hA4
       obtain rfl := Eq.symm h
       exact st_ret (gs' := []) Tryz.func72 rfl (List.Sublist.refl _) ((hl4.trans hl5).trans hl17) ⟨rfl, rfl⟩
      ·refine Z 7 rfl ?_
       exact hn4 _ _ _ _ h ⟨((hl4.trans hl5).trans hl17), rfl, rfl⟩
    refine Z 3 rfl ?_
    obtain ⟨q18, hf19, h⟩ := h
    refine o_index rfl rfl rfl z_slT27 rfl rfl (hs2.up hl4) rfl hf19 (fun b20 of21 vs hc22 hrep => ?_)
    obtain rfl := hrep
    refine o_loadI (v := .int .i64 q18) rfl rfl rfl z_sc3 rfl (hc22 0 _ rfl) ?_
    refine o_ibin (v := .bool (decide (q18 < 0))) rfl rfl rfl rfl rfl rfl ?_
    refine o_mif rfl rfl rfl rfl h (fun h => ?_) (fun h => ?_)
    ·refine Z 7 rfl ?_
     exact hk5 _ _ _ ⟨true, h, (Sto.Le.refl _), rfl, rfl⟩
    ·refine Z 2 rfl ?_
     obtain ⟨q23, hf24, h⟩ := h
     refine o_index rfl rfl rfl z_slT27 rfl rfl (hs2.up hl4) rfl hf24 (fun b25 of26 vs hc27 hrep => ?_)
     obtain rfl := hrep
     refine o_loadI (v := .int .i64 q23) rfl rfl rfl z_sc3 rfl (hc27 0 _ rfl) ?_
     refine Z 3 rfl ?_
     exact hk5 _ _ _ ⟨(decide (65535 < q23)), h, (Sto.Le.refl _), rfl, rfl⟩
   ·refine st_exit rfl ?_
    obtain rfl := he4 _ h
    replace h := hA4
    exact hk3 _ _ _ ⟨(), h, hl4, rfl, rfl⟩
theorem ref17_text_ok {a0 : ByteArray} {a1 : Int} {r : Int} (h : ref17_text a0 a1 r) (σ : Sto)  :
    Does Tryz.prog 73 [.string a0, .int .i64 a1] σ [] (fun v τ gs => gs = [] ∧ .int .i64 r = v) := by
 refine call_of Tryz.func73 Tryz.ntmps73 rfl rfl (fun cs fs => ?_)
 refine Z 12 rfl ?_
 refine st_if rfl h (fun h => ?_) (fun h => ?_)
 ·refine Z 4 rfl ?_
  obtain rfl := Eq.symm h
  exact st_ret (gs' := []) Tryz.func73 rfl (List.Sublist.refl _) (Sto.Le.refl _) ⟨rfl, rfl⟩
 ·refine Z 2 rfl ?_
  refine st_cut (fun ρ τ1 gs => ∃ (s1 : Unit), ref17_text_j1 s1 r ∧ σ.Le τ1 ∧ ESub ρ [(4, .int .i64 0)] ∧ gs = []) ?_ (fun hk1 => ?_)
  ·rintro ρ1 τ1 gs1 ⟨s1, h, hl1, hρ, rfl⟩
   refine st_es hρ ?_
   refine Z 4 rfl ?_
   obtain rfl := Eq.symm h
   exact st_ret (gs' := []) Tryz.func73 rfl (List.Sublist.refl _) hl1 ⟨rfl, rfl⟩
  refine Z 4 rfl ?_
  obtain ⟨e2, hL2, hA2⟩ := h
  refine st_loop hL2 (fun (s2 : Int) ρ τ2 gs => σ.Le τ2 ∧ ESub ρ [(0, .string a0), (4, .int .i64 0), (5, .int .i64 s2)] ∧ gs = []) ⟨Sto.Le.refl _, rfl, rfl⟩ ?_
  rintro s2 o2 h he2 ρ2 τ2 gs2 ⟨hl2, hρ, rfl⟩ hn2
  refine st_es hρ ?_
  refine Z 8 rfl ?_
  refine st_if rfl h (fun h => ?_) (fun h => ?_)
  ·refine Z 4 rfl ?_
   refine st_cut (fun ρ τ3 gs => ∃ (s3 : Bool), ref17_text_j3 s2 s3 o2 ∧ τ2.Le τ3 ∧ ESub ρ [(0, .string a0), (4, .int .i64 0), (5, .int .i64 s2), (25, .bool s3)] ∧ gs = []) ?_ (fun hk3 => ?_)
   ·rintro ρ3 τ3 gs3 ⟨s3, h, hl3, hρ, rfl⟩
    refine st_es hρ ?_
    refine st_if rfl h (fun h => ?_) (fun h => ?_)
    ·refine Z 4 rfl ?_
     obtain rfl := he2 _ h
     replace h := hA2
     obtain rfl := Eq.symm h
     exact st_ret (gs' := []) Tryz.func73 rfl (List.Sublist.refl _) (hl2.trans hl3) ⟨rfl, rfl⟩
    ·refine Z 7 rfl ?_
     exact hn2 _ _ _ _ h ⟨(hl2.trans hl3), rfl, rfl⟩
   refine Z 3 rfl ?_
   obtain ⟨q4, hf5, h⟩ := h
   refine o_indexS rfl rfl rfl Tryz.underlying9 rfl rfl hf5 ?_
   refine o_ibin (v := .bool (decide (q4 < 32))) rfl rfl rfl rfl rfl rfl ?_
   refine o_mif rfl rfl rfl rfl h (fun h => ?_) (fun h => ?_)
   ·refine Z 6 rfl ?_
    exact hk3 _ _ _ ⟨true, h, (Sto.Le.refl _), rfl, rfl⟩
   ·refine Z 2 rfl ?_
    obtain ⟨q6, hf7, h⟩ := h
    refine o_indexS rfl rfl rfl Tryz.underlying9 rfl rfl hf7 ?_
    refine Z 3 rfl ?_
    exact hk3 _ _ _ ⟨(decide (126 < q6)), h, (Sto.Le.refl _), rfl, rfl⟩
  ·refine st_exit rfl ?_
   obtain rfl := he2 _ h
   replace h := hA2
   exact hk1 _ _ _ ⟨(), h, hl2, rfl, rfl⟩
theorem ref17_Check_ok {a0 : Int × List Int × List (List Int) × List Int × ByteArray × ByteArray} {v1 : Value} {v2 : Value} {r : Int} (h : ref17_Check a0 r) (σ : Sto) (hs3 : Sl (kA .i64 2) σ v1 a0.2.2.1) (hs4 : Sl (kI .i64) σ v2 a0.2.2.2.1) :
    Does Tryz.prog 36 [.agg [.int .i64 a0.1, .int .i64 (a0.2.1.getD 0 0), .int .i64 (a0.2.1.getD 1 0), .int .i64 (a0.2.1.getD 2 0), .int .i64 (a0.2.1.getD 3 0), .int .i64 (a0.2.1.getD 4 0), .int .i64 (a0.2.1.getD 5 0), v1, v2, .string a0.2.2.2.2.1, .string a0.2.2.2.2.2].toArray] σ [] (fun v τ gs => gs = [] ∧ .int .i64 r = v) := by
 refine call_of Tryz.func36 Tryz.ntmps36 rfl rfl (fun cs fs => ?_)
 refine Z 2 rfl ?_
 refine o_box (cs := [.int .i64 a0.1, .int .i64 (a0.2.1.getD 0 0), .int .i64 (a0.2.1.getD 1 0), .int .i64 (a0.2.1.getD 2 0), .int .i64 (a0.2.1.getD 3 0), .int .i64 (a0.2.1.getD 4 0), .int .i64 (a0.2.1.getD 5 0), v1, v2, .string a0.2.2.2.2.1, .string a0.2.2.2.2.2]) rfl rfl rfl rfl rfl (fun b5 => ?_)
 refine ZZ 6 [0] rfl rfl ?_
 obtain ⟨r6, hr7, h⟩ := h
 refine st_call (foot := []) rfl rfl rfl rfl rfl rfl (callV_fn z_en38 (ref16_All_ok hr7 σ)) ?_
 rintro vτ8 τ8 gsτ8 hl9 ⟨v10, rfl, rfl, hs11⟩
 refine Z 6 rfl ?_
 refine o_lenI rfl rfl rfl z_slT99 rfl hs11 ?_
 refine Z 2 rfl ?_
 refine st_if rfl h (fun h => ?_) (fun h => ?_)
 ·refine Z 4 rfl ?_
  refine st_ord [] _ rfl ?_
  obtain rfl := Eq.symm h
  exact st_ret (gs' := []) Tryz.func36 rfl (List.Sublist.refl _) hl9 ⟨rfl, rfl⟩
 ·refine Z 3 rfl ?_
  refine o_alloc rfl rfl rfl z_zero149 (fun b12 => ?_)
  refine Z 3 rfl ?_
  refine o_alloc rfl rfl rfl z_zero150 (fun b13 => ?_)
  refine Z 2 rfl ?_
  refine st_cut (fun ρ τ14 gs => ∃ (s14 : Bool × Bool × Bool × Bool × Bool × Bool × Bool × Bool × Bool × Bool × Bool × Bool × Bool), ref17_Check_j1 a0 s14 r ∧ τ8.Le τ14 ∧ ESub ρ [(1, .pointer (some ⟨b5, 0, none⟩)), (2, .int .i64 0), (4, .pointer (some ⟨b12, 0, none⟩)), (5, .pointer (some ⟨b13, 0, none⟩))] ∧ gs = [[(b5, .cells #[.int .i64 a0.1, .int .i64 (a0.2.1.getD 0 0), .int .i64 (a0.2.1.getD 1 0), .int .i64 (a0.2.1.getD 2 0), .int .i64 (a0.2.1.getD 3 0), .int .i64 (a0.2.1.getD 4 0), .int .i64 (a0.2.1.getD 5 0), v1, v2, .string a0.2.2.2.2.1, .string a0.2.2.2.2.2] 44 (0, 0))], [(b12, .cells #[.bool s14.1, .bool s14.2.1, .bool s14.2.2.1, .bool s14.2.2.2.1, .bool s14.2.2.2.2.1, .bool s14.2.2.2.2.2.1, .bool s14.2.2.2.2.2.2.1] 149 (0, 0))], [(b13, .cells #[.bool s14.2.2.2.2.2.2.2.1, .bool s14.2.2.2.2.2.2.2.2.1, .bool s14.2.2.2.2.2.2.2.2.2.1, .bool s14.2.2.2.2.2.2.2.2.2.2.1, .bool s14.2.2.2.2.2.2.2.2.2.2.2.1, .bool s14.2.2.2.2.2.2.2.2.2.2.2.2] 150 (0, 0))]]) ?_ (fun hk14 => ?_)
  ·rintro ρ14 τ14 gs14 ⟨s14, h, hl14, hρ, rfl⟩
   refine st_es hρ ?_
   refine st_seq ?_
   refine st_cut (fun ρ τ15 gs => ∃ (s15 : Unit), ref17_Check_j2 a0 s14 s15 r ∧ τ14.Le τ15 ∧ ESub ρ [(1, .pointer (some ⟨b5, 0, none⟩)), (2, .int .i64 0), (4, .pointer (some ⟨b12, 0, none⟩))] ∧ gs = [[(b5, .cells #[.int .i64 a0.1, .int .i64 (a0.2.1.getD 0 0), .int .i64 (a0.2.1.getD 1 0), .int .i64 (a0.2.1.getD 2 0), .int .i64 (a0.2.1.getD 3 0), .int .i64 (a0.2.1.getD 4 0), .int .i64 (a0.2.1.getD 5 0), v1, v2, .string a0.2.2.2.2.1, .string a0.2.2.2.2.2] 44 (0, 0))], [(b12, .cells #[.bool s14.1, .bool s14.2.1, .bool s14.2.2.1, .bool s14.2.2.2.1, .bool s14.2.2.2.2.1, .bool s14.2.2.2.2.2.1, .bool s14.2.2.2.2.2.2.1] 149 (0, 0))]]) ?_ (fun hk15 => ?_)
   ·rintro ρ15 τ15 gs15 ⟨s15, h, hl15, hρ, rfl⟩
    refine st_es hρ ?_
    refine Z 2 rfl ?_
    refine st_cut (fun ρ τ16 gs => ∃ (s16 : Bool), ref17_Check_j3 s16 r ∧ τ15.Le τ16 ∧ ESub ρ [(2, .int .i64 0), (145, .bool s16)] ∧ gs = []) ?_ (fun hk16 => ?_)
    ·rintro ρ16 τ16 gs16 ⟨s16, h, hl16, hρ, rfl⟩
     refine st_es hρ ?_
     refine st_if rfl h (fun h => ?_) (fun h => ?_)
     ·refine Z 4 rfl ?_
      obtain rfl := Eq.symm h
      exact st_ret (gs' := []) Tryz.func36 rfl (List.Sublist.refl _) (((hl9.trans hl14).trans hl15).trans hl16) ⟨rfl, rfl⟩
     ·refine Z 5 rfl ?_
      obtain rfl := Eq.symm h
      exact st_ret (gs' := []) Tryz.func36 rfl (List.Sublist.refl _) (((hl9.trans hl14).trans hl15).trans hl16) ⟨rfl, rfl⟩
    refine st_region ?_
    refine o_indexA rfl rfl rfl z_arr149 rfl rfl (by decide) (by decide) ?_
    refine ZZ 2 [1] rfl rfl ?_
    refine o_mif rfl rfl rfl rfl h (fun h => ?_) (fun h => ?_)
    ·refine ZZ 2 [0] rfl rfl ?_
     refine o_lenI rfl rfl rfl z_slT42 rfl (hs3.up ((hl9.trans hl14).trans hl15)) ?_
     refine Z 2 rfl ?_
     refine o_mif rfl rfl rfl rfl h (fun h => ?_) (fun h => ?_)
     ·refine Z 31 rfl ?_
      refine st_ord [] _ rfl ?_
      exact hk16 _ _ _ ⟨true, h, (Sto.Le.refl _), rfl, rfl⟩
     ·refine o_indexA rfl rfl rfl z_arr149 rfl rfl (by decide) (by decide) ?_
      refine ZZ 2 [1] rfl rfl ?_
      refine o_mif rfl rfl rfl rfl h (fun h => ?_) (fun h => ?_)
      ·refine ZZ 2 [0] rfl rfl ?_
       refine o_lenI rfl rfl rfl z_slT27 rfl (hs4.up ((hl9.trans hl14).trans hl15)) ?_
       refine Z 3 rfl ?_
       refine o_mif rfl rfl rfl rfl h (fun h => ?_) (fun h => ?_)
       ·refine Z 20 rfl ?_
        refine st_ord [] _ rfl ?_
        exact hk16 _ _ _ ⟨true, h, (Sto.Le.refl _), rfl, rfl⟩
       ·refine o_indexA rfl rfl rfl z_arr149 rfl rfl (by decide) (by decide) ?_
        refine ZZ 2 [1] rfl rfl ?_
        refine o_mif rfl rfl rfl rfl h (fun h => ?_) (fun h => ?_)
        ·refine ZZ 2 [0] rfl rfl ?_
         refine o_sbin (v := .bool (!(decide (a0.2.2.2.2.1 = (bstr []))))) rfl rfl rfl rfl (ev_str z_str0) rfl ?_
         refine Z 2 rfl ?_
         refine o_mif rfl rfl rfl rfl h (fun h => ?_) (fun h => ?_)
         ·refine Z 10 rfl ?_
          refine st_ord [] _ rfl ?_
          exact hk16 _ _ _ ⟨true, h, (Sto.Le.refl _), rfl, rfl⟩
         ·refine o_indexA rfl rfl rfl z_arr149 rfl rfl (by decide) (by decide) ?_
          refine ZZ 2 [1] rfl rfl ?_
          refine o_mif rfl rfl rfl rfl h (fun h => ?_) (fun h => ?_)
          ·refine ZZ 2 [0] rfl rfl ?_
           refine o_sbin (v := .bool (!(decide (a0.2.2.2.2.2 = (bstr []))))) rfl rfl rfl rfl (ev_str z_str0) rfl ?_
           refine Z 3 rfl ?_
           refine st_ord [] _ rfl ?_
           exact hk16 _ _ _ ⟨(!(decide (a0.2.2.2.2.2 = (bstr [])))), h, (Sto.Le.refl _), rfl, rfl⟩
          ·refine Z 6 rfl ?_
           refine st_ord [] _ rfl ?_
           exact hk16 _ _ _ ⟨false, h, (Sto.Le.refl _), rfl, rfl⟩
        ·refine Z 6 rfl ?_
         refine o_indexA rfl rfl rfl z_arr149 rfl rfl (by decide) (by decide) ?_
         refine ZZ 2 [1] rfl rfl ?_
         refine o_mif rfl rfl rfl rfl h (fun h => ?_) (fun h => ?_)
         ·refine ZZ 2 [0] rfl rfl ?_
          refine o_sbin (v := .bool (!(decide (a0.2.2.2.2.2 = (bstr []))))) rfl rfl rfl rfl (ev_str z_str0) rfl ?_
          refine Z 3 rfl ?_
          refine st_ord [] _ rfl ?_
          exact hk16 _ _ _ ⟨(!(decide (a0.2.2.2.2.2 = (bstr [])))), h, (Sto.Le.refl _), rfl, rfl⟩
         ·refine Z 6 rfl ?_
          refine st_ord [] _ rfl ?_
          exact hk16 _ _ _ ⟨false, h, (Sto.Le.refl _), rfl, rfl⟩
      ·refine Z 7 rfl ?_
       refine o_indexA rfl rfl rfl z_arr149 rfl rfl (by decide) (by decide) ?_
       refine ZZ 2 [1] rfl rfl ?_
       refine o_mif rfl rfl rfl rfl h (fun h => ?_) (fun h => ?_)
       ·refine ZZ 2 [0] rfl rfl ?_
        refine o_sbin (v := .bool (!(decide (a0.2.2.2.2.1 = (bstr []))))) rfl rfl rfl rfl (ev_str z_str0) rfl ?_
        refine Z 2 rfl ?_
        refine o_mif rfl rfl rfl rfl h (fun h => ?_) (fun h => ?_)
        ·refine Z 10 rfl ?_
         refine st_ord [] _ rfl ?_
         exact hk16 _ _ _ ⟨true, h, (Sto.Le.refl _), rfl, rfl⟩
        ·refine o_indexA rfl rfl rfl z_arr149 rfl rfl (by decide) (by decide) ?_
         refine ZZ 2 [1] rfl rfl ?_
         refine o_mif rfl rfl rfl rfl h (fun h => ?_) (fun h => ?_)
         ·refine ZZ 2 [0] rfl rfl ?_
          refine o_sbin (v := .bool (!(decide (a0.2.2.2.2.2 = (bstr []))))) rfl rfl rfl rfl (ev_str z_str0) rfl ?_
          refine Z 3 rfl ?_
          refine st_ord [] _ rfl ?_
          exact hk16 _ _ _ ⟨(!(decide (a0.2.2.2.2.2 = (bstr [])))), h, (Sto.Le.refl _), rfl, rfl⟩
         ·refine Z 6 rfl ?_
          refine st_ord [] _ rfl ?_
          exact hk16 _ _ _ ⟨false, h, (Sto.Le.refl _), rfl, rfl⟩
       ·refine Z 6 rfl ?_
        refine o_indexA rfl rfl rfl z_arr149 rfl rfl (by decide) (by decide) ?_
        refine ZZ 2 [1] rfl rfl ?_
        refine o_mif rfl rfl rfl rfl h (fun h => ?_) (fun h => ?_)
        ·refine ZZ 2 [0] rfl rfl ?_
         refine o_sbin (v := .bool (!(decide (a0.2.2.2.2.2 = (bstr []))))) rfl rfl rfl rfl (ev_str z_str0) rfl ?_
         refine Z 3 rfl ?_
         refine st_ord [] _ rfl ?_
         exact hk16 _ _ _ ⟨(!(decide (a0.2.2.2.2.2 = (bstr [])))), h, (Sto.Le.refl _), rfl, rfl⟩
        ·refine Z 6 rfl ?_
         refine st_ord [] _ rfl ?_
         exact hk16 _ _ _ ⟨false, h, (Sto.Le.refl _), rfl, rfl⟩
    ·refine Z 6 rfl ?_
     refine o_indexA rfl rfl rfl z_arr149 rfl rfl (by decide) (by decide) ?_
     refine ZZ 2 [1] rfl rfl ?_
     refine o_mif rfl rfl rfl rfl h (fun h => ?_) (fun h => ?_)
     ·refine ZZ 2 [0] rfl rfl ?_
      refine o_lenI rfl rfl rfl z_slT27 rfl (hs4.up ((hl9.trans hl14).trans hl15)) ?_
      refine Z 3 rfl ?_
      refine o_mif rfl rfl rfl rfl h (fun h => ?_) (fun h => ?_)
      ·refine Z 20 rfl ?_
       refine st_ord [] _ rfl ?_
       exact hk16 _ _ _ ⟨true, h, (Sto.Le.refl _), rfl, rfl⟩
      ·refine o_indexA rfl rfl rfl z_arr149 rfl rfl (by decide) (by decide) ?_
       refine ZZ 2 [1] rfl rfl ?_
       refine o_mif rfl rfl rfl rfl h (fun h => ?_) (fun h => ?_)
       ·refine ZZ 2 [0] rfl rfl ?_
        refine o_sbin (v := .bool (!(decide (a0.2.2.2.2.1 = (bstr []))))) rfl rfl rfl rfl (ev_str z_str0) rfl ?_
        refine Z 2 rfl ?_
        refine o_mif rfl rfl rfl rfl h (fun h => ?_) (fun h => ?_)
        ·refine Z 10 rfl ?_
         refine st_ord [] _ rfl ?_
         exact hk16 _ _ _ ⟨true, h, (Sto.Le.refl _), rfl, rfl⟩
        ·refine o_indexA rfl rfl rfl z_arr149 rfl rfl (by decide) (by decide) ?_
         refine ZZ 2 [1] rfl rfl ?_
         refine o_mif rfl rfl rfl rfl h (fun h => ?_) (fun h => ?_)
         ·refine ZZ 2 [0] rfl rfl ?_
          refine o_sbin (v := .bool (!(decide (a0.2.2.2.2.2 = (bstr []))))) rfl rfl rfl rfl (ev_str z_str0) rfl ?_
          refine Z 3 rfl ?_
          refine st_ord [] _ rfl ?_
          exact hk16 _ _ _ ⟨(!(decide (a0.2.2.2.2.2 = (bstr [])))), h, (Sto.Le.refl _), rfl, rfl⟩
         ·refine Z 6 rfl ?_
          refine st_ord [] _ rfl ?_
          exact hk16 _ _ _ ⟨false, h, (Sto.Le.refl _), rfl, rfl⟩
       ·refine Z 6 rfl ?_
        refine o_indexA rfl rfl rfl z_arr149 rfl rfl (by decide) (by decide) ?_
        refine ZZ 2 [1] rfl rfl ?_
        refine o_mif rfl rfl rfl rfl h (fun h => ?_) (fun h => ?_)
        ·refine ZZ 2 [0] rfl rfl ?_
         refine o_sbin (v := .bool (!(decide (a0.2.2.2.2.2 = (bstr []))))) rfl rfl rfl rfl (ev_str z_str0) rfl ?_
         refine Z 3 rfl ?_
         refine st_ord [] _ rfl ?_
         exact hk16 _ _ _ ⟨(!(decide (a0.2.2.2.2.2 = (bstr [])))), h, (Sto.Le.refl _), rfl, rfl⟩
        ·refine Z 6 rfl ?_
         refine st_ord [] _ rfl ?_
         exact hk16 _ _ _ ⟨false, h, (Sto.Le.refl _), rfl, rfl⟩
     ·refine Z 7 rfl ?_
      refine o_indexA rfl rfl rfl z_arr149 rfl rfl (by decide) (by decide) ?_
      refine ZZ 2 [1] rfl rfl ?_
      refine o_mif rfl rfl rfl rfl h (fun h => ?_) (fun h => ?_)
      ·refine ZZ 2 [0] rfl rfl ?_
       refine o_sbin (v := .bool (!(decide (a0.2.2.2.2.1 = (bstr []))))) rfl rfl rfl rfl (ev_str z_str0) rfl ?_
       refine Z 2 rfl ?_
       refine o_mif rfl rfl rfl rfl h (fun h => ?_) (fun h => ?_)
       ·refine Z 10 rfl ?_
        refine st_ord [] _ rfl ?_
        exact hk16 _ _ _ ⟨true, h, (Sto.Le.refl _), rfl, rfl⟩
       ·refine o_indexA rfl rfl rfl z_arr149 rfl rfl (by decide) (by decide) ?_
        refine ZZ 2 [1] rfl rfl ?_
        refine o_mif rfl rfl rfl rfl h (fun h => ?_) (fun h => ?_)
        ·refine ZZ 2 [0] rfl rfl ?_
         refine o_sbin (v := .bool (!(decide (a0.2.2.2.2.2 = (bstr []))))) rfl rfl rfl rfl (ev_str z_str0) rfl ?_
         refine Z 3 rfl ?_
         refine st_ord [] _ rfl ?_
         exact hk16 _ _ _ ⟨(!(decide (a0.2.2.2.2.2 = (bstr [])))), h, (Sto.Le.refl _), rfl, rfl⟩
        ·refine Z 6 rfl ?_
         refine st_ord [] _ rfl ?_
         exact hk16 _ _ _ ⟨false, h, (Sto.Le.refl _), rfl, rfl⟩
      ·refine Z 6 rfl ?_
       refine o_indexA rfl rfl rfl z_arr149 rfl rfl (by decide) (by decide) ?_
       refine ZZ 2 [1] rfl rfl ?_
       refine o_mif rfl rfl rfl rfl h (fun h => ?_) (fun h => ?_)
       ·refine ZZ 2 [0] rfl rfl ?_
        refine o_sbin (v := .bool (!(decide (a0.2.2.2.2.2 = (bstr []))))) rfl rfl rfl rfl (ev_str z_str0) rfl ?_
        refine Z 3 rfl ?_
        refine st_ord [] _ rfl ?_
        exact hk16 _ _ _ ⟨(!(decide (a0.2.2.2.2.2 = (bstr [])))), h, (Sto.Le.refl _), rfl, rfl⟩
       ·refine Z 6 rfl ?_
        refine st_ord [] _ rfl ?_
        exact hk16 _ _ _ ⟨false, h, (Sto.Le.refl _), rfl, rfl⟩
   refine Z 4 rfl ?_
   obtain ⟨e17, hL17, hA17⟩ := h
   refine st_loop hL17 (fun (s17 : Int) ρ τ17 gs => τ14.Le τ17 ∧ ESub ρ [(1, .pointer (some ⟨b5, 0, none⟩)), (2, .int .i64 0), (4, .pointer (some ⟨b12, 0, none⟩)), (5, .pointer (some ⟨b13, 0, none⟩)), (8, .int .i64 s17)] ∧ gs = [[(b5, .cells #[.int .i64 a0.1, .int .i64 (a0.2.1.getD 0 0), .int .i64 (a0.2.1.getD 1 0), .int .i64 (a0.2.1.getD 2 0), .int .i64 (a0.2.1.getD 3 0), .int .i64 (a0.2.1.getD 4 0), .int .i64 (a0.2.1.getD 5 0), v1, v2, .string a0.2.2.2.2.1, .string a0.2.2.2.2.2] 44 (0, 0))], [(b12, .cells #[.bool s14.1, .bool s14.2.1, .bool s14.2.2.1, .bool s14.2.2.2.1, .bool s14.2.2.2.2.1, .bool s14.2.2.2.2.2.1, .bool s14.2.2.2.2.2.2.1] 149 (0, 0))], [(b13, .cells #[.bool s14.2.2.2.2.2.2.2.1, .bool s14.2.2.2.2.2.2.2.2.1, .bool s14.2.2.2.2.2.2.2.2.2.1, .bool s14.2.2.2.2.2.2.2.2.2.2.1, .bool s14.2.2.2.2.2.2.2.2.2.2.2.1, .bool s14.2.2.2.2.2.2.2.2.2.2.2.2] 150 (0, 0))]]) ⟨Sto.Le.refl _, rfl, rfl⟩ ?_
   rintro s17 o17 h he17 ρ17 τ17 gs17 ⟨hl17, hρ, rfl⟩ hn17
   refine st_es hρ ?_
   refine Z 6 rfl ?_
   refine st_if rfl h (fun h => ?_) (fun h => ?_)
   ·refine Z 4 rfl ?_
    refine st_cut (fun ρ τ18 gs => ∃ (s18 : Bool), ref17_Check_j5 s17 s18 o17 ∧ τ17.Le τ18 ∧ ESub ρ [(1, .pointer (some ⟨b5, 0, none⟩)), (2, .int .i64 0), (4, .pointer (some ⟨b12, 0, none⟩)), (5, .pointer (some ⟨b13, 0, none⟩)), (8, .int .i64 s17), (105, .bool s18)] ∧ gs = [[(b5, .cells #[.int .i64 a0.1, .int .i64 (a0.2.1.getD 0 0), .int .i64 (a0.2.1.getD 1 0), .int .i64 (a0.2.1.getD 2 0), .int .i64 (a0.2.1.getD 3 0), .int .i64 (a0.2.1.getD 4 0), .int .i64 (a0.2.1.getD 5 0), v1, v2, .string a0.2.2.2.2.1, .string a0.2.2.2.2.2] 44 (0, 0))], [(b12, .cells #[.bool s14.1, .bool s14.2.1, .bool s14.2.2.1, .bool s14.2.2.2.1, .bool s14.2.2.2.2.1, .bool s14.2.2.2.2.2.1, .bool s14.2.2.2.2.2.2.1] 149 (0, 0))], [(b13, .cells #[.bool s14.2.2.2.2.2.2.2.1, .bool s14.2.2.2.2.2.2.2.2.1, .bool s14.2.2.2.2.2.2.2.2.2.1, .bool s14.2.2.2.2.2.2.2.2.2.2.1, .bool s14.2.2.2.2.2.2.2.2.2.2.2.1, .bool s14.2.2.2.2.2.2.2.2.2.2.2.2] 150 (0, 0))]]) ?_ (fun hk18 => ?_)
    ·rintro ρ18 τ18 gs18 ⟨s18, h, hl18, hρ, rfl⟩
     refine st_es hρ ?_
     refine st_if rfl h (fun h => ?_) (fun h => ?_)
     ·refine Z 4 rfl ?_
      refine st_ord [] _ rfl ?_
      obtain rfl := he17 _ h
      replace h := hA17
      obtain rfl := Eq.symm h
      exact st_ret (gs' := []) Tryz.func36 rfl (List.Sublist.refl _) (((hl9.trans hl14).trans hl17).trans hl18) ⟨rfl, rfl⟩
     ·refine Z 7 rfl ?_
      exact hn17 _ _ _ _ h ⟨(hl17.trans hl18), rfl, rfl⟩
    refine Z 2 rfl ?_
    obtain ⟨hf19, hf20, h⟩ := h
    refine o_indexA rfl rfl rfl z_arr150 rfl rfl hf19 hf20 ?_
    refine o_loadV (j := 2) (s17.toNat) (f := Value.bool) (zz := false) (l := 6) (xs := [s14.2.2.2.2.2.2.2.1, s14.2.2.2.2.2.2.2.2.1, s14.2.2.2.2.2.2.2.2.2.1, s14.2.2.2.2.2.2.2.2.2.2.1, s14.2.2.2.2.2.2.2.2.2.2.2.1, s14.2.2.2.2.2.2.2.2.2.2.2.2]) [] [] rfl rfl rfl z_sc4 rfl rfl (by simp only [List.length_cons, List.length_nil] <;> omega) (by omega) ?_
    refine o_not rfl rfl rfl rfl ?_
    refine o_mif rfl rfl rfl rfl h (fun h => ?_) (fun h => ?_)
    ·refine Z 2 rfl ?_
     obtain ⟨hf21, hf22, h⟩ := h
     refine o_indexA rfl rfl rfl z_arr35 rfl rfl hf21 hf22 ?_
     refine o_loadV (j := 0) (s17.toNat) (f := (Value.int .i64)) (zz := 0) (l := 6) (xs := a0.2.1) [.int .i64 a0.1] [v1, v2, .string a0.2.2.2.2.1, .string a0.2.2.2.2.2] rfl rfl rfl z_sc3 rfl rfl (by simp only [List.length_cons, List.length_nil] <;> omega) (by omega) ?_
     refine Z 3 rfl ?_
     exact hk18 _ _ _ ⟨(!(decide ((a0.2.1.getD s17.toNat 0) = 0))), h, (Sto.Le.refl _), rfl, rfl⟩
    ·refine Z 7 rfl ?_
     exact hk18 _ _ _ ⟨false, h, (Sto.Le.refl _), rfl, rfl⟩
   ·refine st_exit rfl ?_
    obtain rfl := he17 _ h
    replace h := hA17
    refine st_ord [0, 0] _ rfl ?_
    exact hk15 _ _ _ ⟨(), h, hl17, rfl, rfl⟩
  refine Z 4 rfl ?_
  obtain ⟨e25, hL25, hA25⟩ := h
  refine st_ord [2, 1, 0] _ rfl ?_
  refine st_loop hL25 (fun (s25 : Int × Bool × Bool × Bool × Bool × Bool × Bool × Bool × Bool × Bool × Bool × Bool × Bool × Bool) ρ τ25 gs => τ8.Le τ25 ∧ ESub ρ [(1, .pointer (some ⟨b5, 0, none⟩)), (2, .int .i64 0), (3, v10), (4, .pointer (some ⟨b12, 0, none⟩)), (5, .pointer (some ⟨b13, 0, none⟩)), (6, .int .i64 s25.1)] ∧ gs = [[(b5, .cells #[.int .i64 a0.1, .int .i64 (a0.2.1.getD 0 0), .int .i64 (a0.2.1.getD 1 0), .int .i64 (a0.2.1.getD 2 0), .int .i64 (a0.2.1.getD 3 0), .int .i64 (a0.2.1.getD 4 0), .int .i64 (a0.2.1.getD 5 0), v1, v2, .string a0.2.2.2.2.1, .string a0.2.2.2.2.2] 44 (0, 0))], [(b12, .cells #[.bool s25.2.1, .bool s25.2.2.1, .bool s25.2.2.2.1, .bool s25.2.2.2.2.1, .bool s25.2.2.2.2.2.1, .bool s25.2.2.2.2.2.2.1, .bool s25.2.2.2.2.2.2.2.1] 149 (0, 0))], [(b13, .cells #[.bool s25.2.2.2.2.2.2.2.2.1, .bool s25.2.2.2.2.2.2.2.2.2.1, .bool s25.2.2.2.2.2.2.2.2.2.2.1, .bool s25.2.2.2.2.2.2.2.2.2.2.2.1, .bool s25.2.2.2.2.2.2.2.2.2.2.2.2.1, .bool s25.2.2.2.2.2.2.2.2.2.2.2.2.2] 150 (0, 0))]]) ⟨Sto.Le.refl _, rfl, rfl⟩ ?_
  rintro s25 o25 h he25 ρ25 τ25 gs25 ⟨hl25, hρ, rfl⟩ hn25
  refine st_es hρ ?_
  refine Z 5 rfl ?_
  refine o_lenI rfl rfl rfl z_slT99 rfl (hs11.up hl25) ?_
  refine Z 2 rfl ?_
  refine st_if rfl h (fun h => ?_) (fun h => ?_)
  ·refine Z 11 rfl ?_
   obtain ⟨q26, hf27, h⟩ := h
   refine o_index rfl rfl rfl z_slT99 rfl rfl (hs11.up hl25) rfl hf27 (fun b28 of29 vs hc30 hrep => ?_)
   obtain ⟨_, _, rfl, rfl, ⟨_, _, rfl, rfl, ⟨_, _, rfl, rfl, ⟨_, _, rfl, rfl, ⟨_, _, rfl, rfl, ⟨_, _, rfl, rfl, rfl⟩⟩⟩⟩⟩⟩ := hrep
   refine o_fieldAddr rfl rfl rfl z_field101_1 rfl ?_
   refine o_loadI (v := .int .i64 q26.2.1) rfl rfl rfl z_sc3 rfl (hc30 1 _ rfl) ?_
   obtain ⟨hf31, hf32, h⟩ := h
   refine o_indexA rfl rfl rfl z_arr149 rfl rfl hf31 hf32 ?_
   refine o_storeV (j := 1) (q26.2.1.toNat) (f := Value.bool) (zz := false) (a := true) (l := 7) (xs := [s25.2.1, s25.2.2.1, s25.2.2.2.1, s25.2.2.2.2.1, s25.2.2.2.2.2.1, s25.2.2.2.2.2.2.1, s25.2.2.2.2.2.2.2.1]) [] [] rfl rfl rfl z_size4 rfl rfl rfl rfl rfl (by simp only [List.length_cons, List.length_nil] <;> omega) (by omega) ?_
   refine st_gs [[(b5, .cells #[.int .i64 a0.1, .int .i64 (a0.2.1.getD 0 0), .int .i64 (a0.2.1.getD 1 0), .int .i64 (a0.2.1.getD 2 0), .int .i64 (a0.2.1.getD 3 0), .int .i64 (a0.2.1.getD 4 0), .int .i64 (a0.2.1.getD 5 0), v1, v2, .string a0.2.2.2.2.1, .string a0.2.2.2.2.2] 44 (0, 0))], [(b12, .cells #[.bool ((putN 7 false [s25.2.1, s25.2.2.1, s25.2.2.2.1, s25.2.2.2.2.1, s25.2.2.2.2.2.1, s25.2.2.2.2.2.2.1, s25.2.2.2.2.2.2.2.1] q26.2.1.toNat true).getD 0 false), .bool ((putN 7 false [s25.2.1, s25.2.2.1, s25.2.2.2.1, s25.2.2.2.2.1, s25.2.2.2.2.2.1, s25.2.2.2.2.2.2.1, s25.2.2.2.2.2.2.2.1] q26.2.1.toNat true).getD 1 false), .bool ((putN 7 false [s25.2.1, s25.2.2.1, s25.2.2.2.1, s25.2.2.2.2.1, s25.2.2.2.2.2.1, s25.2.2.2.2.2.2.1, s25.2.2.2.2.2.2.2.1] q26.2.1.toNat true).getD 2 false), .bool ((putN 7 false [s25.2.1, s25.2.2.1, s25.2.2.2.1, s25.2.2.2.2.1, s25.2.2.2.2.2.1, s25.2.2.2.2.2.2.1, s25.2.2.2.2.2.2.2.1] q26.2.1.toNat true).getD 3 false), .bool ((putN 7 false [s25.2.1, s25.2.2.1, s25.2.2.2.1, s25.2.2.2.2.1, s25.2.2.2.2.2.1, s25.2.2.2.2.2.2.1, s25.2.2.2.2.2.2.2.1] q26.2.1.toNat true).getD 4 false), .bool ((putN 7 false [s25.2.1, s25.2.2.1, s25.2.2.2.1, s25.2.2.2.2.1, s25.2.2.2.2.2.1, s25.2.2.2.2.2.2.1, s25.2.2.2.2.2.2.2.1] q26.2.1.toNat true).getD 5 false), .bool ((putN 7 false [s25.2.1, s25.2.2.1, s25.2.2.2.1, s25.2.2.2.2.1, s25.2.2.2.2.2.1, s25.2.2.2.2.2.2.1, s25.2.2.2.2.2.2.2.1] q26.2.1.toNat true).getD 6 false)] 149 (0, 0))], [(b13, .cells #[.bool s25.2.2.2.2.2.2.2.2.1, .bool s25.2.2.2.2.2.2.2.2.2.1, .bool s25.2.2.2.2.2.2.2.2.2.2.1, .bool s25.2.2.2.2.2.2.2.2.2.2.2.1, .bool s25.2.2.2.2.2.2.2.2.2.2.2.2.1, .bool s25.2.2.2.2.2.2.2.2.2.2.2.2.2] 150 (0, 0))]] rfl ?_
   refine Z 2 rfl ?_
   refine st_cut (fun ρ τ33 gs => ∃ (s33 : Int × Bool × Bool × Bool × Bool × Bool × Bool), ref17_Check_j7 s25 q26 s33 o25 ∧ τ25.Le τ33 ∧ ESub ρ [(1, .pointer (some ⟨b5, 0, none⟩)), (2, .int .i64 0), (3, v10), (4, .pointer (some ⟨b12, 0, none⟩)), (5, .pointer (some ⟨b13, 0, none⟩)), (6, .int .i64 s25.1), (7, .int .i64 s33.1)] ∧ gs = [[(b5, .cells #[.int .i64 a0.1, .int .i64 (a0.2.1.getD 0 0), .int .i64 (a0.2.1.getD 1 0), .int .i64 (a0.2.1.getD 2 0), .int .i64 (a0.2.1.getD 3 0), .int .i64 (a0.2.1.getD 4 0), .int .i64 (a0.2.1.getD 5 0), v1, v2, .string a0.2.2.2.2.1, .string a0.2.2.2.2.2] 44 (0, 0))], [(b12, .cells #[.bool ((putN 7 false [s25.2.1, s25.2.2.1, s25.2.2.2.1, s25.2.2.2.2.1, s25.2.2.2.2.2.1, s25.2.2.2.2.2.2.1, s25.2.2.2.2.2.2.2.1] q26.2.1.toNat true).getD 0 false), .bool ((putN 7 false [s25.2.1, s25.2.2.1, s25.2.2.2.1, s25.2.2.2.2.1, s25.2.2.2.2.2.1, s25.2.2.2.2.2.2.1, s25.2.2.2.2.2.2.2.1] q26.2.1.toNat true).getD 1 false), .bool ((putN 7 false [s25.2.1, s25.2.2.1, s25.2.2.2.1, s25.2.2.2.2.1, s25.2.2.2.2.2.1, s25.2.2.2.2.2.2.1, s25.2.2.2.2.2.2.2.1] q26.2.1.toNat true).getD 2 false), .bool ((putN 7 false [s25.2.1, s25.2.2.1, s25.2.2.2.1, s25.2.2.2.2.1, s25.2.2.2.2.2.1, s25.2.2.2.2.2.2.1, s25.2.2.2.2.2.2.2.1] q26.2.1.toNat true).getD 3 false), .bool ((putN 7 false [s25.2.1, s25.2.2.1, s25.2.2.2.1, s25.2.2.2.2.1, s25.2.2.2.2.2.1, s25.2.2.2.2.2.2.1, s25.2.2.2.2.2.2.2.1] q26.2.1.toNat true).getD 4 false), .bool ((putN 7 false [s25.2.1, s25.2.2.1, s25.2.2.2.1, s25.2.2.2.2.1, s25.2.2.2.2.2.1, s25.2.2.2.2.2.2.1, s25.2.2.2.2.2.2.2.1] q26.2.1.toNat true).getD 5 false), .bool ((putN 7 false [s25.2.1, s25.2.2.1, s25.2.2.2.1, s25.2.2.2.2.1, s25.2.2.2.2.2.1, s25.2.2.2.2.2.2.1, s25.2.2.2.2.2.2.2.1] q26.2.1.toNat true).getD 6 false)] 149 (0, 0))], [(b13, .cells #[.bool s33.2.1, .bool s33.2.2.1, .bool s33.2.2.2.1, .bool s33.2.2.2.2.1, .bool s33.2.2.2.2.2.1, .bool s33.2.2.2.2.2.2] 150 (0, 0))]]) ?_ (fun hk33 => ?_)
   ·rintro ρ33 τ33 gs33 ⟨s33, h, hl33, hρ, rfl⟩
    refine st_es hρ ?_
    refine Z 5 rfl ?_
    refine st_if rfl h (fun h => ?_) (fun h => ?_)
    ·refine Z 5 rfl ?_
     refine st_ord [] _ rfl ?_
     obtain rfl := he25 _ h
     replace h := hA25
     obtain rfl := Eq.symm h
     exact st_ret (gs' := []) Tryz.func36 rfl (List.Sublist.refl _) ((hl9.trans hl25).trans hl33) ⟨rfl, rfl⟩
    ·refine Z 7 rfl ?_
     exact hn25 _ _ _ _ h ⟨(hl25.trans hl33), rfl, rfl⟩
   refine Z 4 rfl ?_
   obtain ⟨q34, hf35, h⟩ := h
   refine o_index rfl rfl rfl z_slT99 rfl rfl (hs11.up hl25) rfl hf35 (fun b36 of37 vs hc38 hrep => ?_)
   obtain ⟨_, _, rfl, rfl, ⟨_, _, rfl, rfl, ⟨_, _, rfl, rfl, ⟨_, _, rfl, rfl, ⟨_, _, rfl, rfl, ⟨_, _, rfl, rfl, rfl⟩⟩⟩⟩⟩⟩ := hrep
   refine o_fieldAddr rfl rfl rfl z_field101_1 rfl ?_
   refine o_loadI (v := .int .i64 q34.2.1) rfl rfl rfl z_sc3 rfl (hc38 1 _ rfl) ?_
   refine Z 7 rfl ?_
   refine st_if rfl h (fun h => ?_) (fun h => ?_)
   ·refine ZZ 3 [0] rfl rfl ?_
    obtain ⟨r39, hr40, h⟩ := h
    refine st_call (foot := []) rfl rfl rfl rfl rfl rfl (callV_fn z_en71 (ref17_path_ok hr40 τ25 (hs3.up (hl9.trans hl25)))) ?_
    rintro vτ41 τ41 gsτ41 hl42 ⟨rfl, rfl⟩
    refine Z 3 rfl ?_
    exact hk33 _ _ _ ⟨(r39, s25.2.2.2.2.2.2.2.2.1, s25.2.2.2.2.2.2.2.2.2.1, s25.2.2.2.2.2.2.2.2.2.2.1, s25.2.2.2.2.2.2.2.2.2.2.2.1, s25.2.2.2.2.2.2.2.2.2.2.2.2.1, s25.2.2.2.2.2.2.2.2.2.2.2.2.2), h, hl42, rfl, rfl⟩
   ·refine Z 5 rfl ?_
    refine st_if rfl h (fun h => ?_) (fun h => ?_)
    ·refine ZZ 3 [0] rfl rfl ?_
     obtain ⟨r43, hr44, h⟩ := h
     refine st_call (foot := []) rfl rfl rfl rfl rfl rfl (callV_fn z_en72 (ref17_cells_ok hr44 τ25 (hs4.up (hl9.trans hl25)))) ?_
     rintro vτ45 τ45 gsτ45 hl46 ⟨rfl, rfl⟩
     refine Z 3 rfl ?_
     exact hk33 _ _ _ ⟨(r43, s25.2.2.2.2.2.2.2.2.1, s25.2.2.2.2.2.2.2.2.2.1, s25.2.2.2.2.2.2.2.2.2.2.1, s25.2.2.2.2.2.2.2.2.2.2.2.1, s25.2.2.2.2.2.2.2.2.2.2.2.2.1, s25.2.2.2.2.2.2.2.2.2.2.2.2.2), h, hl46, rfl, rfl⟩
    ·refine Z 5 rfl ?_
     refine st_if rfl h (fun h => ?_) (fun h => ?_)
     ·refine ZZ 3 [0] rfl rfl ?_
      obtain ⟨r47, hr48, h⟩ := h
      refine st_call (foot := []) rfl rfl rfl rfl rfl rfl (callV_fn z_en73 (ref17_text_ok hr48 τ25)) ?_
      rintro vτ49 τ49 gsτ49 hl50 ⟨rfl, rfl⟩
      refine Z 3 rfl ?_
      exact hk33 _ _ _ ⟨(r47, s25.2.2.2.2.2.2.2.2.1, s25.2.2.2.2.2.2.2.2.2.1, s25.2.2.2.2.2.2.2.2.2.2.1, s25.2.2.2.2.2.2.2.2.2.2.2.1, s25.2.2.2.2.2.2.2.2.2.2.2.2.1, s25.2.2.2.2.2.2.2.2.2.2.2.2.2), h, hl50, rfl, rfl⟩
     ·refine Z 5 rfl ?_
      refine st_if rfl h (fun h => ?_) (fun h => ?_)
      ·refine ZZ 3 [0] rfl rfl ?_
       obtain ⟨r51, hr52, h⟩ := h
       refine st_call (foot := []) rfl rfl rfl rfl rfl rfl (callV_fn z_en73 (ref17_text_ok hr52 τ25)) ?_
       rintro vτ53 τ53 gsτ53 hl54 ⟨rfl, rfl⟩
       refine Z 3 rfl ?_
       exact hk33 _ _ _ ⟨(r51, s25.2.2.2.2.2.2.2.2.1, s25.2.2.2.2.2.2.2.2.2.1, s25.2.2.2.2.2.2.2.2.2.2.1, s25.2.2.2.2.2.2.2.2.2.2.2.1, s25.2.2.2.2.2.2.2.2.2.2.2.2.1, s25.2.2.2.2.2.2.2.2.2.2.2.2.2), h, hl54, rfl, rfl⟩
      ·refine Z 4 rfl ?_
       obtain ⟨q55, hf56, h⟩ := h
       refine o_index rfl rfl rfl z_slT99 rfl rfl (hs11.up hl25) rfl hf56 (fun b57 of58 vs hc59 hrep => ?_)
       obtain ⟨_, _, rfl, rfl, ⟨_, _, rfl, rfl, ⟨_, _, rfl, rfl, ⟨_, _, rfl, rfl, ⟨_, _, rfl, rfl, ⟨_, _, rfl, rfl, rfl⟩⟩⟩⟩⟩⟩ := hrep
       refine o_fieldAddr rfl rfl rfl z_field101_2 rfl ?_
       refine o_loadI (v := .int .i64 q55.2.2.1) rfl rfl rfl z_sc3 rfl (hc59 2 _ rfl) ?_
       obtain ⟨hf60, hf61, h⟩ := h
       refine o_indexA rfl rfl rfl z_arr150 rfl rfl hf60 hf61 ?_
       refine o_storeV (j := 2) (q55.2.2.1.toNat) (f := Value.bool) (zz := false) (a := true) (l := 6) (xs := [s25.2.2.2.2.2.2.2.2.1, s25.2.2.2.2.2.2.2.2.2.1, s25.2.2.2.2.2.2.2.2.2.2.1, s25.2.2.2.2.2.2.2.2.2.2.2.1, s25.2.2.2.2.2.2.2.2.2.2.2.2.1, s25.2.2.2.2.2.2.2.2.2.2.2.2.2]) [] [] rfl rfl rfl z_size4 rfl rfl rfl rfl rfl (by simp only [List.length_cons, List.length_nil] <;> omega) (by omega) ?_
       refine st_gs [[(b5, .cells #[.int .i64 a0.1, .int .i64 (a0.2.1.getD 0 0), .int .i64 (a0.2.1.getD 1 0), .int .i64 (a0.2.1.getD 2 0), .int .i64 (a0.2.1.getD 3 0), .int .i64 (a0.2.1.getD 4 0), .int .i64 (a0.2.1.getD 5 0), v1, v2, .string a0.2.2.2.2.1, .string a0.2.2.2.2.2] 44 (0, 0))], [(b12, .cells #[.bool ((putN 7 false [s25.2.1, s25.2.2.1, s25.2.2.2.1, s25.2.2.2.2.1, s25.2.2.2.2.2.1, s25.2.2.2.2.2.2.1, s25.2.2.2.2.2.2.2.1] q26.2.1.toNat true).getD 0 false), .bool ((putN 7 false [s25.2.1, s25.2.2.1, s25.2.2.2.1, s25.2.2.2.2.1, s25.2.2.2.2.2.1, s25.2.2.2.2.2.2.1, s25.2.2.2.2.2.2.2.1] q26.2.1.toNat true).getD 1 false), .bool ((putN 7 false [s25.2.1, s25.2.2.1, s25.2.2.2.1, s25.2.2.2.2.1, s25.2.2.2.2.2.1, s25.2.2.2.2.2.2.1, s25.2.2.2.2.2.2.2.1] q26.2.1.toNat true).getD 2 false), .bool ((putN 7 false [s25.2.1, s25.2.2.1, s25.2.2.2.1, s25.2.2.2.2.1, s25.2.2.2.2.2.1, s25.2.2.2.2.2.2.1, s25.2.2.2.2.2.2.2.1] q26.2.1.toNat true).getD 3 false), .bool ((putN 7 false [s25.2.1, s25.2.2.1, s25.2.2.2.1, s25.2.2.2.2.1, s25.2.2.2.2.2.1, s25.2.2.2.2.2.2.1, s25.2.2.2.2.2.2.2.1] q26.2.1.toNat true).getD 4 false), .bool ((putN 7 false [s25.2.1, s25.2.2.1, s25.2.2.2.1, s25.2.2.2.2.1, s25.2.2.2.2.2.1, s25.2.2.2.2.2.2.1, s25.2.2.2.2.2.2.2.1] q26.2.1.toNat true).getD 5 false), .bool ((putN 7 false [s25.2.1, s25.2.2.1, s25.2.2.2.1, s25.2.2.2.2.1, s25.2.2.2.2.2.1, s25.2.2.2.2.2.2.1, s25.2.2.2.2.2.2.2.1] q26.2.1.toNat true).getD 6 false)] 149 (0, 0))], [(b13, .cells #[.bool ((putN 6 false [s25.2.2.2.2.2.2.2.2.1, s25.2.2.2.2.2.2.2.2.2.1, s25.2.2.2.2.2.2.2.2.2.2.1, s25.2.2.2.2.2.2.2.2.2.2.2.1, s25.2.2.2.2.2.2.2.2.2.2.2.2.1, s25.2.2.2.2.2.2.2.2.2.2.2.2.2] q55.2.2.1.toNat true).getD 0 false), .bool ((putN 6 false [s25.2.2.2.2.2.2.2.2.1, s25.2.2.2.2.2.2.2.2.2.1, s25.2.2.2.2.2.2.2.2.2.2.1, s25.2.2.2.2.2.2.2.2.2.2.2.1, s25.2.2.2.2.2.2.2.2.2.2.2.2.1, s25.2.2.2.2.2.2.2.2.2.2.2.2.2] q55.2.2.1.toNat true).getD 1 false), .bool ((putN 6 false [s25.2.2.2.2.2.2.2.2.1, s25.2.2.2.2.2.2.2.2.2.1, s25.2.2.2.2.2.2.2.2.2.2.1, s25.2.2.2.2.2.2.2.2.2.2.2.1, s25.2.2.2.2.2.2.2.2.2.2.2.2.1, s25.2.2.2.2.2.2.2.2.2.2.2.2.2] q55.2.2.1.toNat true).getD 2 false), .bool ((putN 6 false [s25.2.2.2.2.2.2.2.2.1, s25.2.2.2.2.2.2.2.2.2.1, s25.2.2.2.2.2.2.2.2.2.2.1, s25.2.2.2.2.2.2.2.2.2.2.2.1, s25.2.2.2.2.2.2.2.2.2.2.2.2.1, s25.2.2.2.2.2.2.2.2.2.2.2.2.2] q55.2.2.1.toNat true).getD 3 false), .bool ((putN 6 false [s25.2.2.2.2.2.2.2.2.1, s25.2.2.2.2.2.2.2.2.2.1, s25.2.2.2.2.2.2.2.2.2.2.1, s25.2.2.2.2.2.2.2.2.2.2.2.1, s25.2.2.2.2.2.2.2.2.2.2.2.2.1, s25.2.2.2.2.2.2.2.2.2.2.2.2.2] q55.2.2.1.toNat true).getD 4 false), .bool ((putN 6 false [s25.2.2.2.2.2.2.2.2.1, s25.2.2.2.2.2.2.2.2.2.1, s25.2.2.2.2.2.2.2.2.2.2.1, s25.2.2.2.2.2.2.2.2.2.2.2.1, s25.2.2.2.2.2.2.2.2.2.2.2.2.1, s25.2.2.2.2.2.2.2.2.2.2.2.2.2] q55.2.2.1.toNat true).getD 5 false)] 150 (0, 0))]] rfl ?_
       refine Z 2 rfl ?_
       obtain ⟨q62, hf63, hf67, hf68, q69, hf70, q75, hf76, hf80, hf81, q82, hf83, h⟩ := h
       let cc74 : Prop := (decide ((a0.2.1.getD q62.2.2.1.toNat 0) < q69.2.2.2.1)) = false
       refine st_draw 30 (dl [.v (v10), .v (.int .i64 s25.1), .t fun τ v => ∃ (b64 : Nat) (of65 : Nat) (vsb64 : List Value), (.pointer (some ⟨b64, of65, none⟩) : Value) = v ∧ CelN τ ⟨b64, of65, none⟩ vsb64 ∧ (kP kS (kP (kI .i64) (kP (kI .i64) (kP (kI .i64) (kP (kI .i64) (kP (kI .i64) (kI .i64))))))).rep τ vsb64 q62, .t fun τ v => ∃ (b64 : Nat) (of65 : Nat) (vsb64 : List Value), (.pointer (some ⟨b64, of65 + 2, none⟩) : Value) = v ∧ CelN τ ⟨b64, of65, none⟩ vsb64 ∧ (kP kS (kP (kI .i64) (kP (kI .i64) (kP (kI .i64) (kP (kI .i64) (kP (kI .i64) (kI .i64))))))).rep τ vsb64 q62, .v (.int .i64 q62.2.2.1), .v (.pointer (some ⟨b5, 1, none⟩)), .v (.pointer (some ⟨b5, 1 + q62.2.2.1.toNat * 1, none⟩)), .v (.int .i64 (a0.2.1.getD q62.2.2.1.toNat 0)), .v (v10), .v (.int .i64 s25.1), .t fun τ v => ∃ (b71 : Nat) (of72 : Nat) (vsb71 : List Value), (.pointer (some ⟨b71, of72, none⟩) : Value) = v ∧ CelN τ ⟨b71, of72, none⟩ vsb71 ∧ (kP kS (kP (kI .i64) (kP (kI .i64) (kP (kI .i64) (kP (kI .i64) (kP (kI .i64) (kI .i64))))))).rep τ vsb71 q69, .t fun τ v => ∃ (b71 : Nat) (of72 : Nat) (vsb71 : List Value), (.pointer (some ⟨b71, of72 + 3, none⟩) : Value) = v ∧ CelN τ ⟨b71, of72, none⟩ vsb71 ∧ (kP kS (kP (kI .i64) (kP (kI .i64) (kP (kI .i64) (kP (kI .i64) (kP (kI .i64) (kI .i64))))))).rep τ vsb71 q69, .v (.int .i64 q69.2.2.2.1), .v (.bool (decide ((a0.2.1.getD q62.2.2.1.toNat 0) < q69.2.2.2.1))), .v (.bool (decide ((a0.2.1.getD q62.2.2.1.toNat 0) < q69.2.2.2.1))), .g cc74 (v10), .g cc74 (.int .i64 s25.1), .h cc74 fun τ v => ∃ (b77 : Nat) (of78 : Nat) (vsb77 : List Value), (.pointer (some ⟨b77, of78, none⟩) : Value) = v ∧ CelN τ ⟨b77, of78, none⟩ vsb77 ∧ (kP kS (kP (kI .i64) (kP (kI .i64) (kP (kI .i64) (kP (kI .i64) (kP (kI .i64) (kI .i64))))))).rep τ vsb77 q75, .h cc74 fun τ v => ∃ (b77 : Nat) (of78 : Nat) (vsb77 : List Value), (.pointer (some ⟨b77, of78 + 2, none⟩) : Value) = v ∧ CelN τ ⟨b77, of78, none⟩ vsb77 ∧ (kP kS (kP (kI .i64) (kP (kI .i64) (kP (kI .i64) (kP (kI .i64) (kP (kI .i64) (kI .i64))))))).rep τ vsb77 q75, .g cc74 (.int .i64 q75.2.2.1), .g cc74 (.pointer (some ⟨b5, 1, none⟩)), .g cc74 (.pointer (some ⟨b5, 1 + q75.2.2.1.toNat * 1, none⟩)), .g cc74 (.int .i64 (a0.2.1.getD q75.2.2.1.toNat 0)), .g cc74 (v10), .g cc74 (.int .i64 s25.1), .h cc74 fun τ v => ∃ (b84 : Nat) (of85 : Nat) (vsb84 : List Value), (.pointer (some ⟨b84, of85, none⟩) : Value) = v ∧ CelN τ ⟨b84, of85, none⟩ vsb84 ∧ (kP kS (kP (kI .i64) (kP (kI .i64) (kP (kI .i64) (kP (kI .i64) (kP (kI .i64) (kI .i64))))))).rep τ vsb84 q82, .h cc74 fun τ v => ∃ (b84 : Nat) (of85 : Nat) (vsb84 : List Value), (.pointer (some ⟨b84, of85 + 4, none⟩) : Value) = v ∧ CelN τ ⟨b84, of85, none⟩ vsb84 ∧ (kP kS (kP (kI .i64) (kP (kI .i64) (kP (kI .i64) (kP (kI .i64) (kP (kI .i64) (kI .i64))))))).rep τ vsb84 q82, .g cc74 (.int .i64 q82.2.2.2.2.1), .g cc74 (.bool (decide (q82.2.2.2.2.1 < (a0.2.1.getD q75.2.2.1.toNat 0)))), .v (.bool ((decide ((a0.2.1.getD q62.2.2.1.toNat 0) < q69.2.2.2.1)) || (decide (q82.2.2.2.2.1 < (a0.2.1.getD q75.2.2.1.toNat 0)))))]) (fun _ _ => []) z_mix rfl (dl_mono (by exact ⟨fun _ _ _ hl ⟨b64, of65, vsb64, hv, hc66, hrepb64⟩ => ⟨b64, of65, vsb64, hv, hc66.up hl, Kd.mono _ hl hrepb64⟩, ⟨fun _ _ _ hl ⟨b64, of65, vsb64, hv, hc66, hrepb64⟩ => ⟨b64, of65, vsb64, hv, hc66.up hl, Kd.mono _ hl hrepb64⟩, ⟨fun _ _ _ hl ⟨b71, of72, vsb71, hv, hc73, hrepb71⟩ => ⟨b71, of72, vsb71, hv, hc73.up hl, Kd.mono _ hl hrepb71⟩, ⟨fun _ _ _ hl ⟨b71, of72, vsb71, hv, hc73, hrepb71⟩ => ⟨b71, of72, vsb71, hv, hc73.up hl, Kd.mono _ hl hrepb71⟩, ⟨fun _ _ _ hl ⟨b77, of78, vsb77, hv, hc79, hrepb77⟩ => ⟨b77, of78, vsb77, hv, hc79.up hl, Kd.mono _ hl hrepb77⟩, ⟨fun _ _ _ hl ⟨b77, of78, vsb77, hv, hc79, hrepb77⟩ => ⟨b77, of78, vsb77, hv, hc79.up hl, Kd.mono _ hl hrepb77⟩, ⟨fun _ _ _ hl ⟨b84, of85, vsb84, hv, hc86, hrepb84⟩ => ⟨b84, of85, vsb84, hv, hc86.up hl, Kd.mono _ hl hrepb84⟩, ⟨fun _ _ _ hl ⟨b84, of85, vsb84, hv, hc86, hrepb84⟩ => ⟨b84, of85, vsb84, hv, hc86.up hl, Kd.mono _ hl hrepb84⟩, trivial⟩⟩⟩⟩⟩⟩⟩⟩)) (allB_cons (allB_cons (allB_cons (allB_cons (allB_cons (allB_cons (allB_cons (allB_cons (allB_cons (allB_cons (allB_cons (allB_cons (allB_cons (allB_cons (allB_cons (allB_cons (allB_cons (allB_cons (allB_cons (allB_cons (allB_cons (allB_cons (allB_cons (allB_cons (allB_cons (allB_cons (allB_cons (allB_cons (allB_cons (allB_cons allB_nil (p1 dA)) (p1 dA)) ?_) ?_) ?_) (p1 dA)) ?_) ?_) (p1 dA)) (p1 dA)) ?_) ?_) ?_) (p1 dA)) (p1 dA)) (p1 (dG []))) (p1 (dG []))) ?_) ?_) ?_) (p1 (dG []))) ?_) ?_) (p1 (dG []))) (p1 (dG []))) ?_) ?_) ?_) (p1 (dG [22, 27]))) (p1 dO)) ?_
       ·intro ρ' τ pool rs hl hd hout hk
        obtain ⟨_, e0, rfl⟩ := hd 0 rfl
        obtain ⟨_, e1, rfl⟩ := hd 1 rfl
        refine o_index rfl rfl rfl z_slT99 rfl e0 (hs11.up (hl25.trans hl)) e1 hf63 (fun b64 of65 vsb64 hc66 hrepb64 => ?_)
        exact st_addNil (hk _ _ (Sto.Le.refl _) ⟨b64, of65, _, rfl, hc66, hrepb64⟩)
       ·intro ρ' τ pool rs hl hd hout hk
        obtain ⟨_, e2, b64, of65, vsb64, rfl, hc66, hrepb64⟩ := hd 2 rfl
        have hrepb64 := hrepb64
        obtain ⟨_, _, rfl, rfl, ⟨_, _, rfl, rfl, ⟨_, _, rfl, rfl, ⟨_, _, rfl, rfl, ⟨_, _, rfl, rfl, ⟨_, _, rfl, rfl, rfl⟩⟩⟩⟩⟩⟩ := hrepb64
        refine o_fieldAddr rfl rfl rfl z_field101_2 e2 ?_
        exact st_addNil (hk _ _ (Sto.Le.refl _) ⟨b64, of65, _, rfl, hc66, hrepb64⟩)
       ·intro ρ' τ pool rs hl hd hout hk
        obtain ⟨_, e3, b64, of65, vsb64, rfl, hc66, hrepb64⟩ := hd 3 rfl
        have hrepb64 := hrepb64
        obtain ⟨_, _, rfl, rfl, ⟨_, _, rfl, rfl, ⟨_, _, rfl, rfl, ⟨_, _, rfl, rfl, ⟨_, _, rfl, rfl, ⟨_, _, rfl, rfl, rfl⟩⟩⟩⟩⟩⟩ := hrepb64
        refine o_loadI (v := .int .i64 q62.2.2.1) rfl rfl rfl z_sc3 e3 (hc66 2 _ rfl) ?_
        exact st_addNil (hk _ _ (Sto.Le.refl _) rfl)
       ·intro ρ' τ pool rs hl hd hout hk
        obtain ⟨_, e4, rfl⟩ := hd 4 rfl
        obtain ⟨_, e5, rfl⟩ := hd 5 rfl
        refine o_indexA rfl rfl rfl z_arr35 e5 e4 hf67 hf68 ?_
        exact st_addNil (hk _ _ (Sto.Le.refl _) rfl)
       ·intro ρ' τ pool rs hl hd hout hk
        obtain ⟨_, e6, rfl⟩ := hd 6 rfl
        refine o_loadV (j := 0) (q62.2.2.1.toNat) (f := (Value.int .i64)) (zz := 0) (l := 6) (xs := a0.2.1) [.int .i64 a0.1] [v1, v2, .string a0.2.2.2.2.1, .string a0.2.2.2.2.2] rfl rfl rfl z_sc3 e6 rfl (by simp only [List.length_cons, List.length_nil] <;> omega) (by omega) ?_
        exact st_addNil (hk _ _ (Sto.Le.refl _) rfl)
       ·intro ρ' τ pool rs hl hd hout hk
        obtain ⟨_, e8, rfl⟩ := hd 8 rfl
        obtain ⟨_, e9, rfl⟩ := hd 9 rfl
        refine o_index rfl rfl rfl z_slT99 rfl e8 (hs11.up (hl25.trans hl)) e9 hf70 (fun b71 of72 vsb71 hc73 hrepb71 => ?_)
        exact st_addNil (hk _ _ (Sto.Le.refl _) ⟨b71, of72, _, rfl, hc73, hrepb71⟩)
       ·intro ρ' τ pool rs hl hd hout hk
        obtain ⟨_, e10, b71, of72, vsb71, rfl, hc73, hrepb71⟩ := hd 10 rfl
        have hrepb71 := hrepb71
        obtain ⟨_, _, rfl, rfl, ⟨_, _, rfl, rfl, ⟨_, _, rfl, rfl, ⟨_, _, rfl, rfl, ⟨_, _, rfl, rfl, ⟨_, _, rfl, rfl, rfl⟩⟩⟩⟩⟩⟩ := hrepb71
        refine o_fieldAddr rfl rfl rfl z_field101_3 e10 ?_
        exact st_addNil (hk _ _ (Sto.Le.refl _) ⟨b71, of72, _, rfl, hc73, hrepb71⟩)
       ·intro ρ' τ pool rs hl hd hout hk
        obtain ⟨_, e11, b71, of72, vsb71, rfl, hc73, hrepb71⟩ := hd 11 rfl
        have hrepb71 := hrepb71
        obtain ⟨_, _, rfl, rfl, ⟨_, _, rfl, rfl, ⟨_, _, rfl, rfl, ⟨_, _, rfl, rfl, ⟨_, _, rfl, rfl, ⟨_, _, rfl, rfl, rfl⟩⟩⟩⟩⟩⟩ := hrepb71
        refine o_loadI (v := .int .i64 q69.2.2.2.1) rfl rfl rfl z_sc3 e11 (hc73 3 _ rfl) ?_
        exact st_addNil (hk _ _ (Sto.Le.refl _) rfl)
       ·intro ρ' τ pool rs hl hd hout hk
        obtain ⟨_, e14, rfl⟩ := hd 14 rfl
        obtain ⟨w15, e15, t15⟩ := hd 15 rfl
        obtain ⟨w16, e16, t16⟩ := hd 16 rfl
        by_cases hG : (decide ((a0.2.1.getD q62.2.2.1.toNat 0) < q69.2.2.2.1)) = false
        ·have hC := hG
         replace hf76 := hf76 hC
         obtain ⟨rfl⟩ := t15.1 hC
         obtain ⟨rfl⟩ := t16.1 hC
         refine o_index rfl (wants_of rfl e14 hG) rfl z_slT99 rfl e15 (hs11.up (hl25.trans hl)) e16 hf76 (fun b77 of78 vsb77 hc79 hrepb77 => ?_)
         exact st_addNil (hk _ _ (Sto.Le.refl _) ⟨fun _ => ⟨b77, of78, _, rfl, hc79, hrepb77⟩, fun hn => absurd hC hn⟩)
        ·refine st_pass rfl rfl rfl e14 (beq_off hG) rfl ?_
         exact st_addNil (hk _ _ (Sto.Le.refl _) ⟨fun h => absurd h hG, fun _ => rfl⟩)
       ·intro ρ' τ pool rs hl hd hout hk
        obtain ⟨_, e14, rfl⟩ := hd 14 rfl
        obtain ⟨w17, e17, t17⟩ := hd 17 rfl
        by_cases hG : (decide ((a0.2.1.getD q62.2.2.1.toNat 0) < q69.2.2.2.1)) = false
        ·have hC := hG
         obtain ⟨b77, of78, vsb77, rfl, hc79, hrepb77⟩ := t17.1 hC
         have hrepb77 := hrepb77
         obtain ⟨_, _, rfl, rfl, ⟨_, _, rfl, rfl, ⟨_, _, rfl, rfl, ⟨_, _, rfl, rfl, ⟨_, _, rfl, rfl, ⟨_, _, rfl, rfl, rfl⟩⟩⟩⟩⟩⟩ := hrepb77
         refine o_fieldAddr rfl (wants_of rfl e14 hG) rfl z_field101_2 e17 ?_
         exact st_addNil (hk _ _ (Sto.Le.refl _) ⟨fun _ => ⟨b77, of78, _, rfl, hc79, hrepb77⟩, fun hn => absurd hC hn⟩)
        ·refine st_pass rfl rfl rfl e14 (beq_off hG) rfl ?_
         exact st_addNil (hk _ _ (Sto.Le.refl _) ⟨fun h => absurd h hG, fun _ => rfl⟩)
       ·intro ρ' τ pool rs hl hd hout hk
        obtain ⟨_, e14, rfl⟩ := hd 14 rfl
        obtain ⟨w18, e18, t18⟩ := hd 18 rfl
        by_cases hG : (decide ((a0.2.1.getD q62.2.2.1.toNat 0) < q69.2.2.2.1)) = false
        ·have hC := hG
         obtain ⟨b77, of78, vsb77, rfl, hc79, hrepb77⟩ := t18.1 hC
         have hrepb77 := hrepb77
         obtain ⟨_, _, rfl, rfl, ⟨_, _, rfl, rfl, ⟨_, _, rfl, rfl, ⟨_, _, rfl, rfl, ⟨_, _, rfl, rfl, ⟨_, _, rfl, rfl, rfl⟩⟩⟩⟩⟩⟩ := hrepb77
         refine o_loadI (v := .int .i64 q75.2.2.1) rfl (wants_of rfl e14 hG) rfl z_sc3 e18 (hc79 2 _ rfl) ?_
         exact st_addNil (hk _ _ (Sto.Le.refl _) ⟨fun _ => rfl, fun hn => absurd hC hn⟩)
        ·refine st_pass rfl rfl rfl e14 (beq_off hG) rfl ?_
         exact st_addNil (hk _ _ (Sto.Le.refl _) ⟨fun h => absurd h hG, fun _ => rfl⟩)
       ·intro ρ' τ pool rs hl hd hout hk
        obtain ⟨_, e14, rfl⟩ := hd 14 rfl
        obtain ⟨w19, e19, t19⟩ := hd 19 rfl
        obtain ⟨w20, e20, t20⟩ := hd 20 rfl
        by_cases hG : (decide ((a0.2.1.getD q62.2.2.1.toNat 0) < q69.2.2.2.1)) = false
        ·have hC := hG
         replace hf80 := hf80 hC
         replace hf81 := hf81 hC
         obtain ⟨rfl⟩ := t19.1 hC
         obtain ⟨rfl⟩ := t20.1 hC
         refine o_indexA rfl (wants_of rfl e14 hG) rfl z_arr35 e20 e19 hf80 hf81 ?_
         exact st_addNil (hk _ _ (Sto.Le.refl _) ⟨fun _ => rfl, fun hn => absurd hC hn⟩)
        ·refine st_pass rfl rfl rfl e14 (beq_off hG) rfl ?_
         exact st_addNil (hk _ _ (Sto.Le.refl _) ⟨fun h => absurd h hG, fun _ => rfl⟩)
       ·intro ρ' τ pool rs hl hd hout hk
        obtain ⟨_, e14, rfl⟩ := hd 14 rfl
        obtain ⟨w21, e21, t21⟩ := hd 21 rfl
        by_cases hG : (decide ((a0.2.1.getD q62.2.2.1.toNat 0) < q69.2.2.2.1)) = false
        ·have hC := hG
         obtain ⟨rfl⟩ := t21.1 hC
         replace hf80 := hf80 hC
         replace hf81 := hf81 hC
         refine o_loadV (j := 0) (q75.2.2.1.toNat) (f := (Value.int .i64)) (zz := 0) (l := 6) (xs := a0.2.1) [.int .i64 a0.1] [v1, v2, .string a0.2.2.2.2.1, .string a0.2.2.2.2.2] rfl (wants_of rfl e14 hG) rfl z_sc3 e21 rfl (by simp only [List.length_cons, List.length_nil] <;> omega) (by omega) ?_
         exact st_addNil (hk _ _ (Sto.Le.refl _) ⟨fun _ => rfl, fun hn => absurd hC hn⟩)
        ·refine st_pass rfl rfl rfl e14 (beq_off hG) rfl ?_
         exact st_addNil (hk _ _ (Sto.Le.refl _) ⟨fun h => absurd h hG, fun _ => rfl⟩)
       ·intro ρ' τ pool rs hl hd hout hk
        obtain ⟨_, e14, rfl⟩ := hd 14 rfl
        obtain ⟨w23, e23, t23⟩ := hd 23 rfl
        obtain ⟨w24, e24, t24⟩ := hd 24 rfl
        by_cases hG : (decide ((a0.2.1.getD q62.2.2.1.toNat 0) < q69.2.2.2.1)) = false
        ·have hC := hG
         replace hf83 := hf83 hC
         obtain ⟨rfl⟩ := t23.1 hC
         obtain ⟨rfl⟩ := t24.1 hC
         refine o_index rfl (wants_of rfl e14 hG) rfl z_slT99 rfl e23 (hs11.up (hl25.trans hl)) e24 hf83 (fun b84 of85 vsb84 hc86 hrepb84 => ?_)
         exact st_addNil (hk _ _ (Sto.Le.refl _) ⟨fun _ => ⟨b84, of85, _, rfl, hc86, hrepb84⟩, fun hn => absurd hC hn⟩)
        ·refine st_pass rfl rfl rfl e14 (beq_off hG) rfl ?_
         exact st_addNil (hk _ _ (Sto.Le.refl _) ⟨fun h => absurd h hG, fun _ => rfl⟩)
       ·intro ρ' τ pool rs hl hd hout hk
        obtain ⟨_, e14, rfl⟩ := hd 14 rfl
        obtain ⟨w25, e25, t25⟩ := hd 25 rfl
        by_cases hG : (decide ((a0.2.1.getD q62.2.2.1.toNat 0) < q69.2.2.2.1)) = false
        ·have hC := hG
         obtain ⟨b84, of85, vsb84, rfl, hc86, hrepb84⟩ := t25.1 hC
         have hrepb84 := hrepb84
         obtain ⟨_, _, rfl, rfl, ⟨_, _, rfl, rfl, ⟨_, _, rfl, rfl, ⟨_, _, rfl, rfl, ⟨_, _, rfl, rfl, ⟨_, _, rfl, rfl, rfl⟩⟩⟩⟩⟩⟩ := hrepb84
         refine o_fieldAddr rfl (wants_of rfl e14 hG) rfl z_field101_4 e25 ?_
         exact st_addNil (hk _ _ (Sto.Le.refl _) ⟨fun _ => ⟨b84, of85, _, rfl, hc86, hrepb84⟩, fun hn => absurd hC hn⟩)
        ·refine st_pass rfl rfl rfl e14 (beq_off hG) rfl ?_
         exact st_addNil (hk _ _ (Sto.Le.refl _) ⟨fun h => absurd h hG, fun _ => rfl⟩)
       ·intro ρ' τ pool rs hl hd hout hk
        obtain ⟨_, e14, rfl⟩ := hd 14 rfl
        obtain ⟨w26, e26, t26⟩ := hd 26 rfl
        by_cases hG : (decide ((a0.2.1.getD q62.2.2.1.toNat 0) < q69.2.2.2.1)) = false
        ·have hC := hG
         obtain ⟨b84, of85, vsb84, rfl, hc86, hrepb84⟩ := t26.1 hC
         have hrepb84 := hrepb84
         obtain ⟨_, _, rfl, rfl, ⟨_, _, rfl, rfl, ⟨_, _, rfl, rfl, ⟨_, _, rfl, rfl, ⟨_, _, rfl, rfl, ⟨_, _, rfl, rfl, rfl⟩⟩⟩⟩⟩⟩ := hrepb84
         refine o_loadI (v := .int .i64 q82.2.2.2.2.1) rfl (wants_of rfl e14 hG) rfl z_sc3 e26 (hc86 4 _ rfl) ?_
         exact st_addNil (hk _ _ (Sto.Le.refl _) ⟨fun _ => rfl, fun hn => absurd hC hn⟩)
        ·refine st_pass rfl rfl rfl e14 (beq_off hG) rfl ?_
         exact st_addNil (hk _ _ (Sto.Le.refl _) ⟨fun h => absurd h hG, fun _ => rfl⟩)
       intro ρ' τ87 vals hl87 hv hout
       refine st_ord [0, 0, 0] _ rfl ?_
       refine st_env (ρ' := [(67, .bool ((decide ((a0.2.1.getD q62.2.2.1.toNat 0) < q69.2.2.2.1)) || (decide (q82.2.2.2.2.1 < (a0.2.1.getD q75.2.2.1.toNat 0))))), (1, .pointer (some ⟨b5, 0, none⟩)), (2, .int .i64 0), (3, v10), (4, .pointer (some ⟨b12, 0, none⟩)), (5, .pointer (some ⟨b13, 0, none⟩)), (6, .int .i64 s25.1), (7, .int .i64 0)]) ⟨(lv1 hv 29 rfl rfl), (hout 1 rfl).trans rfl, (hout 2 rfl).trans rfl, (hout 3 rfl).trans rfl, (hout 4 rfl).trans rfl, (hout 5 rfl).trans rfl, (hout 6 rfl).trans rfl, (hout 7 rfl).trans rfl, trivial⟩ ?_
       refine st_end ?_
       refine st_if rfl h (fun h => ?_) (fun h => ?_)
       ·refine Z 4 rfl ?_
        exact hk33 _ _ _ ⟨(5, ((putN 6 false [s25.2.2.2.2.2.2.2.2.1, s25.2.2.2.2.2.2.2.2.2.1, s25.2.2.2.2.2.2.2.2.2.2.1, s25.2.2.2.2.2.2.2.2.2.2.2.1, s25.2.2.2.2.2.2.2.2.2.2.2.2.1, s25.2.2.2.2.2.2.2.2.2.2.2.2.2] q55.2.2.1.toNat true).getD 0 false), ((putN 6 false [s25.2.2.2.2.2.2.2.2.1, s25.2.2.2.2.2.2.2.2.2.1, s25.2.2.2.2.2.2.2.2.2.2.1, s25.2.2.2.2.2.2.2.2.2.2.2.1, s25.2.2.2.2.2.2.2.2.2.2.2.2.1, s25.2.2.2.2.2.2.2.2.2.2.2.2.2] q55.2.2.1.toNat true).getD 1 false), ((putN 6 false [s25.2.2.2.2.2.2.2.2.1, s25.2.2.2.2.2.2.2.2.2.1, s25.2.2.2.2.2.2.2.2.2.2.1, s25.2.2.2.2.2.2.2.2.2.2.2.1, s25.2.2.2.2.2.2.2.2.2.2.2.2.1, s25.2.2.2.2.2.2.2.2.2.2.2.2.2] q55.2.2.1.toNat true).getD 2 false), ((putN 6 false [s25.2.2.2.2.2.2.2.2.1, s25.2.2.2.2.2.2.2.2.2.1, s25.2.2.2.2.2.2.2.2.2.2.1, s25.2.2.2.2.2.2.2.2.2.2.2.1, s25.2.2.2.2.2.2.2.2.2.2.2.2.1, s25.2.2.2.2.2.2.2.2.2.2.2.2.2] q55.2.2.1.toNat true).getD 3 false), ((putN 6 false [s25.2.2.2.2.2.2.2.2.1, s25.2.2.2.2.2.2.2.2.2.1, s25.2.2.2.2.2.2.2.2.2.2.1, s25.2.2.2.2.2.2.2.2.2.2.2.1, s25.2.2.2.2.2.2.2.2.2.2.2.2.1, s25.2.2.2.2.2.2.2.2.2.2.2.2.2] q55.2.2.1.toNat true).getD 4 false), ((putN 6 false [s25.2.2.2.2.2.2.2.2.1, s25.2.2.2.2.2.2.2.2.2.1, s25.2.2.2.2.2.2.2.2.2.2.1, s25.2.2.2.2.2.2.2.2.2.2.2.1, s25.2.2.2.2.2.2.2.2.2.2.2.2.1, s25.2.2.2.2.2.2.2.2.2.2.2.2.2] q55.2.2.1.toNat true).getD 5 false)), h, hl87, rfl, rfl⟩
       ·refine Z 2 rfl ?_
        exact hk33 _ _ _ ⟨(0, ((putN 6 false [s25.2.2.2.2.2.2.2.2.1, s25.2.2.2.2.2.2.2.2.2.1, s25.2.2.2.2.2.2.2.2.2.2.1, s25.2.2.2.2.2.2.2.2.2.2.2.1, s25.2.2.2.2.2.2.2.2.2.2.2.2.1, s25.2.2.2.2.2.2.2.2.2.2.2.2.2] q55.2.2.1.toNat true).getD 0 false), ((putN 6 false [s25.2.2.2.2.2.2.2.2.1, s25.2.2.2.2.2.2.2.2.2.1, s25.2.2.2.2.2.2.2.2.2.2.1, s25.2.2.2.2.2.2.2.2.2.2.2.1, s25.2.2.2.2.2.2.2.2.2.2.2.2.1, s25.2.2.2.2.2.2.2.2.2.2.2.2.2] q55.2.2.1.toNat true).getD 1 false), ((putN 6 false [s25.2.2.2.2.2.2.2.2.1, s25.2.2.2.2.2.2.2.2.2.1, s25.2.2.2.2.2.2.2.2.2.2.1, s25.2.2.2.2.2.2.2.2.2.2.2.1, s25.2.2.2.2.2.2.2.2.2.2.2.2.1, s25.2.2.2.2.2.2.2.2.2.2.2.2.2] q55.2.2.1.toNat true).getD 2 false), ((putN 6 false [s25.2.2.2.2.2.2.2.2.1, s25.2.2.2.2.2.2.2.2.2.1, s25.2.2.2.2.2.2.2.2.2.2.1, s25.2.2.2.2.2.2.2.2.2.2.2.1, s25.2.2.2.2.2.2.2.2.2.2.2.2.1, s25.2.2.2.2.2.2.2.2.2.2.2.2.2] q55.2.2.1.toNat true).getD 3 false), ((putN 6 false [s25.2.2.2.2.2.2.2.2.1, s25.2.2.2.2.2.2.2.2.2.1, s25.2.2.2.2.2.2.2.2.2.2.1, s25.2.2.2.2.2.2.2.2.2.2.2.1, s25.2.2.2.2.2.2.2.2.2.2.2.2.1, s25.2.2.2.2.2.2.2.2.2.2.2.2.2] q55.2.2.1.toNat true).getD 4 false), ((putN 6 false [s25.2.2.2.2.2.2.2.2.1, s25.2.2.2.2.2.2.2.2.2.1, s25.2.2.2.2.2.2.2.2.2.2.1, s25.2.2.2.2.2.2.2.2.2.2.2.1, s25.2.2.2.2.2.2.2.2.2.2.2.2.1, s25.2.2.2.2.2.2.2.2.2.2.2.2.2] q55.2.2.1.toNat true).getD 5 false)), h, hl87, rfl, rfl⟩
  ·refine st_exit rfl ?_
   obtain rfl := he25 _ h
   replace h := hA25
   exact hk14 _ _ _ ⟨(s25.2.1, s25.2.2.1, s25.2.2.2.1, s25.2.2.2.2.1, s25.2.2.2.2.2.1, s25.2.2.2.2.2.2.1, s25.2.2.2.2.2.2.2.1, s25.2.2.2.2.2.2.2.2.1, s25.2.2.2.2.2.2.2.2.2.1, s25.2.2.2.2.2.2.2.2.2.2.1, s25.2.2.2.2.2.2.2.2.2.2.2.1, s25.2.2.2.2.2.2.2.2.2.2.2.2.1, s25.2.2.2.2.2.2.2.2.2.2.2.2.2), h, hl25, rfl, rfl⟩
theorem ref16_Word_ok {a0 : Int} {r : ByteArray} (h : ref16_Word a0 r) (σ : Sto)  :
    Does Tryz.prog 37 [.int .i64 a0] σ [] (fun v τ gs => gs = [] ∧ .string r = v) := by
 refine call_of Tryz.func37 Tryz.ntmps37 rfl rfl (fun cs fs => ?_)
 refine Z 2 rfl ?_
 refine o_assign rfl rfl rfl (ev_str z_str0) ?_
 refine Z 3 rfl ?_
 refine st_cut (fun ρ τ1 gs => ∃ (s1 : Bool), ref16_Word_j1 a0 s1 r ∧ σ.Le τ1 ∧ ESub ρ [(0, .int .i64 a0), (2, .string (bstr [])), (8, .bool s1)] ∧ gs = []) ?_ (fun hk1 => ?_)
 ·rintro ρ1 τ1 gs1 ⟨s1, h, hl1, hρ, rfl⟩
  refine st_es hρ ?_
  refine st_if rfl h (fun h => ?_) (fun h => ?_)
  ·refine Z 2 rfl ?_
   refine o_assign rfl rfl rfl (ev_str z_str0) ?_
   refine st_end ?_
   obtain rfl := Eq.symm h
   exact st_ret (gs' := []) Tryz.func37 rfl (List.Sublist.refl _) hl1 ⟨rfl, rfl⟩
  ·refine Z 3 rfl ?_
   refine o_litE eS [(bstr [109, 111, 118, 101]), (bstr [104, 111, 108, 100]), (bstr [103, 114, 97, 110, 116]), (bstr [112, 111, 115, 101]), (bstr [102, 97, 117, 108, 116])] rfl rfl rfl z_slT106 z_zero9 ⟨rfl, ⟨_, (ev_str z_str20), rfl⟩, ⟨rfl, ⟨_, (ev_str z_str21), rfl⟩, ⟨rfl, ⟨_, (ev_str z_str22), rfl⟩, ⟨rfl, ⟨_, (ev_str z_str23), rfl⟩, ⟨rfl, ⟨_, (ev_str z_str24), rfl⟩, trivial⟩⟩⟩⟩⟩ rfl rfl rfl rfl (fun v2 g3 ho4 => ?_)
   refine Z 2 rfl ?_
   obtain ⟨q5, hf6, h⟩ := h
   refine o_indexOw rfl rfl rfl z_slT106 rfl rfl ho4 rfl hf6 (fun b7 hb8 => ?_)
   obtain ⟨vs9, hrep10, hat11⟩ := Ow.at ho4 hb8 hf6
   obtain rfl := hrep10
   refine o_loadOw (off := 0) (j := 0) (v := .string q5) rfl rfl rfl z_sc9 rfl hat11 rfl rfl ?_
   refine Z 2 rfl ?_
   refine st_ord [] _ rfl ?_
   obtain rfl := Eq.symm h
   exact st_ret (gs' := []) Tryz.func37 rfl (List.Sublist.refl _) hl1 ⟨rfl, rfl⟩
 refine Z 3 rfl ?_
 refine o_mif rfl rfl rfl rfl h (fun h => ?_) (fun h => ?_)
 ·refine Z 4 rfl ?_
  exact hk1 _ _ _ ⟨true, h, (Sto.Le.refl _), rfl, rfl⟩
 ·refine Z 4 rfl ?_
  exact hk1 _ _ _ ⟨(decide (5 < a0)), h, (Sto.Le.refl _), rfl, rfl⟩
theorem ref07_Digits_ok {a0 : Int} {r : ByteArray} (h : ref07_Digits a0 r) (σ : Sto)  :
    Does Tryz.prog 39 [.int .i64 a0] σ [] (fun v τ gs => gs = [] ∧ .string r = v) := by
 refine call_of Tryz.func39 Tryz.ntmps39 rfl rfl (fun cs fs => ?_)
 refine Z 2 rfl ?_
 refine o_assign rfl rfl rfl (ev_str z_str0) ?_
 refine Z 7 rfl ?_
 refine st_if rfl h (fun h => ?_) (fun h => ?_)
 ·refine Z 2 rfl ?_
  refine o_assign rfl rfl rfl (ev_str z_str0) ?_
  refine Z 2 rfl ?_
  refine st_cut (fun ρ τ1 gs => ∃ (s1 : Int × ByteArray), ref07_Digits_j1 s1 r ∧ σ.Le τ1 ∧ ESub ρ [(0, .int .i64 s1.1), (2, .string (bstr [])), (3, .string s1.2)] ∧ gs = []) ?_ (fun hk1 => ?_)
  ·rintro ρ1 τ1 gs1 ⟨s1, h, hl1, hρ, rfl⟩
   refine st_es hρ ?_
   refine Z 3 rfl ?_
   obtain ⟨hf2, h⟩ := h
   refine o_sadd rfl rfl rfl (ev_str z_str28) rfl hf2 ?_
   refine Z 2 rfl ?_
   obtain rfl := Eq.symm h
   exact st_ret (gs' := []) Tryz.func39 rfl (List.Sublist.refl _) hl1 ⟨rfl, rfl⟩
  obtain ⟨e3, hL3, hA3⟩ := h
  refine st_loop hL3 (fun (s3 : Int × ByteArray) ρ τ3 gs => σ.Le τ3 ∧ ESub ρ [(0, .int .i64 s3.1), (2, .string (bstr [])), (3, .string s3.2)] ∧ gs = []) ⟨Sto.Le.refl _, rfl, rfl⟩ ?_
  rintro s3 o3 h he3 ρ3 τ3 gs3 ⟨hl3, hρ, rfl⟩ hn3
  refine st_es hρ ?_
  refine Z 6 rfl ?_
  refine st_if rfl h (fun h => ?_) (fun h => ?_)
  ·refine Z 8 rfl ?_
   refine o_litE (eI .u8) [(IntKind.u8.wrap (IntKind.i64.wrap (48 - (s3.1.tmod 10))))] rfl rfl rfl z_slT23 z_zero5 ⟨rfl, ⟨_, rfl, rfl⟩, trivial⟩ rfl rfl rfl rfl (fun v4 g5 ho6 => ?_)
   refine st_freeze (fun τ7 hl8 hg9 => ?_)
   have hs10 := ho6.freeze hl8 hg9
   refine o_bstr (xs := [(IntKind.u8.wrap (IntKind.i64.wrap (48 - (s3.1.tmod 10))))]) rfl rfl rfl Tryz.underlying23 Tryz.underlying5 Tryz.underlying9 rfl hs10 ?_
   refine o_move rfl rfl rfl rfl ?_
   obtain ⟨hf11, h⟩ := h
   refine o_sadd rfl rfl rfl rfl rfl hf11 ?_
   refine Z 8 rfl ?_
   exact hn3 _ _ _ _ h ⟨(hl3.trans hl8), rfl, rfl⟩
  ·refine st_exit rfl ?_
   obtain rfl := he3 _ h
   replace h := hA3
   exact hk1 _ _ _ ⟨(s3.1, s3.2), h, hl3, rfl, rfl⟩
 ·refine Z 3 rfl ?_
  refine o_assign rfl rfl rfl (ev_str z_str0) ?_
  refine Z 2 rfl ?_
  refine st_cut (fun ρ τ13 gs => ∃ (s13 : Int × ByteArray), ref07_Digits_j3 s13 r ∧ σ.Le τ13 ∧ ESub ρ [(0, .int .i64 s13.1), (2, .string (bstr [])), (4, .string s13.2)] ∧ gs = []) ?_ (fun hk13 => ?_)
  ·rintro ρ13 τ13 gs13 ⟨s13, h, hl13, hρ, rfl⟩
   refine st_es hρ ?_
   refine Z 5 rfl ?_
   refine o_litE (eI .u8) [(IntKind.u8.wrap (IntKind.i64.wrap (48 + s13.1)))] rfl rfl rfl z_slT23 z_zero5 ⟨rfl, ⟨_, rfl, rfl⟩, trivial⟩ rfl rfl rfl rfl (fun v14 g15 ho16 => ?_)
   refine st_freeze (fun τ17 hl18 hg19 => ?_)
   have hs20 := ho16.freeze hl18 hg19
   refine o_bstr (xs := [(IntKind.u8.wrap (IntKind.i64.wrap (48 + s13.1)))]) rfl rfl rfl Tryz.underlying23 Tryz.underlying5 Tryz.underlying9 rfl hs20 ?_
   refine o_move rfl rfl rfl rfl ?_
   obtain ⟨hf21, h⟩ := h
   refine o_sadd rfl rfl rfl rfl rfl hf21 ?_
   refine Z 2 rfl ?_
   obtain rfl := Eq.symm h
   exact st_ret (gs' := []) Tryz.func39 rfl (List.Sublist.refl _) (hl13.trans hl18) ⟨rfl, rfl⟩
  obtain ⟨e22, hL22, hA22⟩ := h
  refine st_loop hL22 (fun (s22 : Int × ByteArray) ρ τ22 gs => σ.Le τ22 ∧ ESub ρ [(0, .int .i64 s22.1), (2, .string (bstr [])), (4, .string s22.2)] ∧ gs = []) ⟨Sto.Le.refl _, rfl, rfl⟩ ?_
  rintro s22 o22 h he22 ρ22 τ22 gs22 ⟨hl22, hρ, rfl⟩ hn22
  refine st_es hρ ?_
  refine Z 6 rfl ?_
  refine st_if rfl h (fun h => ?_) (fun h => ?_)
  ·refine Z 8 rfl ?_
   refine o_litE (eI .u8) [(IntKind.u8.wrap (IntKind.i64.wrap (48 + (s22.1.tmod 10))))] rfl rfl rfl z_slT23 z_zero5 ⟨rfl, ⟨_, rfl, rfl⟩, trivial⟩ rfl rfl rfl rfl (fun v23 g24 ho25 => ?_)
   refine st_freeze (fun τ26 hl27 hg28 => ?_)
   have hs29 := ho25.freeze hl27 hg28
   refine o_bstr (xs := [(IntKind.u8.wrap (IntKind.i64.wrap (48 + (s22.1.tmod 10))))]) rfl rfl rfl Tryz.underlying23 Tryz.underlying5 Tryz.underlying9 rfl hs29 ?_
   refine o_move rfl rfl rfl rfl ?_
   obtain ⟨hf30, h⟩ := h
   refine o_sadd rfl rfl rfl rfl rfl hf30 ?_
   refine Z 8 rfl ?_
   exact hn22 _ _ _ _ h ⟨(hl22.trans hl27), rfl, rfl⟩
  ·refine st_exit rfl ?_
   obtain rfl := he22 _ h
   replace h := hA22
   exact hk13 _ _ _ ⟨(s22.1, s22.2), h, hl22, rfl, rfl⟩
theorem ref20_digit_ok {a0 : Int} {r : Int} (h : ref20_digit a0 r) (σ : Sto)  :
    Does Tryz.prog 74 [.int .u8 a0] σ [] (fun v τ gs => gs = [] ∧ .int .u8 r = v) := by
 refine call_of Tryz.func74 Tryz.ntmps74 rfl rfl (fun cs fs => ?_)
 refine Z 10 rfl ?_
 refine st_if rfl h (fun h => ?_) (fun h => ?_)
 ·refine Z 6 rfl ?_
  obtain rfl := Eq.symm h
  exact st_ret (gs' := []) Tryz.func74 rfl (List.Sublist.refl _) (Sto.Le.refl _) ⟨rfl, rfl⟩
 ·refine Z 7 rfl ?_
  obtain rfl := Eq.symm h
  exact st_ret (gs' := []) Tryz.func74 rfl (List.Sublist.refl _) (Sto.Le.refl _) ⟨rfl, rfl⟩
theorem ref20_hex_ok {a0 : ByteArray} {r : ByteArray} (h : ref20_hex a0 r) (σ : Sto)  :
    Does Tryz.prog 40 [.string a0] σ [] (fun v τ gs => gs = [] ∧ .string r = v) := by
 refine call_of Tryz.func40 Tryz.ntmps40 rfl rfl (fun cs fs => ?_)
 refine Z 2 rfl ?_
 refine o_assign rfl rfl rfl (ev_str z_str0) ?_
 refine Z 5 rfl ?_
 refine o_sbin (v := .bool (decide (a0 = (bstr [])))) rfl rfl rfl rfl (ev_str z_str0) rfl ?_
 refine st_end ?_
 refine st_if rfl h (fun h => ?_) (fun h => ?_)
 ·refine Z 2 rfl ?_
  refine o_assign rfl rfl rfl (ev_str z_str28) ?_
  refine st_end ?_
  obtain rfl := Eq.symm h
  exact st_ret (gs' := []) Tryz.func40 rfl (List.Sublist.refl _) (Sto.Le.refl _) ⟨rfl, rfl⟩
 ·refine Z 3 rfl ?_
  refine o_assign rfl rfl rfl (ev_str z_str0) ?_
  refine Z 2 rfl ?_
  refine st_cut (fun ρ τ1 gs => ∃ (s1 : ByteArray), ref20_hex_j1 s1 r ∧ σ.Le τ1 ∧ ESub ρ [(2, .string (bstr [])), (3, .string s1)] ∧ gs = []) ?_ (fun hk1 => ?_)
  ·rintro ρ1 τ1 gs1 ⟨s1, h, hl1, hρ, rfl⟩
   refine st_es hρ ?_
   refine Z 5 rfl ?_
   obtain rfl := Eq.symm h
   exact st_ret (gs' := []) Tryz.func40 rfl (List.Sublist.refl _) hl1 ⟨rfl, rfl⟩
  refine Z 4 rfl ?_
  obtain ⟨e2, hL2, hA2⟩ := h
  refine st_loop hL2 (fun (s2 : ByteArray × Int) ρ τ2 gs => σ.Le τ2 ∧ ESub ρ [(0, .string a0), (2, .string (bstr [])), (3, .string s2.1), (4, .int .i64 s2.2)] ∧ gs = []) ⟨Sto.Le.refl _, rfl, rfl⟩ ?_
  rintro s2 o2 h he2 ρ2 τ2 gs2 ⟨hl2, hρ, rfl⟩ hn2
  refine st_es hρ ?_
  refine Z 8 rfl ?_
  refine st_if rfl h (fun h => ?_) (fun h => ?_)
  ·refine Z 3 rfl ?_
   obtain ⟨q3, hf4, r5, hr6, q9, hf10, r11, hr12, hf22, h⟩ := h
   refine st_draw 14 (dl [.v (.string s2.1), .v (.string a0), .v (.int .i64 s2.2), .v (.int .u8 q3), .v (.int .u8 (IntKind.u8.wrap (q3.tdiv 16))), .v (.int .u8 r5), .v (.string a0), .v (.int .i64 s2.2), .v (.int .u8 q9), .v (.int .u8 (q9.tmod 16)), .v (.int .u8 r11), .t fun τ v => ∃ (v15 : Value), (v15 : Value) = v ∧ Sl (kI .u8) τ v15 [r5, r11], .v (.string (bstr [r5, r11])), .v (.string (s2.1 ++ (bstr [r5, r11])))]) (fun _ _ => []) z_mix rfl (dl_mono ⟨fun _ _ _ hl ⟨v15, hv, hs21⟩ => ⟨v15, hv, hs21.up hl⟩, trivial⟩) (allB_cons (allB_cons (allB_cons (allB_cons (allB_cons (allB_cons (allB_cons (allB_cons (allB_cons (allB_cons (allB_cons (allB_cons (allB_cons (allB_cons allB_nil (p1 dA)) (p1 dA)) (p1 dA)) ?_) (p1 dA)) ?_) (p1 dA)) (p1 dA)) ?_) (p1 dA)) ?_) ?_) ?_) ?_) ?_
   ·intro ρ' τ pool rs hl hd hout hk
    obtain ⟨_, e1, rfl⟩ := hd 1 rfl
    obtain ⟨_, e2, rfl⟩ := hd 2 rfl
    refine o_indexS rfl rfl rfl Tryz.underlying9 e1 e2 hf4 ?_
    exact st_addNil (hk _ _ (Sto.Le.refl _) rfl)
   ·intro ρ' τ pool rs hl hd hout hk
    obtain ⟨_, e4, rfl⟩ := hd 4 rfl
    refine st_call (foot := []) rfl rfl rfl rfl (evs_cons e4 rfl) rfl (callV_fn z_en74 (ref20_digit_ok hr6 τ)) ?_
    rintro vτ7 τ7 gsτ7 hl8 ⟨rfl, rfl⟩
    exact st_addNil (hk _ _ hl8 rfl)
   ·intro ρ' τ pool rs hl hd hout hk
    obtain ⟨_, e6, rfl⟩ := hd 6 rfl
    obtain ⟨_, e7, rfl⟩ := hd 7 rfl
    refine o_indexS rfl rfl rfl Tryz.underlying9 e6 e7 hf10 ?_
    exact st_addNil (hk _ _ (Sto.Le.refl _) rfl)
   ·intro ρ' τ pool rs hl hd hout hk
    obtain ⟨_, e9, rfl⟩ := hd 9 rfl
    refine st_call (foot := []) rfl rfl rfl rfl (evs_cons e9 rfl) rfl (callV_fn z_en74 (ref20_digit_ok hr12 τ)) ?_
    rintro vτ13 τ13 gsτ13 hl14 ⟨rfl, rfl⟩
    exact st_addNil (hk _ _ hl14 rfl)
   ·intro ρ' τ pool rs hl hd hout hk
    obtain ⟨_, e5, rfl⟩ := hd 5 rfl
    obtain ⟨_, e10, rfl⟩ := hd 10 rfl
    refine o_litE (eI .u8) [r5, r11] rfl rfl rfl z_slT23 z_zero5 ⟨rfl, ⟨_, e5, rfl⟩, ⟨rfl, ⟨_, e10, rfl⟩, trivial⟩⟩ rfl rfl rfl rfl (fun v15 g16 ho17 => ?_)
    refine st_freeze (fun τ18 hl19 hg20 => ?_)
    have hs21 := ho17.freeze hl19 hg20
    exact st_addNil (hk _ _ hl19 ⟨v15, rfl, hs21⟩)
   ·intro ρ' τ pool rs hl hd hout hk
    obtain ⟨_, e11, v15, rfl, hs21⟩ := hd 11 rfl
    refine o_bstr (xs := [r5, r11]) rfl rfl rfl Tryz.underlying23 Tryz.underlying5 Tryz.underlying9 e11 hs21 ?_
    exact st_addNil (hk _ _ (Sto.Le.refl _) rfl)
   ·intro ρ' τ pool rs hl hd hout hk
    obtain ⟨_, e0, rfl⟩ := hd 0 rfl
    obtain ⟨_, e12, rfl⟩ := hd 12 rfl
    refine o_sadd rfl rfl rfl e0 e12 hf22 ?_
    exact st_addNil (hk _ _ (Sto.Le.refl _) rfl)
   intro ρ' τ23 vals hl23 hv hout
   refine st_ord [] _ rfl ?_
   refine st_env (ρ' := [(26, .string (s2.1 ++ (bstr [r5, r11]))), (0, .string a0), (2, .string (bstr [])), (4, .int .i64 s2.2)]) ⟨(lv1 hv 13 rfl rfl), (hout 0 rfl).trans rfl, (hout 2 rfl).trans rfl, (hout 4 rfl).trans rfl, trivial⟩ ?_
   refine Z 8 rfl ?_
   exact hn2 _ _ _ _ h ⟨(hl2.trans hl23), rfl, rfl⟩
  ·refine st_exit rfl ?_
   obtain rfl := he2 _ h
   replace h := hA2
   exact hk1 _ _ _ ⟨s2.1, h, hl2, rfl, rfl⟩
end Go.Rel
