import Derived.Test.YtgokdchgjpneoaaDoorURel
import Derived.Test.YtgokdchgjpneoaaDoorUFacts
/-! The walks. -/
set_option linter.unusedVariables false
set_option linter.unusedSimpArgs false
set_option maxRecDepth 4000
set_option maxHeartbeats 4000000
namespace Go.Rel
open Go Go.Eng Go.Proofs
theorem law17_Cut_ok {a0 : Int × List Int × List (Int × Int) × List Int × ByteArray × ByteArray} {v1 : Value} {v2 : Value} {r : (Int × List Int × List (Int × Int) × List Int × ByteArray × ByteArray)} (h : law17_Cut a0 r) (σ : Sto) (hs3 : Sl (kP (kI .i64) (kI .i64)) σ v1 a0.2.2.1) (hs4 : Sl (kI .i64) σ v2 a0.2.2.2.1) :
    Does Tryd.prog 11 [.agg [.int .i64 a0.1, .int .i64 (a0.2.1.getD 0 0), .int .i64 (a0.2.1.getD 1 0), .int .i64 (a0.2.1.getD 2 0), .int .i64 (a0.2.1.getD 3 0), .int .i64 (a0.2.1.getD 4 0), .int .i64 (a0.2.1.getD 5 0), v1, v2, .string a0.2.2.2.2.1, .string a0.2.2.2.2.2].toArray] σ [] (fun v τ gs => ∃ (v23 : Value) (v24 : Value), gs = [] ∧ .agg [.int .i64 r.1, .int .i64 (r.2.1.getD 0 0), .int .i64 (r.2.1.getD 1 0), .int .i64 (r.2.1.getD 2 0), .int .i64 (r.2.1.getD 3 0), .int .i64 (r.2.1.getD 4 0), .int .i64 (r.2.1.getD 5 0), v23, v24, .string r.2.2.2.2.1, .string r.2.2.2.2.2].toArray = v ∧ Sl (kP (kI .i64) (kI .i64)) τ v23 r.2.2.1 ∧ Sl (kI .i64) τ v24 r.2.2.2.1) := by
 refine call_of Tryd.func11 Tryd.ntmps11 rfl rfl (fun cs fs => ?_)
 refine Z 2 rfl ?_
 refine o_box (cs := [.int .i64 a0.1, .int .i64 (a0.2.1.getD 0 0), .int .i64 (a0.2.1.getD 1 0), .int .i64 (a0.2.1.getD 2 0), .int .i64 (a0.2.1.getD 3 0), .int .i64 (a0.2.1.getD 4 0), .int .i64 (a0.2.1.getD 5 0), v1, v2, .string a0.2.2.2.2.1, .string a0.2.2.2.2.2]) rfl rfl rfl rfl rfl (fun b5 => ?_)
 refine o_alloc rfl rfl rfl z_zero26 (fun b6 => ?_)
 refine Z 2 rfl ?_
 obtain ⟨hf7, hf8, hf11, hf12, h⟩ := h
 refine st_d41 [[(b6, .cells #[.int .i64 0, .int .i64 0, .int .i64 0, .int .i64 0, .int .i64 0, .int .i64 0, .int .i64 0, .slice none 0 0, .slice none 0 0, .string (bstr []), .string (bstr [])] 26 (0, 0))]] [[(b5, .cells #[.int .i64 a0.1, .int .i64 (a0.2.1.getD 0 0), .int .i64 (a0.2.1.getD 1 0), .int .i64 (a0.2.1.getD 2 0), .int .i64 (a0.2.1.getD 3 0), .int .i64 (a0.2.1.getD 4 0), .int .i64 (a0.2.1.getD 5 0), v1, v2, .string a0.2.2.2.2.1, .string a0.2.2.2.2.2] 26 (0, 0))]] 16 1 [none, none, none, none, none, none, none, none, none, none, none, none, none, none, none, some (0, 0)] [none, some (0, 0), none, some (0, 0), none, none, none, none, some (0, 0), none, some (0, 0), none, none, none, none, none] [[none, none]] [.v (.pointer (some ⟨b5, 7, none⟩)), .v (v1), .v (.pointer (some ⟨b5, 7, none⟩)), .v (v1), .v (.int .i64 (a0.2.2.1.length : Int)), .v (.int .i64 (min (a0.2.2.1.length : Int) 40)), .t fun τ v => ∃ (v9 : Value), (v9 : Value) = v ∧ Sl (kP (kI .i64) (kI .i64)) τ v9 ((a0.2.2.1.drop (0 : Int).toNat).take (((min (a0.2.2.1.length : Int) 40) : Int) - 0).toNat), .v (.pointer (some ⟨b5, 8, none⟩)), .v (v2), .v (.pointer (some ⟨b5, 8, none⟩)), .v (v2), .v (.int .i64 (a0.2.2.2.1.length : Int)), .v (.int .i64 (min (a0.2.2.2.1.length : Int) 40)), .t fun τ v => ∃ (v13 : Value), (v13 : Value) = v ∧ Sl (kI .i64) τ v13 ((a0.2.2.2.1.drop (0 : Int).toNat).take (((min (a0.2.2.2.1.length : Int) 40) : Int) - 0).toNat), .v (.pointer (some ⟨b5, 7, none⟩)), .t fun _ _ => True] [[fun τ u F => F = [[(b5, .cells #[.int .i64 a0.1, .int .i64 (a0.2.1.getD 0 0), .int .i64 (a0.2.1.getD 1 0), .int .i64 (a0.2.1.getD 2 0), .int .i64 (a0.2.1.getD 3 0), .int .i64 (a0.2.1.getD 4 0), .int .i64 (a0.2.1.getD 5 0), v1, v2, .string a0.2.2.2.2.1, .string a0.2.2.2.2.2] 26 (0, 0))]], fun τ u F => ∃ (v15 : Value), F = [[(b5, .cells #[.int .i64 a0.1, .int .i64 (a0.2.1.getD 0 0), .int .i64 (a0.2.1.getD 1 0), .int .i64 (a0.2.1.getD 2 0), .int .i64 (a0.2.1.getD 3 0), .int .i64 (a0.2.1.getD 4 0), .int .i64 (a0.2.1.getD 5 0), v15, v2, .string a0.2.2.2.2.1, .string a0.2.2.2.2.2] 26 (0, 0))]] ∧ Sl (kP (kI .i64) (kI .i64)) τ v15 ((a0.2.2.1.drop (0 : Int).toNat).take (((min (a0.2.2.1.length : Int) 40) : Int) - 0).toNat)]] rfl z_mix rfl ⟨fun _ _ _ hl ⟨v9, hv, hs10⟩ => ⟨v9, hv, hs10.up hl⟩, ⟨fun _ _ _ hl ⟨v13, hv, hs14⟩ => ⟨v13, hv, hs14.up hl⟩, ⟨fun _ _ _ _ _ => trivial, trivial⟩⟩⟩ ⟨⟨fun _ _ _ _ hl h => h, ⟨fun _ _ _ _ hl h => (let ⟨v15, hF, hs16⟩ := h; ⟨v15, hF, hs16.up hl⟩), trivial⟩⟩, trivial⟩ rfl rfl ?_ (allB_cons (allB_cons (allB_cons (allB_cons (allB_cons (allB_cons (allB_cons (allB_cons (allB_cons (allB_cons (allB_cons (allB_cons (allB_cons (allB_cons (allB_cons (allB_cons allB_nil (p4 dA)) ?_) (p4 dA)) ?_) ?_) (p4 dA)) ?_) (p4 dA)) ?_) (p4 dA)) ?_) ?_) (p4 dA)) ?_) (p4 dA)) ?_) ?_
 ·exact rfl
 ·intro ρ' τ u Fv pool rs hl hI hu hd hout hw hk
  obtain ⟨_, e0, rfl⟩ := hd 0 rfl _ rfl
  have hI0 := hI
  obtain rfl := hI
  refine st_gs [[(b6, .cells #[.int .i64 0, .int .i64 0, .int .i64 0, .int .i64 0, .int .i64 0, .int .i64 0, .int .i64 0, .slice none 0 0, .slice none 0 0, .string (bstr []), .string (bstr [])] 26 (0, 0))], [(b5, .cells #[.int .i64 a0.1, .int .i64 (a0.2.1.getD 0 0), .int .i64 (a0.2.1.getD 1 0), .int .i64 (a0.2.1.getD 2 0), .int .i64 (a0.2.1.getD 3 0), .int .i64 (a0.2.1.getD 4 0), .int .i64 (a0.2.1.getD 5 0), v1, v2, .string a0.2.2.2.2.1, .string a0.2.2.2.2.2] 26 (0, 0))], pool] rfl ?_
  refine o_load (j := 1) (v := v1) rfl rfl rfl z_sc23 e0 rfl rfl ?_
  exact hk _ _ (Sto.Le.refl _) rfl
 ·intro ρ' τ u Fv pool rs hl hI hu hd hout hw hk
  obtain ⟨_, e2, rfl⟩ := hd 2 rfl _ rfl
  have hI0 := hI
  obtain rfl := hI
  refine st_gs [[(b6, .cells #[.int .i64 0, .int .i64 0, .int .i64 0, .int .i64 0, .int .i64 0, .int .i64 0, .int .i64 0, .slice none 0 0, .slice none 0 0, .string (bstr []), .string (bstr [])] 26 (0, 0))], [(b5, .cells #[.int .i64 a0.1, .int .i64 (a0.2.1.getD 0 0), .int .i64 (a0.2.1.getD 1 0), .int .i64 (a0.2.1.getD 2 0), .int .i64 (a0.2.1.getD 3 0), .int .i64 (a0.2.1.getD 4 0), .int .i64 (a0.2.1.getD 5 0), v1, v2, .string a0.2.2.2.2.1, .string a0.2.2.2.2.2] 26 (0, 0))], pool] rfl ?_
  refine o_load (j := 1) (v := v1) rfl rfl rfl z_sc23 e2 rfl rfl ?_
  exact hk _ _ (Sto.Le.refl _) rfl
 ·intro ρ' τ pool rs hl hd hout hw hk
  obtain ⟨_, e3, rfl⟩ := hd 3 rfl _ rfl
  refine o_lenI rfl rfl rfl z_slT23 e3 (hs3.up hl) ?_
  exact hk _ _ (Sto.Le.refl _) rfl
 ·intro ρ' τ pool rs hl hd hout hw hk
  obtain ⟨_, e1, rfl⟩ := hd 1 rfl _ rfl
  obtain ⟨_, e5, rfl⟩ := hd 5 rfl _ rfl
  refine o_slice (L := 0) (H := (min (a0.2.2.1.length : Int) 40)) rfl rfl rfl z_slT23 rfl e1 (hs3.up hl) rfl ⟨_, e5⟩ (by decide) hf7 hf8 trivial (by simp) (fun v9 hs10 => ?_)
  exact hk _ _ (Sto.Le.refl _) ⟨v9, rfl, hs10⟩
 ·intro ρ' τ u Fv pool rs hl hI hu hd hout hw hk
  obtain ⟨_, e7, rfl⟩ := hd 7 rfl _ rfl
  have hI0 := hI
  obtain rfl := hI
  refine st_gs [[(b6, .cells #[.int .i64 0, .int .i64 0, .int .i64 0, .int .i64 0, .int .i64 0, .int .i64 0, .int .i64 0, .slice none 0 0, .slice none 0 0, .string (bstr []), .string (bstr [])] 26 (0, 0))], [(b5, .cells #[.int .i64 a0.1, .int .i64 (a0.2.1.getD 0 0), .int .i64 (a0.2.1.getD 1 0), .int .i64 (a0.2.1.getD 2 0), .int .i64 (a0.2.1.getD 3 0), .int .i64 (a0.2.1.getD 4 0), .int .i64 (a0.2.1.getD 5 0), v1, v2, .string a0.2.2.2.2.1, .string a0.2.2.2.2.2] 26 (0, 0))], pool] rfl ?_
  refine o_load (j := 1) (v := v2) rfl rfl rfl z_sc24 e7 rfl rfl ?_
  exact hk _ _ (Sto.Le.refl _) rfl
 ·intro ρ' τ u Fv pool rs hl hI hu hd hout hw hk
  obtain ⟨_, e9, rfl⟩ := hd 9 rfl _ rfl
  have hI0 := hI
  obtain rfl := hI
  refine st_gs [[(b6, .cells #[.int .i64 0, .int .i64 0, .int .i64 0, .int .i64 0, .int .i64 0, .int .i64 0, .int .i64 0, .slice none 0 0, .slice none 0 0, .string (bstr []), .string (bstr [])] 26 (0, 0))], [(b5, .cells #[.int .i64 a0.1, .int .i64 (a0.2.1.getD 0 0), .int .i64 (a0.2.1.getD 1 0), .int .i64 (a0.2.1.getD 2 0), .int .i64 (a0.2.1.getD 3 0), .int .i64 (a0.2.1.getD 4 0), .int .i64 (a0.2.1.getD 5 0), v1, v2, .string a0.2.2.2.2.1, .string a0.2.2.2.2.2] 26 (0, 0))], pool] rfl ?_
  refine o_load (j := 1) (v := v2) rfl rfl rfl z_sc24 e9 rfl rfl ?_
  exact hk _ _ (Sto.Le.refl _) rfl
 ·intro ρ' τ pool rs hl hd hout hw hk
  obtain ⟨_, e10, rfl⟩ := hd 10 rfl _ rfl
  refine o_lenI rfl rfl rfl z_slT24 e10 (hs4.up hl) ?_
  exact hk _ _ (Sto.Le.refl _) rfl
 ·intro ρ' τ pool rs hl hd hout hw hk
  obtain ⟨_, e8, rfl⟩ := hd 8 rfl _ rfl
  obtain ⟨_, e12, rfl⟩ := hd 12 rfl _ rfl
  refine o_slice (L := 0) (H := (min (a0.2.2.2.1.length : Int) 40)) rfl rfl rfl z_slT24 rfl e8 (hs4.up hl) rfl ⟨_, e12⟩ (by decide) hf11 hf12 trivial (by simp) (fun v13 hs14 => ?_)
  exact hk _ _ (Sto.Le.refl _) ⟨v13, rfl, hs14⟩
 ·intro ρ' τ u Fv pool rs hl hI hu hd hout hw hk
  obtain ⟨_, e6, v9, rfl, hs10⟩ := hd 6 rfl _ rfl
  obtain ⟨_, e14, rfl⟩ := hd 14 rfl _ rfl
  have hI0 := hI
  obtain rfl := hI
  refine st_gs [[(b6, .cells #[.int .i64 0, .int .i64 0, .int .i64 0, .int .i64 0, .int .i64 0, .int .i64 0, .int .i64 0, .slice none 0 0, .slice none 0 0, .string (bstr []), .string (bstr [])] 26 (0, 0))], [(b5, .cells #[.int .i64 a0.1, .int .i64 (a0.2.1.getD 0 0), .int .i64 (a0.2.1.getD 1 0), .int .i64 (a0.2.1.getD 2 0), .int .i64 (a0.2.1.getD 3 0), .int .i64 (a0.2.1.getD 4 0), .int .i64 (a0.2.1.getD 5 0), v1, v2, .string a0.2.2.2.2.1, .string a0.2.2.2.2.2] 26 (0, 0))], pool] rfl ?_
  refine o_store (j := 1) (vs := [v9]) (cs' := [.int .i64 a0.1, .int .i64 (a0.2.1.getD 0 0), .int .i64 (a0.2.1.getD 1 0), .int .i64 (a0.2.1.getD 2 0), .int .i64 (a0.2.1.getD 3 0), .int .i64 (a0.2.1.getD 4 0), .int .i64 (a0.2.1.getD 5 0), v9, v2, .string a0.2.2.2.2.1, .string a0.2.2.2.2.2]) rfl rfl rfl z_size23 e14 e6 (oneL_sl hs10) (ones_cons hs10.one' ones_nil) rfl rfl rfl ?_
  refine st_gs [[(b6, .cells #[.int .i64 0, .int .i64 0, .int .i64 0, .int .i64 0, .int .i64 0, .int .i64 0, .int .i64 0, .slice none 0 0, .slice none 0 0, .string (bstr []), .string (bstr [])] 26 (0, 0))], [(b5, .cells #[.int .i64 a0.1, .int .i64 (a0.2.1.getD 0 0), .int .i64 (a0.2.1.getD 1 0), .int .i64 (a0.2.1.getD 2 0), .int .i64 (a0.2.1.getD 3 0), .int .i64 (a0.2.1.getD 4 0), .int .i64 (a0.2.1.getD 5 0), v9, v2, .string a0.2.2.2.2.1, .string a0.2.2.2.2.2] 26 (0, 0))], pool] rfl ?_
  exact hk _ _ [[(b5, .cells #[.int .i64 a0.1, .int .i64 (a0.2.1.getD 0 0), .int .i64 (a0.2.1.getD 1 0), .int .i64 (a0.2.1.getD 2 0), .int .i64 (a0.2.1.getD 3 0), .int .i64 (a0.2.1.getD 4 0), .int .i64 (a0.2.1.getD 5 0), v9, v2, .string a0.2.2.2.2.1, .string a0.2.2.2.2.2] 26 (0, 0))]] (Sto.Le.refl _) trivial (by exact ⟨v9, rfl, hs10⟩)
 intro ρ' τ17 vals u Fv hl17 hI hu hv hout
 obtain ⟨l13, v13, t13, hs14⟩ := hv 13 (by decide)
 replace l13 := l13 _ rfl
 replace l13 : Eng.look ρ' 16 = some (v13) := l13.trans (congrArg some (Eq.symm t13))
 obtain ⟨v15, rfl, hs16⟩ := hI
 refine st_gs [[(b6, .cells #[.int .i64 0, .int .i64 0, .int .i64 0, .int .i64 0, .int .i64 0, .int .i64 0, .int .i64 0, .slice none 0 0, .slice none 0 0, .string (bstr []), .string (bstr [])] 26 (0, 0))], [(b5, .cells #[.int .i64 a0.1, .int .i64 (a0.2.1.getD 0 0), .int .i64 (a0.2.1.getD 1 0), .int .i64 (a0.2.1.getD 2 0), .int .i64 (a0.2.1.getD 3 0), .int .i64 (a0.2.1.getD 4 0), .int .i64 (a0.2.1.getD 5 0), v15, v2, .string a0.2.2.2.2.1, .string a0.2.2.2.2.2] 26 (0, 0))]] rfl ?_
 refine st_env (ρ' := [(16, v13), (1, .pointer (some ⟨b5, 0, none⟩)), (2, .pointer (some ⟨b6, 0, none⟩))]) ⟨l13, (hout 1 rfl).trans rfl, (hout 2 rfl).trans rfl, trivial⟩ ?_
 refine o_fieldAddr rfl rfl rfl z_field26_3 rfl ?_
 refine o_store (j := 1) (vs := [v13]) (cs' := [.int .i64 a0.1, .int .i64 (a0.2.1.getD 0 0), .int .i64 (a0.2.1.getD 1 0), .int .i64 (a0.2.1.getD 2 0), .int .i64 (a0.2.1.getD 3 0), .int .i64 (a0.2.1.getD 4 0), .int .i64 (a0.2.1.getD 5 0), v15, v13, .string a0.2.2.2.2.1, .string a0.2.2.2.2.2]) rfl rfl rfl z_size24 rfl rfl (oneL_sl hs14) (ones_cons hs14.one' ones_nil) rfl rfl rfl ?_
 refine st_gs [[(b6, .cells #[.int .i64 0, .int .i64 0, .int .i64 0, .int .i64 0, .int .i64 0, .int .i64 0, .int .i64 0, .slice none 0 0, .slice none 0 0, .string (bstr []), .string (bstr [])] 26 (0, 0))], [(b5, .cells #[.int .i64 a0.1, .int .i64 (a0.2.1.getD 0 0), .int .i64 (a0.2.1.getD 1 0), .int .i64 (a0.2.1.getD 2 0), .int .i64 (a0.2.1.getD 3 0), .int .i64 (a0.2.1.getD 4 0), .int .i64 (a0.2.1.getD 5 0), v15, v13, .string a0.2.2.2.2.1, .string a0.2.2.2.2.2] 26 (0, 0))]] rfl ?_
 refine Z 2 rfl ?_
 obtain ⟨hf18, hf19, hf20, hf21, h⟩ := h
 refine st_d41 [[(b6, .cells #[.int .i64 0, .int .i64 0, .int .i64 0, .int .i64 0, .int .i64 0, .int .i64 0, .int .i64 0, .slice none 0 0, .slice none 0 0, .string (bstr []), .string (bstr [])] 26 (0, 0))]] [[(b5, .cells #[.int .i64 a0.1, .int .i64 (a0.2.1.getD 0 0), .int .i64 (a0.2.1.getD 1 0), .int .i64 (a0.2.1.getD 2 0), .int .i64 (a0.2.1.getD 3 0), .int .i64 (a0.2.1.getD 4 0), .int .i64 (a0.2.1.getD 5 0), v15, v13, .string a0.2.2.2.2.1, .string a0.2.2.2.2.2] 26 (0, 0))]] 16 1 [none, none, none, none, none, none, none, none, none, none, none, none, none, none, none, some (0, 0)] [none, some (0, 0), none, some (0, 0), none, none, none, none, some (0, 0), none, some (0, 0), none, none, none, none, none] [[none, none]] [.v (.pointer (some ⟨b5, 9, none⟩)), .v (.string a0.2.2.2.2.1), .v (.pointer (some ⟨b5, 9, none⟩)), .v (.string a0.2.2.2.2.1), .v (.int .i64 (a0.2.2.2.2.1.size : Int)), .v (.int .i64 (min (a0.2.2.2.2.1.size : Int) 80)), .v (.string (a0.2.2.2.2.1.extract 0 (min (a0.2.2.2.2.1.size : Int) 80).toNat)), .v (.pointer (some ⟨b5, 10, none⟩)), .v (.string a0.2.2.2.2.2), .v (.pointer (some ⟨b5, 10, none⟩)), .v (.string a0.2.2.2.2.2), .v (.int .i64 (a0.2.2.2.2.2.size : Int)), .v (.int .i64 (min (a0.2.2.2.2.2.size : Int) 80)), .v (.string (a0.2.2.2.2.2.extract 0 (min (a0.2.2.2.2.2.size : Int) 80).toNat)), .v (.pointer (some ⟨b5, 9, none⟩)), .t fun _ _ => True] [[fun τ u F => F = [[(b5, .cells #[.int .i64 a0.1, .int .i64 (a0.2.1.getD 0 0), .int .i64 (a0.2.1.getD 1 0), .int .i64 (a0.2.1.getD 2 0), .int .i64 (a0.2.1.getD 3 0), .int .i64 (a0.2.1.getD 4 0), .int .i64 (a0.2.1.getD 5 0), v15, v13, .string a0.2.2.2.2.1, .string a0.2.2.2.2.2] 26 (0, 0))]], fun τ u F => F = [[(b5, .cells #[.int .i64 a0.1, .int .i64 (a0.2.1.getD 0 0), .int .i64 (a0.2.1.getD 1 0), .int .i64 (a0.2.1.getD 2 0), .int .i64 (a0.2.1.getD 3 0), .int .i64 (a0.2.1.getD 4 0), .int .i64 (a0.2.1.getD 5 0), v15, v13, .string (a0.2.2.2.2.1.extract 0 (min (a0.2.2.2.2.1.size : Int) 80).toNat), .string a0.2.2.2.2.2] 26 (0, 0))]]]] rfl z_mix rfl ⟨fun _ _ _ _ _ => trivial, trivial⟩ ⟨⟨fun _ _ _ _ hl h => h, ⟨fun _ _ _ _ hl h => h, trivial⟩⟩, trivial⟩ rfl rfl ?_ (allB_cons (allB_cons (allB_cons (allB_cons (allB_cons (allB_cons (allB_cons (allB_cons (allB_cons (allB_cons (allB_cons (allB_cons (allB_cons (allB_cons (allB_cons (allB_cons allB_nil (p4 dA)) ?_) (p4 dA)) ?_) (p4 dA)) (p4 dA)) ?_) (p4 dA)) ?_) (p4 dA)) ?_) (p4 dA)) (p4 dA)) ?_) (p4 dA)) ?_) ?_
 ·exact rfl
 ·intro ρ' τ u Fv pool rs hl hI hu hd hout hw hk
  obtain ⟨_, e0, rfl⟩ := hd 0 rfl _ rfl
  have hI0 := hI
  obtain rfl := hI
  refine st_gs [[(b6, .cells #[.int .i64 0, .int .i64 0, .int .i64 0, .int .i64 0, .int .i64 0, .int .i64 0, .int .i64 0, .slice none 0 0, .slice none 0 0, .string (bstr []), .string (bstr [])] 26 (0, 0))], [(b5, .cells #[.int .i64 a0.1, .int .i64 (a0.2.1.getD 0 0), .int .i64 (a0.2.1.getD 1 0), .int .i64 (a0.2.1.getD 2 0), .int .i64 (a0.2.1.getD 3 0), .int .i64 (a0.2.1.getD 4 0), .int .i64 (a0.2.1.getD 5 0), v15, v13, .string a0.2.2.2.2.1, .string a0.2.2.2.2.2] 26 (0, 0))], pool] rfl ?_
  refine o_load (j := 1) (v := .string a0.2.2.2.2.1) rfl rfl rfl z_sc9 e0 rfl rfl ?_
  exact hk _ _ (Sto.Le.refl _) rfl
 ·intro ρ' τ u Fv pool rs hl hI hu hd hout hw hk
  obtain ⟨_, e2, rfl⟩ := hd 2 rfl _ rfl
  have hI0 := hI
  obtain rfl := hI
  refine st_gs [[(b6, .cells #[.int .i64 0, .int .i64 0, .int .i64 0, .int .i64 0, .int .i64 0, .int .i64 0, .int .i64 0, .slice none 0 0, .slice none 0 0, .string (bstr []), .string (bstr [])] 26 (0, 0))], [(b5, .cells #[.int .i64 a0.1, .int .i64 (a0.2.1.getD 0 0), .int .i64 (a0.2.1.getD 1 0), .int .i64 (a0.2.1.getD 2 0), .int .i64 (a0.2.1.getD 3 0), .int .i64 (a0.2.1.getD 4 0), .int .i64 (a0.2.1.getD 5 0), v15, v13, .string a0.2.2.2.2.1, .string a0.2.2.2.2.2] 26 (0, 0))], pool] rfl ?_
  refine o_load (j := 1) (v := .string a0.2.2.2.2.1) rfl rfl rfl z_sc9 e2 rfl rfl ?_
  exact hk _ _ (Sto.Le.refl _) rfl
 ·intro ρ' τ pool rs hl hd hout hw hk
  obtain ⟨_, e1, rfl⟩ := hd 1 rfl _ rfl
  obtain ⟨_, e5, rfl⟩ := hd 5 rfl _ rfl
  refine o_sliceSh rfl rfl rfl Tryd.underlying9 e1 e5 hf18 hf19 ?_
  exact hk _ _ (Sto.Le.refl _) rfl
 ·intro ρ' τ u Fv pool rs hl hI hu hd hout hw hk
  obtain ⟨_, e7, rfl⟩ := hd 7 rfl _ rfl
  have hI0 := hI
  obtain rfl := hI
  refine st_gs [[(b6, .cells #[.int .i64 0, .int .i64 0, .int .i64 0, .int .i64 0, .int .i64 0, .int .i64 0, .int .i64 0, .slice none 0 0, .slice none 0 0, .string (bstr []), .string (bstr [])] 26 (0, 0))], [(b5, .cells #[.int .i64 a0.1, .int .i64 (a0.2.1.getD 0 0), .int .i64 (a0.2.1.getD 1 0), .int .i64 (a0.2.1.getD 2 0), .int .i64 (a0.2.1.getD 3 0), .int .i64 (a0.2.1.getD 4 0), .int .i64 (a0.2.1.getD 5 0), v15, v13, .string a0.2.2.2.2.1, .string a0.2.2.2.2.2] 26 (0, 0))], pool] rfl ?_
  refine o_load (j := 1) (v := .string a0.2.2.2.2.2) rfl rfl rfl z_sc9 e7 rfl rfl ?_
  exact hk _ _ (Sto.Le.refl _) rfl
 ·intro ρ' τ u Fv pool rs hl hI hu hd hout hw hk
  obtain ⟨_, e9, rfl⟩ := hd 9 rfl _ rfl
  have hI0 := hI
  obtain rfl := hI
  refine st_gs [[(b6, .cells #[.int .i64 0, .int .i64 0, .int .i64 0, .int .i64 0, .int .i64 0, .int .i64 0, .int .i64 0, .slice none 0 0, .slice none 0 0, .string (bstr []), .string (bstr [])] 26 (0, 0))], [(b5, .cells #[.int .i64 a0.1, .int .i64 (a0.2.1.getD 0 0), .int .i64 (a0.2.1.getD 1 0), .int .i64 (a0.2.1.getD 2 0), .int .i64 (a0.2.1.getD 3 0), .int .i64 (a0.2.1.getD 4 0), .int .i64 (a0.2.1.getD 5 0), v15, v13, .string a0.2.2.2.2.1, .string a0.2.2.2.2.2] 26 (0, 0))], pool] rfl ?_
  refine o_load (j := 1) (v := .string a0.2.2.2.2.2) rfl rfl rfl z_sc9 e9 rfl rfl ?_
  exact hk _ _ (Sto.Le.refl _) rfl
 ·intro ρ' τ pool rs hl hd hout hw hk
  obtain ⟨_, e8, rfl⟩ := hd 8 rfl _ rfl
  obtain ⟨_, e12, rfl⟩ := hd 12 rfl _ rfl
  refine o_sliceSh rfl rfl rfl Tryd.underlying9 e8 e12 hf20 hf21 ?_
  exact hk _ _ (Sto.Le.refl _) rfl
 ·intro ρ' τ u Fv pool rs hl hI hu hd hout hw hk
  obtain ⟨_, e6, rfl⟩ := hd 6 rfl _ rfl
  obtain ⟨_, e14, rfl⟩ := hd 14 rfl _ rfl
  have hI0 := hI
  obtain rfl := hI
  refine st_gs [[(b6, .cells #[.int .i64 0, .int .i64 0, .int .i64 0, .int .i64 0, .int .i64 0, .int .i64 0, .int .i64 0, .slice none 0 0, .slice none 0 0, .string (bstr []), .string (bstr [])] 26 (0, 0))], [(b5, .cells #[.int .i64 a0.1, .int .i64 (a0.2.1.getD 0 0), .int .i64 (a0.2.1.getD 1 0), .int .i64 (a0.2.1.getD 2 0), .int .i64 (a0.2.1.getD 3 0), .int .i64 (a0.2.1.getD 4 0), .int .i64 (a0.2.1.getD 5 0), v15, v13, .string a0.2.2.2.2.1, .string a0.2.2.2.2.2] 26 (0, 0))], pool] rfl ?_
  refine o_store (j := 1) (vs := [.string (a0.2.2.2.2.1.extract 0 (min (a0.2.2.2.2.1.size : Int) 80).toNat)]) (cs' := [.int .i64 a0.1, .int .i64 (a0.2.1.getD 0 0), .int .i64 (a0.2.1.getD 1 0), .int .i64 (a0.2.1.getD 2 0), .int .i64 (a0.2.1.getD 3 0), .int .i64 (a0.2.1.getD 4 0), .int .i64 (a0.2.1.getD 5 0), v15, v13, .string (a0.2.2.2.2.1.extract 0 (min (a0.2.2.2.2.1.size : Int) 80).toNat), .string a0.2.2.2.2.2]) rfl rfl rfl z_size9 e14 e6 rfl (ones_cons rfl ones_nil) rfl rfl rfl ?_
  refine st_gs [[(b6, .cells #[.int .i64 0, .int .i64 0, .int .i64 0, .int .i64 0, .int .i64 0, .int .i64 0, .int .i64 0, .slice none 0 0, .slice none 0 0, .string (bstr []), .string (bstr [])] 26 (0, 0))], [(b5, .cells #[.int .i64 a0.1, .int .i64 (a0.2.1.getD 0 0), .int .i64 (a0.2.1.getD 1 0), .int .i64 (a0.2.1.getD 2 0), .int .i64 (a0.2.1.getD 3 0), .int .i64 (a0.2.1.getD 4 0), .int .i64 (a0.2.1.getD 5 0), v15, v13, .string (a0.2.2.2.2.1.extract 0 (min (a0.2.2.2.2.1.size : Int) 80).toNat), .string a0.2.2.2.2.2] 26 (0, 0))], pool] rfl ?_
  exact hk _ _ [[(b5, .cells #[.int .i64 a0.1, .int .i64 (a0.2.1.getD 0 0), .int .i64 (a0.2.1.getD 1 0), .int .i64 (a0.2.1.getD 2 0), .int .i64 (a0.2.1.getD 3 0), .int .i64 (a0.2.1.getD 4 0), .int .i64 (a0.2.1.getD 5 0), v15, v13, .string (a0.2.2.2.2.1.extract 0 (min (a0.2.2.2.2.1.size : Int) 80).toNat), .string a0.2.2.2.2.2] 26 (0, 0))]] (Sto.Le.refl _) trivial (by exact rfl)
 intro ρ' τ22 vals u Fv hl22 hI hu hv hout
 obtain rfl := hI
 refine st_gs [[(b6, .cells #[.int .i64 0, .int .i64 0, .int .i64 0, .int .i64 0, .int .i64 0, .int .i64 0, .int .i64 0, .slice none 0 0, .slice none 0 0, .string (bstr []), .string (bstr [])] 26 (0, 0))], [(b5, .cells #[.int .i64 a0.1, .int .i64 (a0.2.1.getD 0 0), .int .i64 (a0.2.1.getD 1 0), .int .i64 (a0.2.1.getD 2 0), .int .i64 (a0.2.1.getD 3 0), .int .i64 (a0.2.1.getD 4 0), .int .i64 (a0.2.1.getD 5 0), v15, v13, .string (a0.2.2.2.2.1.extract 0 (min (a0.2.2.2.2.1.size : Int) 80).toNat), .string a0.2.2.2.2.2] 26 (0, 0))]] rfl ?_
 refine st_env (ρ' := [(32, .string (a0.2.2.2.2.2.extract 0 (min (a0.2.2.2.2.2.size : Int) 80).toNat)), (1, .pointer (some ⟨b5, 0, none⟩)), (2, .pointer (some ⟨b6, 0, none⟩))]) ⟨(lv4 hv 13 rfl rfl rfl), (hout 1 rfl).trans rfl, (hout 2 rfl).trans rfl, trivial⟩ ?_
 refine ZZ 6 [1, 1] rfl rfl ?_
 refine o_store (j := 0) (vs := [.int .i64 a0.1, .int .i64 (a0.2.1.getD 0 0), .int .i64 (a0.2.1.getD 1 0), .int .i64 (a0.2.1.getD 2 0), .int .i64 (a0.2.1.getD 3 0), .int .i64 (a0.2.1.getD 4 0), .int .i64 (a0.2.1.getD 5 0), v15, v13, .string (a0.2.2.2.2.1.extract 0 (min (a0.2.2.2.2.1.size : Int) 80).toNat), .string (a0.2.2.2.2.2.extract 0 (min (a0.2.2.2.2.2.size : Int) 80).toNat)]) (cs' := [.int .i64 a0.1, .int .i64 (a0.2.1.getD 0 0), .int .i64 (a0.2.1.getD 1 0), .int .i64 (a0.2.1.getD 2 0), .int .i64 (a0.2.1.getD 3 0), .int .i64 (a0.2.1.getD 4 0), .int .i64 (a0.2.1.getD 5 0), v15, v13, .string (a0.2.2.2.2.1.extract 0 (min (a0.2.2.2.2.1.size : Int) 80).toNat), .string (a0.2.2.2.2.2.extract 0 (min (a0.2.2.2.2.2.size : Int) 80).toNat)]) rfl rfl rfl z_size26 rfl rfl rfl (ones_cons rfl (ones_cons rfl (ones_cons rfl (ones_cons rfl (ones_cons rfl (ones_cons rfl (ones_cons rfl (ones_cons (hs16.up hl22).one' (ones_cons (hs14.up hl22).one' (ones_cons rfl (ones_cons rfl ones_nil))))))))))) rfl rfl rfl ?_
 refine st_gs [[(b6, .cells #[.int .i64 a0.1, .int .i64 (a0.2.1.getD 0 0), .int .i64 (a0.2.1.getD 1 0), .int .i64 (a0.2.1.getD 2 0), .int .i64 (a0.2.1.getD 3 0), .int .i64 (a0.2.1.getD 4 0), .int .i64 (a0.2.1.getD 5 0), v15, v13, .string (a0.2.2.2.2.1.extract 0 (min (a0.2.2.2.2.1.size : Int) 80).toNat), .string (a0.2.2.2.2.2.extract 0 (min (a0.2.2.2.2.2.size : Int) 80).toNat)] 26 (0, 0))], [(b5, .cells #[.int .i64 a0.1, .int .i64 (a0.2.1.getD 0 0), .int .i64 (a0.2.1.getD 1 0), .int .i64 (a0.2.1.getD 2 0), .int .i64 (a0.2.1.getD 3 0), .int .i64 (a0.2.1.getD 4 0), .int .i64 (a0.2.1.getD 5 0), v15, v13, .string (a0.2.2.2.2.1.extract 0 (min (a0.2.2.2.2.1.size : Int) 80).toNat), .string (a0.2.2.2.2.2.extract 0 (min (a0.2.2.2.2.2.size : Int) 80).toNat)] 26 (0, 0))]] rfl ?_
 refine st_end ?_
 obtain rfl := Eq.symm h
 exact st_retC (gs' := []) [.agg #[.int .i64 a0.1, .int .i64 (a0.2.1.getD 0 0), .int .i64 (a0.2.1.getD 1 0), .int .i64 (a0.2.1.getD 2 0), .int .i64 (a0.2.1.getD 3 0), .int .i64 (a0.2.1.getD 4 0), .int .i64 (a0.2.1.getD 5 0), v15, v13, .string (a0.2.2.2.2.1.extract 0 (min (a0.2.2.2.2.1.size : Int) 80).toNat), .string (a0.2.2.2.2.2.extract 0 (min (a0.2.2.2.2.2.size : Int) 80).toNat)]] Tryd.func11 ⟨⟨_, _, _, _, rfl, mem_flat 0 rfl, fun w hw => cellOfN (vs := [.int .i64 a0.1, .int .i64 (a0.2.1.getD 0 0), .int .i64 (a0.2.1.getD 1 0), .int .i64 (a0.2.1.getD 2 0), .int .i64 (a0.2.1.getD 3 0), .int .i64 (a0.2.1.getD 4 0), .int .i64 (a0.2.1.getD 5 0), v15, v13, .string (a0.2.2.2.2.1.extract 0 (min (a0.2.2.2.2.1.size : Int) 80).toNat), .string (a0.2.2.2.2.2.extract 0 (min (a0.2.2.2.2.2.size : Int) 80).toNat)]) z_agg26 rfl w hw⟩, trivial⟩ (by simp) (hl17.trans hl22) ⟨_, _, rfl, rfl, (hs16.up hl22), (hs14.up hl22)⟩
theorem field_robot_ok  {r : (ByteArray × Int × Int × Int × Int × Int × Int)} (h : field_robot r) (σ : Sto)  :
    Does Tryd.prog 106 [] σ [] (fun v τ gs => gs = [] ∧ .agg [.string r.1, .int .i64 r.2.1, .int .i64 r.2.2.1, .int .i64 r.2.2.2.1, .int .i64 r.2.2.2.2.1, .int .i64 r.2.2.2.2.2.1, .int .i64 r.2.2.2.2.2.2].toArray = v) := by
 refine call_of Tryd.func106 Tryd.ntmps106 rfl rfl (fun cs fs => ?_)
 refine Z 2 rfl ?_
 refine o_alloc rfl rfl rfl z_zero121 (fun b1 => ?_)
 refine Z 3 rfl ?_
 refine o_build (ps := [(0, [.string (bstr [114, 111, 98, 111, 116])]), (1, [.int .i64 1]), (2, [.int .i64 0]), (3, [.int .i64 0]), (4, [.int .i64 65535]), (5, [.int .i64 1]), (6, [.int .i64 0])]) (cs := [.string (bstr [114, 111, 98, 111, 116]), .int .i64 1, .int .i64 0, .int .i64 0, .int .i64 65535, .int .i64 1, .int .i64 0]) rfl rfl rfl z_struct121 ⟨rfl, ⟨_, (ev_str z_str0), rfl⟩, ⟨rfl, ⟨_, rfl, rfl⟩, ⟨rfl, ⟨_, rfl, rfl⟩, ⟨rfl, ⟨_, rfl, rfl⟩, ⟨rfl, ⟨_, rfl, rfl⟩, ⟨rfl, ⟨_, rfl, rfl⟩, ⟨rfl, ⟨_, rfl, rfl⟩, trivial⟩⟩⟩⟩⟩⟩⟩ rfl ?_
 refine ZZ 2 [0] rfl rfl ?_
 obtain rfl := Eq.symm h
 exact st_retC (gs' := []) [.agg #[.string (bstr [114, 111, 98, 111, 116]), .int .i64 1, .int .i64 0, .int .i64 0, .int .i64 65535, .int .i64 1, .int .i64 0]] Tryd.func106 ⟨⟨_, _, _, _, rfl, mem_flat 0 rfl, fun w hw => cellOfN (vs := [.string (bstr [114, 111, 98, 111, 116]), .int .i64 1, .int .i64 0, .int .i64 0, .int .i64 65535, .int .i64 1, .int .i64 0]) z_agg121 rfl w hw⟩, trivial⟩ (by simp) (Sto.Le.refl _) ⟨rfl, rfl⟩
theorem field_Of_ok {a0 : Int} {r : (List (ByteArray × Int × Int × Int × Int × Int × Int))} (h : field_Of a0 r) (σ : Sto)  :
    Does Tryd.prog 66 [.int .i64 a0] σ [] (fun v τ gs => ∃ (v61 : Value), gs = [] ∧ v61 = v ∧ Sl (kP kS (kP (kI .i64) (kP (kI .i64) (kP (kI .i64) (kP (kI .i64) (kP (kI .i64) (kI .i64))))))) τ v61 r) := by
 refine call_of Tryd.func66 Tryd.ntmps66 rfl rfl (fun cs fs => ?_)
 refine Z 15 rfl ?_
 refine st_if rfl h (fun h => ?_) (fun h => ?_)
 ·refine Z 2 rfl ?_
  obtain ⟨r1, hr2, h⟩ := h
  refine st_call (foot := []) rfl rfl rfl rfl rfl rfl (callV_fn z_en106 (field_robot_ok hr2 σ)) ?_
  rintro vτ3 τ3 gsτ3 hl4 ⟨rfl, rfl⟩
  refine o_build (ps := [(0, [.string (bstr [115, 112, 101, 101, 100])]), (1, [.int .i64 1]), (2, [.int .i64 1]), (3, [.int .i64 1]), (4, [.int .i64 5000]), (5, [.int .i64 1]), (6, [.int .i64 0])]) (cs := [.string (bstr [115, 112, 101, 101, 100]), .int .i64 1, .int .i64 1, .int .i64 1, .int .i64 5000, .int .i64 1, .int .i64 0]) rfl rfl rfl z_struct121 ⟨rfl, ⟨_, (ev_str z_str1), rfl⟩, ⟨rfl, ⟨_, rfl, rfl⟩, ⟨rfl, ⟨_, rfl, rfl⟩, ⟨rfl, ⟨_, rfl, rfl⟩, ⟨rfl, ⟨_, rfl, rfl⟩, ⟨rfl, ⟨_, rfl, rfl⟩, ⟨rfl, ⟨_, rfl, rfl⟩, trivial⟩⟩⟩⟩⟩⟩⟩ rfl ?_
  refine o_build (ps := [(0, [.string (bstr [97, 99, 99, 101, 108])]), (1, [.int .i64 1]), (2, [.int .i64 2]), (3, [.int .i64 1]), (4, [.int .i64 10000]), (5, [.int .i64 2]), (6, [.int .i64 500])]) (cs := [.string (bstr [97, 99, 99, 101, 108]), .int .i64 1, .int .i64 2, .int .i64 1, .int .i64 10000, .int .i64 2, .int .i64 500]) rfl rfl rfl z_struct121 ⟨rfl, ⟨_, (ev_str z_str2), rfl⟩, ⟨rfl, ⟨_, rfl, rfl⟩, ⟨rfl, ⟨_, rfl, rfl⟩, ⟨rfl, ⟨_, rfl, rfl⟩, ⟨rfl, ⟨_, rfl, rfl⟩, ⟨rfl, ⟨_, rfl, rfl⟩, ⟨rfl, ⟨_, rfl, rfl⟩, trivial⟩⟩⟩⟩⟩⟩⟩ rfl ?_
  refine o_build (ps := [(0, [.string (bstr [112, 97, 116, 104])]), (1, [.int .i64 3]), (2, [.int .i64 (-1)]), (3, [.int .i64 1]), (4, [.int .i64 16]), (5, [.int .i64 1]), (6, [.int .i64 0])]) (cs := [.string (bstr [112, 97, 116, 104]), .int .i64 3, .int .i64 (-1), .int .i64 1, .int .i64 16, .int .i64 1, .int .i64 0]) rfl rfl rfl z_struct121 ⟨rfl, ⟨_, (ev_str z_str3), rfl⟩, ⟨rfl, ⟨_, rfl, rfl⟩, ⟨rfl, ⟨_, rfl, rfl⟩, ⟨rfl, ⟨_, rfl, rfl⟩, ⟨rfl, ⟨_, rfl, rfl⟩, ⟨rfl, ⟨_, rfl, rfl⟩, ⟨rfl, ⟨_, rfl, rfl⟩, trivial⟩⟩⟩⟩⟩⟩⟩ rfl ?_
  refine o_build (ps := [(0, [.string (bstr [116, 97, 103])]), (1, [.int .i64 6]), (2, [.int .i64 (-1)]), (3, [.int .i64 0]), (4, [.int .i64 16]), (5, [.int .i64 2]), (6, [.int .i64 0])]) (cs := [.string (bstr [116, 97, 103]), .int .i64 6, .int .i64 (-1), .int .i64 0, .int .i64 16, .int .i64 2, .int .i64 0]) rfl rfl rfl z_struct121 ⟨rfl, ⟨_, (ev_str z_str4), rfl⟩, ⟨rfl, ⟨_, rfl, rfl⟩, ⟨rfl, ⟨_, rfl, rfl⟩, ⟨rfl, ⟨_, rfl, rfl⟩, ⟨rfl, ⟨_, rfl, rfl⟩, ⟨rfl, ⟨_, rfl, rfl⟩, ⟨rfl, ⟨_, rfl, rfl⟩, trivial⟩⟩⟩⟩⟩⟩⟩ rfl ?_
  refine o_litE (eP eS (eP (eI .i64) (eP (eI .i64) (eP (eI .i64) (eP (eI .i64) (eP (eI .i64) (eI .i64))))))) [r1, ((bstr [115, 112, 101, 101, 100]), 1, 1, 1, 5000, 1, 0), ((bstr [97, 99, 99, 101, 108]), 1, 2, 1, 10000, 2, 500), ((bstr [112, 97, 116, 104]), 3, (-1), 1, 16, 1, 0), ((bstr [116, 97, 103]), 6, (-1), 0, 16, 2, 0)] rfl rfl rfl z_slT118 z_zero121 ⟨rfl, ⟨_, rfl, rfl⟩, ⟨rfl, ⟨_, rfl, rfl⟩, ⟨rfl, ⟨_, rfl, rfl⟩, ⟨rfl, ⟨_, rfl, rfl⟩, ⟨rfl, ⟨_, rfl, rfl⟩, trivial⟩⟩⟩⟩⟩ rfl rfl rfl rfl (fun v5 g6 ho7 => ?_)
  refine Z 2 rfl ?_
  refine st_freeze (fun τ8 hl9 hg10 => ?_)
  have hs11 := ho7.freeze hl9 hg10
  obtain rfl := Eq.symm h
  exact st_ret (gs' := []) Tryd.func66 rfl (List.Sublist.refl _) (hl4.trans hl9) ⟨_, rfl, rfl, hs11⟩
 ·refine Z 5 rfl ?_
  refine st_if rfl h (fun h => ?_) (fun h => ?_)
  ·refine Z 2 rfl ?_
   obtain ⟨r13, hr14, h⟩ := h
   refine st_call (foot := []) rfl rfl rfl rfl rfl rfl (callV_fn z_en106 (field_robot_ok hr14 σ)) ?_
   rintro vτ15 τ15 gsτ15 hl16 ⟨rfl, rfl⟩
   refine o_build (ps := [(0, [.string (bstr [114, 101, 97, 115, 111, 110])]), (1, [.int .i64 1]), (2, [.int .i64 1]), (3, [.int .i64 0]), (4, [.int .i64 15]), (5, [.int .i64 1]), (6, [.int .i64 0])]) (cs := [.string (bstr [114, 101, 97, 115, 111, 110]), .int .i64 1, .int .i64 1, .int .i64 0, .int .i64 15, .int .i64 1, .int .i64 0]) rfl rfl rfl z_struct121 ⟨rfl, ⟨_, (ev_str z_str5), rfl⟩, ⟨rfl, ⟨_, rfl, rfl⟩, ⟨rfl, ⟨_, rfl, rfl⟩, ⟨rfl, ⟨_, rfl, rfl⟩, ⟨rfl, ⟨_, rfl, rfl⟩, ⟨rfl, ⟨_, rfl, rfl⟩, ⟨rfl, ⟨_, rfl, rfl⟩, trivial⟩⟩⟩⟩⟩⟩⟩ rfl ?_
   refine o_build (ps := [(0, [.string (bstr [122, 111, 110, 101])]), (1, [.int .i64 1]), (2, [.int .i64 2]), (3, [.int .i64 0]), (4, [.int .i64 4095]), (5, [.int .i64 2]), (6, [.int .i64 0])]) (cs := [.string (bstr [122, 111, 110, 101]), .int .i64 1, .int .i64 2, .int .i64 0, .int .i64 4095, .int .i64 2, .int .i64 0]) rfl rfl rfl z_struct121 ⟨rfl, ⟨_, (ev_str z_str6), rfl⟩, ⟨rfl, ⟨_, rfl, rfl⟩, ⟨rfl, ⟨_, rfl, rfl⟩, ⟨rfl, ⟨_, rfl, rfl⟩, ⟨rfl, ⟨_, rfl, rfl⟩, ⟨rfl, ⟨_, rfl, rfl⟩, ⟨rfl, ⟨_, rfl, rfl⟩, trivial⟩⟩⟩⟩⟩⟩⟩ rfl ?_
   refine o_litE (eP eS (eP (eI .i64) (eP (eI .i64) (eP (eI .i64) (eP (eI .i64) (eP (eI .i64) (eI .i64))))))) [r13, ((bstr [114, 101, 97, 115, 111, 110]), 1, 1, 0, 15, 1, 0), ((bstr [122, 111, 110, 101]), 1, 2, 0, 4095, 2, 0)] rfl rfl rfl z_slT118 z_zero121 ⟨rfl, ⟨_, rfl, rfl⟩, ⟨rfl, ⟨_, rfl, rfl⟩, ⟨rfl, ⟨_, rfl, rfl⟩, trivial⟩⟩⟩ rfl rfl rfl rfl (fun v17 g18 ho19 => ?_)
   refine Z 2 rfl ?_
   refine st_freeze (fun τ20 hl21 hg22 => ?_)
   have hs23 := ho19.freeze hl21 hg22
   obtain rfl := Eq.symm h
   exact st_ret (gs' := []) Tryd.func66 rfl (List.Sublist.refl _) (hl16.trans hl21) ⟨_, rfl, rfl, hs23⟩
  ·refine Z 5 rfl ?_
   refine st_if rfl h (fun h => ?_) (fun h => ?_)
   ·refine Z 2 rfl ?_
    obtain ⟨r25, hr26, h⟩ := h
    refine st_call (foot := []) rfl rfl rfl rfl rfl rfl (callV_fn z_en106 (field_robot_ok hr26 σ)) ?_
    rintro vτ27 τ27 gsτ27 hl28 ⟨rfl, rfl⟩
    refine o_build (ps := [(0, [.string (bstr [122, 111, 110, 101])]), (1, [.int .i64 1]), (2, [.int .i64 1]), (3, [.int .i64 0]), (4, [.int .i64 4095]), (5, [.int .i64 1]), (6, [.int .i64 0])]) (cs := [.string (bstr [122, 111, 110, 101]), .int .i64 1, .int .i64 1, .int .i64 0, .int .i64 4095, .int .i64 1, .int .i64 0]) rfl rfl rfl z_struct121 ⟨rfl, ⟨_, (ev_str z_str6), rfl⟩, ⟨rfl, ⟨_, rfl, rfl⟩, ⟨rfl, ⟨_, rfl, rfl⟩, ⟨rfl, ⟨_, rfl, rfl⟩, ⟨rfl, ⟨_, rfl, rfl⟩, ⟨rfl, ⟨_, rfl, rfl⟩, ⟨rfl, ⟨_, rfl, rfl⟩, trivial⟩⟩⟩⟩⟩⟩⟩ rfl ?_
    refine o_build (ps := [(0, [.string (bstr [108, 101, 97, 115, 101])]), (1, [.int .i64 1]), (2, [.int .i64 2]), (3, [.int .i64 1]), (4, [.int .i64 255]), (5, [.int .i64 2]), (6, [.int .i64 1])]) (cs := [.string (bstr [108, 101, 97, 115, 101]), .int .i64 1, .int .i64 2, .int .i64 1, .int .i64 255, .int .i64 2, .int .i64 1]) rfl rfl rfl z_struct121 ⟨rfl, ⟨_, (ev_str z_str7), rfl⟩, ⟨rfl, ⟨_, rfl, rfl⟩, ⟨rfl, ⟨_, rfl, rfl⟩, ⟨rfl, ⟨_, rfl, rfl⟩, ⟨rfl, ⟨_, rfl, rfl⟩, ⟨rfl, ⟨_, rfl, rfl⟩, ⟨rfl, ⟨_, rfl, rfl⟩, trivial⟩⟩⟩⟩⟩⟩⟩ rfl ?_
    refine o_build (ps := [(0, [.string (bstr [99, 101, 108, 108, 115])]), (1, [.int .i64 4]), (2, [.int .i64 (-1)]), (3, [.int .i64 1]), (4, [.int .i64 32]), (5, [.int .i64 1]), (6, [.int .i64 0])]) (cs := [.string (bstr [99, 101, 108, 108, 115]), .int .i64 4, .int .i64 (-1), .int .i64 1, .int .i64 32, .int .i64 1, .int .i64 0]) rfl rfl rfl z_struct121 ⟨rfl, ⟨_, (ev_str z_str8), rfl⟩, ⟨rfl, ⟨_, rfl, rfl⟩, ⟨rfl, ⟨_, rfl, rfl⟩, ⟨rfl, ⟨_, rfl, rfl⟩, ⟨rfl, ⟨_, rfl, rfl⟩, ⟨rfl, ⟨_, rfl, rfl⟩, ⟨rfl, ⟨_, rfl, rfl⟩, trivial⟩⟩⟩⟩⟩⟩⟩ rfl ?_
    refine o_litE (eP eS (eP (eI .i64) (eP (eI .i64) (eP (eI .i64) (eP (eI .i64) (eP (eI .i64) (eI .i64))))))) [r25, ((bstr [122, 111, 110, 101]), 1, 1, 0, 4095, 1, 0), ((bstr [108, 101, 97, 115, 101]), 1, 2, 1, 255, 2, 1), ((bstr [99, 101, 108, 108, 115]), 4, (-1), 1, 32, 1, 0)] rfl rfl rfl z_slT118 z_zero121 ⟨rfl, ⟨_, rfl, rfl⟩, ⟨rfl, ⟨_, rfl, rfl⟩, ⟨rfl, ⟨_, rfl, rfl⟩, ⟨rfl, ⟨_, rfl, rfl⟩, trivial⟩⟩⟩⟩ rfl rfl rfl rfl (fun v29 g30 ho31 => ?_)
    refine Z 2 rfl ?_
    refine st_freeze (fun τ32 hl33 hg34 => ?_)
    have hs35 := ho31.freeze hl33 hg34
    obtain rfl := Eq.symm h
    exact st_ret (gs' := []) Tryd.func66 rfl (List.Sublist.refl _) (hl28.trans hl33) ⟨_, rfl, rfl, hs35⟩
   ·refine Z 5 rfl ?_
    refine st_if rfl h (fun h => ?_) (fun h => ?_)
    ·refine Z 2 rfl ?_
     obtain ⟨r37, hr38, h⟩ := h
     refine st_call (foot := []) rfl rfl rfl rfl rfl rfl (callV_fn z_en106 (field_robot_ok hr38 σ)) ?_
     rintro vτ39 τ39 gsτ39 hl40 ⟨rfl, rfl⟩
     refine o_build (ps := [(0, [.string (bstr [120])]), (1, [.int .i64 2]), (2, [.int .i64 1]), (3, [.int .i64 (-1000000)]), (4, [.int .i64 1000000]), (5, [.int .i64 1]), (6, [.int .i64 0])]) (cs := [.string (bstr [120]), .int .i64 2, .int .i64 1, .int .i64 (-1000000), .int .i64 1000000, .int .i64 1, .int .i64 0]) rfl rfl rfl z_struct121 ⟨rfl, ⟨_, (ev_str z_str9), rfl⟩, ⟨rfl, ⟨_, rfl, rfl⟩, ⟨rfl, ⟨_, rfl, rfl⟩, ⟨rfl, ⟨_, rfl, rfl⟩, ⟨rfl, ⟨_, rfl, rfl⟩, ⟨rfl, ⟨_, rfl, rfl⟩, ⟨rfl, ⟨_, rfl, rfl⟩, trivial⟩⟩⟩⟩⟩⟩⟩ rfl ?_
     refine o_build (ps := [(0, [.string (bstr [121])]), (1, [.int .i64 2]), (2, [.int .i64 2]), (3, [.int .i64 (-1000000)]), (4, [.int .i64 1000000]), (5, [.int .i64 1]), (6, [.int .i64 0])]) (cs := [.string (bstr [121]), .int .i64 2, .int .i64 2, .int .i64 (-1000000), .int .i64 1000000, .int .i64 1, .int .i64 0]) rfl rfl rfl z_struct121 ⟨rfl, ⟨_, (ev_str z_str10), rfl⟩, ⟨rfl, ⟨_, rfl, rfl⟩, ⟨rfl, ⟨_, rfl, rfl⟩, ⟨rfl, ⟨_, rfl, rfl⟩, ⟨rfl, ⟨_, rfl, rfl⟩, ⟨rfl, ⟨_, rfl, rfl⟩, ⟨rfl, ⟨_, rfl, rfl⟩, trivial⟩⟩⟩⟩⟩⟩⟩ rfl ?_
     refine o_build (ps := [(0, [.string (bstr [104, 101, 97, 100, 105, 110, 103])]), (1, [.int .i64 1]), (2, [.int .i64 3]), (3, [.int .i64 0]), (4, [.int .i64 35999]), (5, [.int .i64 1]), (6, [.int .i64 0])]) (cs := [.string (bstr [104, 101, 97, 100, 105, 110, 103]), .int .i64 1, .int .i64 3, .int .i64 0, .int .i64 35999, .int .i64 1, .int .i64 0]) rfl rfl rfl z_struct121 ⟨rfl, ⟨_, (ev_str z_str11), rfl⟩, ⟨rfl, ⟨_, rfl, rfl⟩, ⟨rfl, ⟨_, rfl, rfl⟩, ⟨rfl, ⟨_, rfl, rfl⟩, ⟨rfl, ⟨_, rfl, rfl⟩, ⟨rfl, ⟨_, rfl, rfl⟩, ⟨rfl, ⟨_, rfl, rfl⟩, trivial⟩⟩⟩⟩⟩⟩⟩ rfl ?_
     refine o_build (ps := [(0, [.string (bstr [98, 97, 116, 116, 101, 114, 121])]), (1, [.int .i64 1]), (2, [.int .i64 4]), (3, [.int .i64 0]), (4, [.int .i64 1000]), (5, [.int .i64 1]), (6, [.int .i64 0])]) (cs := [.string (bstr [98, 97, 116, 116, 101, 114, 121]), .int .i64 1, .int .i64 4, .int .i64 0, .int .i64 1000, .int .i64 1, .int .i64 0]) rfl rfl rfl z_struct121 ⟨rfl, ⟨_, (ev_str z_str12), rfl⟩, ⟨rfl, ⟨_, rfl, rfl⟩, ⟨rfl, ⟨_, rfl, rfl⟩, ⟨rfl, ⟨_, rfl, rfl⟩, ⟨rfl, ⟨_, rfl, rfl⟩, ⟨rfl, ⟨_, rfl, rfl⟩, ⟨rfl, ⟨_, rfl, rfl⟩, trivial⟩⟩⟩⟩⟩⟩⟩ rfl ?_
     refine o_build (ps := [(0, [.string (bstr [115, 117, 114, 101])]), (1, [.int .i64 1]), (2, [.int .i64 5]), (3, [.int .i64 0]), (4, [.int .i64 100]), (5, [.int .i64 2]), (6, [.int .i64 100])]) (cs := [.string (bstr [115, 117, 114, 101]), .int .i64 1, .int .i64 5, .int .i64 0, .int .i64 100, .int .i64 2, .int .i64 100]) rfl rfl rfl z_struct121 ⟨rfl, ⟨_, (ev_str z_str13), rfl⟩, ⟨rfl, ⟨_, rfl, rfl⟩, ⟨rfl, ⟨_, rfl, rfl⟩, ⟨rfl, ⟨_, rfl, rfl⟩, ⟨rfl, ⟨_, rfl, rfl⟩, ⟨rfl, ⟨_, rfl, rfl⟩, ⟨rfl, ⟨_, rfl, rfl⟩, trivial⟩⟩⟩⟩⟩⟩⟩ rfl ?_
     refine o_litE (eP eS (eP (eI .i64) (eP (eI .i64) (eP (eI .i64) (eP (eI .i64) (eP (eI .i64) (eI .i64))))))) [r37, ((bstr [120]), 2, 1, (-1000000), 1000000, 1, 0), ((bstr [121]), 2, 2, (-1000000), 1000000, 1, 0), ((bstr [104, 101, 97, 100, 105, 110, 103]), 1, 3, 0, 35999, 1, 0), ((bstr [98, 97, 116, 116, 101, 114, 121]), 1, 4, 0, 1000, 1, 0), ((bstr [115, 117, 114, 101]), 1, 5, 0, 100, 2, 100)] rfl rfl rfl z_slT118 z_zero121 ⟨rfl, ⟨_, rfl, rfl⟩, ⟨rfl, ⟨_, rfl, rfl⟩, ⟨rfl, ⟨_, rfl, rfl⟩, ⟨rfl, ⟨_, rfl, rfl⟩, ⟨rfl, ⟨_, rfl, rfl⟩, ⟨rfl, ⟨_, rfl, rfl⟩, trivial⟩⟩⟩⟩⟩⟩ rfl rfl rfl rfl (fun v41 g42 ho43 => ?_)
     refine Z 2 rfl ?_
     refine st_freeze (fun τ44 hl45 hg46 => ?_)
     have hs47 := ho43.freeze hl45 hg46
     obtain rfl := Eq.symm h
     exact st_ret (gs' := []) Tryd.func66 rfl (List.Sublist.refl _) (hl40.trans hl45) ⟨_, rfl, rfl, hs47⟩
    ·refine Z 5 rfl ?_
     refine st_if rfl h (fun h => ?_) (fun h => ?_)
     ·refine Z 2 rfl ?_
      obtain ⟨r49, hr50, h⟩ := h
      refine st_call (foot := []) rfl rfl rfl rfl rfl rfl (callV_fn z_en106 (field_robot_ok hr50 σ)) ?_
      rintro vτ51 τ51 gsτ51 hl52 ⟨rfl, rfl⟩
      refine o_build (ps := [(0, [.string (bstr [99, 111, 100, 101])]), (1, [.int .i64 1]), (2, [.int .i64 1]), (3, [.int .i64 1]), (4, [.int .i64 9999]), (5, [.int .i64 1]), (6, [.int .i64 0])]) (cs := [.string (bstr [99, 111, 100, 101]), .int .i64 1, .int .i64 1, .int .i64 1, .int .i64 9999, .int .i64 1, .int .i64 0]) rfl rfl rfl z_struct121 ⟨rfl, ⟨_, (ev_str z_str14), rfl⟩, ⟨rfl, ⟨_, rfl, rfl⟩, ⟨rfl, ⟨_, rfl, rfl⟩, ⟨rfl, ⟨_, rfl, rfl⟩, ⟨rfl, ⟨_, rfl, rfl⟩, ⟨rfl, ⟨_, rfl, rfl⟩, ⟨rfl, ⟨_, rfl, rfl⟩, trivial⟩⟩⟩⟩⟩⟩⟩ rfl ?_
      refine o_build (ps := [(0, [.string (bstr [115, 101, 118, 101, 114, 105, 116, 121])]), (1, [.int .i64 1]), (2, [.int .i64 2]), (3, [.int .i64 0]), (4, [.int .i64 4]), (5, [.int .i64 1]), (6, [.int .i64 0])]) (cs := [.string (bstr [115, 101, 118, 101, 114, 105, 116, 121]), .int .i64 1, .int .i64 2, .int .i64 0, .int .i64 4, .int .i64 1, .int .i64 0]) rfl rfl rfl z_struct121 ⟨rfl, ⟨_, (ev_str z_str15), rfl⟩, ⟨rfl, ⟨_, rfl, rfl⟩, ⟨rfl, ⟨_, rfl, rfl⟩, ⟨rfl, ⟨_, rfl, rfl⟩, ⟨rfl, ⟨_, rfl, rfl⟩, ⟨rfl, ⟨_, rfl, rfl⟩, ⟨rfl, ⟨_, rfl, rfl⟩, trivial⟩⟩⟩⟩⟩⟩⟩ rfl ?_
      refine o_build (ps := [(0, [.string (bstr [112, 97, 114, 116])]), (1, [.int .i64 1]), (2, [.int .i64 3]), (3, [.int .i64 0]), (4, [.int .i64 255]), (5, [.int .i64 2]), (6, [.int .i64 0])]) (cs := [.string (bstr [112, 97, 114, 116]), .int .i64 1, .int .i64 3, .int .i64 0, .int .i64 255, .int .i64 2, .int .i64 0]) rfl rfl rfl z_struct121 ⟨rfl, ⟨_, (ev_str z_str16), rfl⟩, ⟨rfl, ⟨_, rfl, rfl⟩, ⟨rfl, ⟨_, rfl, rfl⟩, ⟨rfl, ⟨_, rfl, rfl⟩, ⟨rfl, ⟨_, rfl, rfl⟩, ⟨rfl, ⟨_, rfl, rfl⟩, ⟨rfl, ⟨_, rfl, rfl⟩, trivial⟩⟩⟩⟩⟩⟩⟩ rfl ?_
      refine o_build (ps := [(0, [.string (bstr [116, 105, 109, 101, 115])]), (1, [.int .i64 1]), (2, [.int .i64 4]), (3, [.int .i64 1]), (4, [.int .i64 1000000]), (5, [.int .i64 2]), (6, [.int .i64 1])]) (cs := [.string (bstr [116, 105, 109, 101, 115]), .int .i64 1, .int .i64 4, .int .i64 1, .int .i64 1000000, .int .i64 2, .int .i64 1]) rfl rfl rfl z_struct121 ⟨rfl, ⟨_, (ev_str z_str17), rfl⟩, ⟨rfl, ⟨_, rfl, rfl⟩, ⟨rfl, ⟨_, rfl, rfl⟩, ⟨rfl, ⟨_, rfl, rfl⟩, ⟨rfl, ⟨_, rfl, rfl⟩, ⟨rfl, ⟨_, rfl, rfl⟩, ⟨rfl, ⟨_, rfl, rfl⟩, trivial⟩⟩⟩⟩⟩⟩⟩ rfl ?_
      refine o_build (ps := [(0, [.string (bstr [116, 101, 120, 116])]), (1, [.int .i64 5]), (2, [.int .i64 (-1)]), (3, [.int .i64 0]), (4, [.int .i64 64]), (5, [.int .i64 1]), (6, [.int .i64 0])]) (cs := [.string (bstr [116, 101, 120, 116]), .int .i64 5, .int .i64 (-1), .int .i64 0, .int .i64 64, .int .i64 1, .int .i64 0]) rfl rfl rfl z_struct121 ⟨rfl, ⟨_, (ev_str z_str18), rfl⟩, ⟨rfl, ⟨_, rfl, rfl⟩, ⟨rfl, ⟨_, rfl, rfl⟩, ⟨rfl, ⟨_, rfl, rfl⟩, ⟨rfl, ⟨_, rfl, rfl⟩, ⟨rfl, ⟨_, rfl, rfl⟩, ⟨rfl, ⟨_, rfl, rfl⟩, trivial⟩⟩⟩⟩⟩⟩⟩ rfl ?_
      refine o_litE (eP eS (eP (eI .i64) (eP (eI .i64) (eP (eI .i64) (eP (eI .i64) (eP (eI .i64) (eI .i64))))))) [r49, ((bstr [99, 111, 100, 101]), 1, 1, 1, 9999, 1, 0), ((bstr [115, 101, 118, 101, 114, 105, 116, 121]), 1, 2, 0, 4, 1, 0), ((bstr [112, 97, 114, 116]), 1, 3, 0, 255, 2, 0), ((bstr [116, 105, 109, 101, 115]), 1, 4, 1, 1000000, 2, 1), ((bstr [116, 101, 120, 116]), 5, (-1), 0, 64, 1, 0)] rfl rfl rfl z_slT118 z_zero121 ⟨rfl, ⟨_, rfl, rfl⟩, ⟨rfl, ⟨_, rfl, rfl⟩, ⟨rfl, ⟨_, rfl, rfl⟩, ⟨rfl, ⟨_, rfl, rfl⟩, ⟨rfl, ⟨_, rfl, rfl⟩, ⟨rfl, ⟨_, rfl, rfl⟩, trivial⟩⟩⟩⟩⟩⟩ rfl rfl rfl rfl (fun v53 g54 ho55 => ?_)
      refine Z 2 rfl ?_
      refine st_freeze (fun τ56 hl57 hg58 => ?_)
      have hs59 := ho55.freeze hl57 hg58
      obtain rfl := Eq.symm h
      exact st_ret (gs' := []) Tryd.func66 rfl (List.Sublist.refl _) (hl52.trans hl57) ⟨_, rfl, rfl, hs59⟩
     ·refine Z 6 rfl ?_
      obtain rfl := Eq.symm h
      exact st_ret (gs' := []) Tryd.func66 rfl (List.Sublist.refl _) (Sto.Le.refl _) ⟨_, rfl, rfl, Sl.nil⟩
theorem msg_many_ok {a0 : Int} {a1 : ByteArray × Int × Int × Int × Int × Int × Int} {r : Int} (h : msg_many a0 a1 r) (σ : Sto)  :
    Does Tryd.prog 146 [.int .i64 a0, .agg [.string a1.1, .int .i64 a1.2.1, .int .i64 a1.2.2.1, .int .i64 a1.2.2.2.1, .int .i64 a1.2.2.2.2.1, .int .i64 a1.2.2.2.2.2.1, .int .i64 a1.2.2.2.2.2.2].toArray] σ [] (fun v τ gs => gs = [] ∧ .int .i64 r = v) := by
 refine call_of Tryd.func146 Tryd.ntmps146 rfl rfl (fun cs fs => ?_)
 refine Z 2 rfl ?_
 refine o_boxC rfl rfl rfl rfl rfl rfl (fun b1 => ?_)
 refine ZZ 12 [0] rfl rfl ?_
 refine st_if rfl h (fun h => ?_) (fun h => ?_)
 ·refine Z 4 rfl ?_
  refine st_ord [] _ rfl ?_
  obtain rfl := Eq.symm h
  exact st_ret (gs' := []) Tryd.func146 rfl (List.Sublist.refl _) (Sto.Le.refl _) ⟨rfl, rfl⟩
 ·refine ZZ 8 [0] rfl rfl ?_
  refine st_if rfl h (fun h => ?_) (fun h => ?_)
  ·refine Z 4 rfl ?_
   refine st_ord [] _ rfl ?_
   obtain rfl := Eq.symm h
   exact st_ret (gs' := []) Tryd.func146 rfl (List.Sublist.refl _) (Sto.Le.refl _) ⟨rfl, rfl⟩
  ·refine Z 6 rfl ?_
   refine st_ord [] _ rfl ?_
   obtain rfl := Eq.symm h
   exact st_ret (gs' := []) Tryd.func146 rfl (List.Sublist.refl _) (Sto.Le.refl _) ⟨rfl, rfl⟩
theorem msg_path_ok {a0 : List (Int × Int)} {a1 : ByteArray × Int × Int × Int × Int × Int × Int} {v1 : Value} {r : Int} (h : msg_path a0 a1 r) (σ : Sto) (hs2 : Sl (kP (kI .i64) (kI .i64)) σ v1 a0) :
    Does Tryd.prog 107 [v1, .agg [.string a1.1, .int .i64 a1.2.1, .int .i64 a1.2.2.1, .int .i64 a1.2.2.2.1, .int .i64 a1.2.2.2.2.1, .int .i64 a1.2.2.2.2.2.1, .int .i64 a1.2.2.2.2.2.2].toArray] σ [] (fun v τ gs => gs = [] ∧ .int .i64 r = v) := by
 refine call_of Tryd.func107 Tryd.ntmps107 rfl rfl (fun cs fs => ?_)
 refine Z 2 rfl ?_
 refine o_boxC rfl rfl rfl rfl rfl rfl (fun b3 => ?_)
 refine Z 6 rfl ?_
 refine o_lenI rfl rfl rfl z_slT23 rfl hs2 ?_
 refine ZZ 1 [0] rfl rfl ?_
 obtain ⟨r4, hr5, h⟩ := h
 refine st_call (foot := []) rfl rfl rfl rfl rfl rfl (callV_fn z_en146 (msg_many_ok hr5 σ)) ?_
 rintro vτ6 τ6 gsτ6 hl7 ⟨rfl, rfl⟩
 refine Z 7 rfl ?_
 refine st_if rfl h (fun h => ?_) (fun h => ?_)
 ·refine Z 5 rfl ?_
  refine st_ord [] _ rfl ?_
  obtain rfl := Eq.symm h
  exact st_ret (gs' := []) Tryd.func107 rfl (List.Sublist.refl _) hl7 ⟨rfl, rfl⟩
 ·refine Z 2 rfl ?_
  refine st_cut (fun ρ τ8 gs => ∃ (s8 : Unit), msg_path_j1 s8 r ∧ τ6.Le τ8 ∧ ESub ρ [(4, .int .i64 0)] ∧ gs = []) ?_ (fun hk8 => ?_)
  ·rintro ρ8 τ8 gs8 ⟨s8, h, hl8, hρ, rfl⟩
   refine st_es hρ ?_
   refine Z 4 rfl ?_
   obtain rfl := Eq.symm h
   exact st_ret (gs' := []) Tryd.func107 rfl (List.Sublist.refl _) (hl7.trans hl8) ⟨rfl, rfl⟩
  refine Z 3 rfl ?_
  refine o_lenI rfl rfl rfl z_slT23 rfl (hs2.up hl7) ?_
  refine Z 2 rfl ?_
  obtain ⟨e9, hL9, hA9⟩ := h
  refine st_ord [] _ rfl ?_
  refine st_loop hL9 (fun (s9 : Int) ρ τ9 gs => τ6.Le τ9 ∧ ESub ρ [(4, .int .i64 0), (15, v1), (16, .int .i64 (a0.length : Int)), (17, .int .i64 s9)] ∧ gs = []) ⟨Sto.Le.refl _, rfl, rfl⟩ ?_
  rintro s9 o9 h he9 ρ9 τ9 gs9 ⟨hl9, hρ, rfl⟩ hn9
  refine st_es hρ ?_
  refine Z 5 rfl ?_
  refine st_if rfl h (fun h => ?_) (fun h => ?_)
  ·refine Z 5 rfl ?_
   obtain ⟨q10, hf11, h⟩ := h
   refine o_index rfl rfl rfl z_slT23 rfl rfl (hs2.up (hl7.trans hl9)) rfl hf11 (fun b12 of13 vs hc14 hrep => ?_)
   obtain ⟨_, _, rfl, rfl, rfl⟩ := hrep
   refine o_loadIN (vs := [.int .i64 q10.1, .int .i64 q10.2]) rfl rfl rfl z_agg46 rfl rfl (celn_part 0 rfl hc14) ?_
   refine o_alloc rfl rfl rfl z_zero46 (fun b15 => ?_)
   refine ZZ 3 [0] rfl rfl ?_
   refine st_cut (fun ρ τ16 gs => ∃ (s16 : Bool), msg_path_j3 s9 s16 o9 ∧ τ9.Le τ16 ∧ ESub ρ [(4, .int .i64 0), (15, v1), (16, .int .i64 (a0.length : Int)), (17, .int .i64 s9), (34, .bool s16)] ∧ gs = []) ?_ (fun hk16 => ?_)
   ·rintro ρ16 τ16 gs16 ⟨s16, h, hl16, hρ, rfl⟩
    refine st_es hρ ?_
    refine st_if rfl h (fun h => ?_) (fun h => ?_)
    ·refine Z 4 rfl ?_
     obtain rfl := he9 _ h
     replace h := hA9
     obtain rfl := Eq.symm h
     exact st_ret (gs' := []) Tryd.func107 rfl (List.Sublist.refl _) ((hl7.trans hl9).trans hl16) ⟨rfl, rfl⟩
    ·refine Z 6 rfl ?_
     exact hn9 _ _ _ _ h ⟨(hl9.trans hl16), rfl, rfl⟩
   refine ZZ 7 [0, 0] rfl rfl ?_
   refine o_mif rfl rfl rfl rfl h (fun h => ?_) (fun h => ?_)
   ·refine Z 8 rfl ?_
    refine st_ord [] _ rfl ?_
    exact hk16 _ _ _ ⟨true, h, (Sto.Le.refl _), rfl, rfl⟩
   ·refine ZZ 8 [0, 0] rfl rfl ?_
    refine st_ord [] _ rfl ?_
    exact hk16 _ _ _ ⟨(decide ((min q10.1 q10.2) < (-1000000))), h, (Sto.Le.refl _), rfl, rfl⟩
  ·refine st_exit rfl ?_
   obtain rfl := he9 _ h
   replace h := hA9
   exact hk8 _ _ _ ⟨(), h, hl9, rfl, rfl⟩
theorem msg_cells_ok {a0 : List Int} {a1 : ByteArray × Int × Int × Int × Int × Int × Int} {v1 : Value} {r : Int} (h : msg_cells a0 a1 r) (σ : Sto) (hs2 : Sl (kI .i64) σ v1 a0) :
    Does Tryd.prog 108 [v1, .agg [.string a1.1, .int .i64 a1.2.1, .int .i64 a1.2.2.1, .int .i64 a1.2.2.2.1, .int .i64 a1.2.2.2.2.1, .int .i64 a1.2.2.2.2.2.1, .int .i64 a1.2.2.2.2.2.2].toArray] σ [] (fun v τ gs => gs = [] ∧ .int .i64 r = v) := by
 refine call_of Tryd.func108 Tryd.ntmps108 rfl rfl (fun cs fs => ?_)
 refine Z 2 rfl ?_
 refine o_boxC rfl rfl rfl rfl rfl rfl (fun b3 => ?_)
 refine Z 6 rfl ?_
 refine o_lenI rfl rfl rfl z_slT24 rfl hs2 ?_
 refine ZZ 1 [0] rfl rfl ?_
 obtain ⟨r4, hr5, h⟩ := h
 refine st_call (foot := []) rfl rfl rfl rfl rfl rfl (callV_fn z_en146 (msg_many_ok hr5 σ)) ?_
 rintro vτ6 τ6 gsτ6 hl7 ⟨rfl, rfl⟩
 refine Z 7 rfl ?_
 refine st_if rfl h (fun h => ?_) (fun h => ?_)
 ·refine Z 5 rfl ?_
  refine st_ord [] _ rfl ?_
  obtain rfl := Eq.symm h
  exact st_ret (gs' := []) Tryd.func108 rfl (List.Sublist.refl _) hl7 ⟨rfl, rfl⟩
 ·refine Z 6 rfl ?_
  refine st_cut (fun ρ τ8 gs => ∃ (s8 : Unit), msg_cells_j1 s8 r ∧ τ6.Le τ8 ∧ ESub ρ [(4, .int .i64 0)] ∧ gs = []) ?_ (fun hk8 => ?_)
  ·rintro ρ8 τ8 gs8 ⟨s8, h, hl8, hρ, rfl⟩
   refine st_es hρ ?_
   refine Z 4 rfl ?_
   obtain rfl := Eq.symm h
   exact st_ret (gs' := []) Tryd.func108 rfl (List.Sublist.refl _) (hl7.trans hl8) ⟨rfl, rfl⟩
  refine Z 3 rfl ?_
  refine o_lenI rfl rfl rfl z_slT24 rfl (hs2.up hl7) ?_
  refine Z 2 rfl ?_
  obtain ⟨e9, hL9, hA9⟩ := h
  refine st_ord [] _ rfl ?_
  refine st_loop hL9 (fun (s9 : Int × Int) ρ τ9 gs => τ6.Le τ9 ∧ ESub ρ [(4, .int .i64 0), (6, .int .i64 s9.1), (16, v1), (17, .int .i64 (a0.length : Int)), (18, .int .i64 s9.2)] ∧ gs = []) ⟨Sto.Le.refl _, rfl, rfl⟩ ?_
  rintro s9 o9 h he9 ρ9 τ9 gs9 ⟨hl9, hρ, rfl⟩ hn9
  refine st_es hρ ?_
  refine Z 5 rfl ?_
  refine st_if rfl h (fun h => ?_) (fun h => ?_)
  ·refine Z 5 rfl ?_
   obtain ⟨q10, hf11, h⟩ := h
   refine o_index rfl rfl rfl z_slT24 rfl rfl (hs2.up (hl7.trans hl9)) rfl hf11 (fun b12 of13 vs hc14 hrep => ?_)
   obtain rfl := hrep
   refine o_loadI (v := .int .i64 q10) rfl rfl rfl z_sc3 rfl (hc14 0 _ rfl) ?_
   refine Z 5 rfl ?_
   refine st_cut (fun ρ τ15 gs => ∃ (s15 : Bool), msg_cells_j3 s9 q10 s15 o9 ∧ τ9.Le τ15 ∧ ESub ρ [(4, .int .i64 0), (6, .int .i64 s9.1), (16, v1), (17, .int .i64 (a0.length : Int)), (18, .int .i64 s9.2), (8, .int .i64 q10), (22, .bool s15)] ∧ gs = []) ?_ (fun hk15 => ?_)
   ·rintro ρ15 τ15 gs15 ⟨s15, h, hl15, hρ, rfl⟩
    refine st_es hρ ?_
    refine st_if rfl h (fun h => ?_) (fun h => ?_)
    ·refine Z 4 rfl ?_
     obtain rfl := he9 _ h
     replace h := hA9
     obtain rfl := Eq.symm h
     exact st_ret (gs' := []) Tryd.func108 rfl (List.Sublist.refl _) ((hl7.trans hl9).trans hl15) ⟨rfl, rfl⟩
    ·refine Z 7 rfl ?_
     refine st_if rfl h (fun h => ?_) (fun h => ?_)
     ·refine Z 4 rfl ?_
      obtain rfl := he9 _ h
      replace h := hA9
      obtain rfl := Eq.symm h
      exact st_ret (gs' := []) Tryd.func108 rfl (List.Sublist.refl _) ((hl7.trans hl9).trans hl15) ⟨rfl, rfl⟩
     ·refine Z 11 rfl ?_
      exact hn9 _ _ _ _ h ⟨(hl9.trans hl15), rfl, rfl⟩
   refine Z 3 rfl ?_
   refine o_mif rfl rfl rfl rfl h (fun h => ?_) (fun h => ?_)
   ·refine Z 5 rfl ?_
    exact hk15 _ _ _ ⟨true, h, (Sto.Le.refl _), rfl, rfl⟩
   ·refine Z 5 rfl ?_
    exact hk15 _ _ _ ⟨(decide (65535 < q10)), h, (Sto.Le.refl _), rfl, rfl⟩
  ·refine st_exit rfl ?_
   obtain rfl := he9 _ h
   replace h := hA9
   exact hk8 _ _ _ ⟨(), h, hl9, rfl, rfl⟩
theorem msg_text_ok {a0 : ByteArray} {a1 : ByteArray × Int × Int × Int × Int × Int × Int} {r : Int} (h : msg_text a0 a1 r) (σ : Sto)  :
    Does Tryd.prog 109 [.string a0, .agg [.string a1.1, .int .i64 a1.2.1, .int .i64 a1.2.2.1, .int .i64 a1.2.2.2.1, .int .i64 a1.2.2.2.2.1, .int .i64 a1.2.2.2.2.2.1, .int .i64 a1.2.2.2.2.2.2].toArray] σ [] (fun v τ gs => gs = [] ∧ .int .i64 r = v) := by
 refine call_of Tryd.func109 Tryd.ntmps109 rfl rfl (fun cs fs => ?_)
 refine Z 2 rfl ?_
 refine o_boxC rfl rfl rfl rfl rfl rfl (fun b1 => ?_)
 refine ZZ 8 [0] rfl rfl ?_
 obtain ⟨r2, hr3, h⟩ := h
 refine st_call (foot := []) rfl rfl rfl rfl rfl rfl (callV_fn z_en146 (msg_many_ok hr3 σ)) ?_
 rintro vτ4 τ4 gsτ4 hl5 ⟨rfl, rfl⟩
 refine Z 7 rfl ?_
 refine st_if rfl h (fun h => ?_) (fun h => ?_)
 ·refine Z 5 rfl ?_
  refine st_ord [] _ rfl ?_
  obtain rfl := Eq.symm h
  exact st_ret (gs' := []) Tryd.func109 rfl (List.Sublist.refl _) hl5 ⟨rfl, rfl⟩
 ·refine Z 2 rfl ?_
  refine st_cut (fun ρ τ6 gs => ∃ (s6 : Unit), msg_text_j1 s6 r ∧ τ4.Le τ6 ∧ ESub ρ [(4, .int .i64 0)] ∧ gs = []) ?_ (fun hk6 => ?_)
  ·rintro ρ6 τ6 gs6 ⟨s6, h, hl6, hρ, rfl⟩
   refine st_es hρ ?_
   refine Z 4 rfl ?_
   obtain rfl := Eq.symm h
   exact st_ret (gs' := []) Tryd.func109 rfl (List.Sublist.refl _) (hl5.trans hl6) ⟨rfl, rfl⟩
  refine Z 3 rfl ?_
  obtain ⟨hf11, h⟩ := h
  refine o_bytes rfl rfl rfl Tryd.underlying9 Tryd.underlying67 Tryd.underlying5 rfl hf11 (fun v7 τ8 hl9 hs10 => ?_)
  refine o_lenI rfl rfl rfl z_slT67 rfl hs10 ?_
  refine Z 2 rfl ?_
  obtain ⟨e12, hL12, hA12⟩ := h
  refine st_ord [] _ rfl ?_
  refine st_loop hL12 (fun (s12 : Int) ρ τ12 gs => τ8.Le τ12 ∧ ESub ρ [(4, .int .i64 0), (16, v7), (17, .int .i64 ((bints a0).length : Int)), (18, .int .i64 s12)] ∧ gs = []) ⟨Sto.Le.refl _, rfl, rfl⟩ ?_
  rintro s12 o12 h he12 ρ12 τ12 gs12 ⟨hl12, hρ, rfl⟩ hn12
  refine st_es hρ ?_
  refine Z 5 rfl ?_
  refine st_if rfl h (fun h => ?_) (fun h => ?_)
  ·refine Z 5 rfl ?_
   obtain ⟨q13, hf14, h⟩ := h
   refine o_index rfl rfl rfl z_slT67 rfl rfl (hs10.up hl12) rfl hf14 (fun b15 of16 vs hc17 hrep => ?_)
   obtain rfl := hrep
   refine o_loadI (v := .int .u8 q13) rfl rfl rfl z_sc5 rfl (hc17 0 _ rfl) ?_
   refine Z 3 rfl ?_
   refine st_cut (fun ρ τ18 gs => ∃ (s18 : Bool), msg_text_j3 s12 s18 o12 ∧ τ12.Le τ18 ∧ ESub ρ [(4, .int .i64 0), (16, v7), (17, .int .i64 ((bints a0).length : Int)), (18, .int .i64 s12), (27, .bool s18)] ∧ gs = []) ?_ (fun hk18 => ?_)
   ·rintro ρ18 τ18 gs18 ⟨s18, h, hl18, hρ, rfl⟩
    refine st_es hρ ?_
    refine st_if rfl h (fun h => ?_) (fun h => ?_)
    ·refine Z 4 rfl ?_
     obtain rfl := he12 _ h
     replace h := hA12
     obtain rfl := Eq.symm h
     exact st_ret (gs' := []) Tryd.func109 rfl (List.Sublist.refl _) (((hl5.trans hl9).trans hl12).trans hl18) ⟨rfl, rfl⟩
    ·refine Z 6 rfl ?_
     exact hn12 _ _ _ _ h ⟨(hl12.trans hl18), rfl, rfl⟩
   refine Z 3 rfl ?_
   refine o_mif rfl rfl rfl rfl h (fun h => ?_) (fun h => ?_)
   ·refine Z 4 rfl ?_
    exact hk18 _ _ _ ⟨true, h, (Sto.Le.refl _), rfl, rfl⟩
   ·refine Z 4 rfl ?_
    exact hk18 _ _ _ ⟨(decide (126 < q13)), h, (Sto.Le.refl _), rfl, rfl⟩
  ·refine st_exit rfl ?_
   obtain rfl := he12 _ h
   replace h := hA12
   exact hk6 _ _ _ ⟨(), h, (hl9.trans hl12), rfl, rfl⟩
theorem msg_wrong_ok {a0 : Int × List Int × List (Int × Int) × List Int × ByteArray × ByteArray} {a1 : ByteArray × Int × Int × Int × Int × Int × Int} {v1 : Value} {v2 : Value} {r : Int} (h : msg_wrong a0 a1 r) (σ : Sto) (hs3 : Sl (kP (kI .i64) (kI .i64)) σ v1 a0.2.2.1) (hs4 : Sl (kI .i64) σ v2 a0.2.2.2.1) :
    Does Tryd.prog 67 [.agg [.int .i64 a0.1, .int .i64 (a0.2.1.getD 0 0), .int .i64 (a0.2.1.getD 1 0), .int .i64 (a0.2.1.getD 2 0), .int .i64 (a0.2.1.getD 3 0), .int .i64 (a0.2.1.getD 4 0), .int .i64 (a0.2.1.getD 5 0), v1, v2, .string a0.2.2.2.2.1, .string a0.2.2.2.2.2].toArray, .agg [.string a1.1, .int .i64 a1.2.1, .int .i64 a1.2.2.1, .int .i64 a1.2.2.2.1, .int .i64 a1.2.2.2.2.1, .int .i64 a1.2.2.2.2.2.1, .int .i64 a1.2.2.2.2.2.2].toArray] σ [] (fun v τ gs => gs = [] ∧ .int .i64 r = v) := by
 refine call_of Tryd.func67 Tryd.ntmps67 rfl rfl (fun cs fs => ?_)
 refine Z 2 rfl ?_
 refine o_box (cs := [.int .i64 a0.1, .int .i64 (a0.2.1.getD 0 0), .int .i64 (a0.2.1.getD 1 0), .int .i64 (a0.2.1.getD 2 0), .int .i64 (a0.2.1.getD 3 0), .int .i64 (a0.2.1.getD 4 0), .int .i64 (a0.2.1.getD 5 0), v1, v2, .string a0.2.2.2.2.1, .string a0.2.2.2.2.2]) rfl rfl rfl rfl rfl (fun b5 => ?_)
 refine o_boxC rfl rfl rfl rfl rfl rfl (fun b6 => ?_)
 refine ZZ 14 [0] rfl rfl ?_
 refine st_if rfl h (fun h => ?_) (fun h => ?_)
 ·refine ZZ 5 [1, 0] rfl rfl ?_
  obtain ⟨r7, hr8, h⟩ := h
  refine st_call (foot := []) rfl rfl rfl rfl rfl rfl (callV_fn z_en107 (msg_path_ok hr8 σ hs3)) ?_
  rintro vτ9 τ9 gsτ9 hl10 ⟨rfl, rfl⟩
  refine Z 2 rfl ?_
  refine st_ord [] _ rfl ?_
  obtain rfl := Eq.symm h
  exact st_ret (gs' := []) Tryd.func67 rfl (List.Sublist.refl _) hl10 ⟨rfl, rfl⟩
 ·refine Z 5 rfl ?_
  refine st_if rfl h (fun h => ?_) (fun h => ?_)
  ·refine ZZ 5 [1, 0] rfl rfl ?_
   obtain ⟨r11, hr12, h⟩ := h
   refine st_call (foot := []) rfl rfl rfl rfl rfl rfl (callV_fn z_en108 (msg_cells_ok hr12 σ hs4)) ?_
   rintro vτ13 τ13 gsτ13 hl14 ⟨rfl, rfl⟩
   refine Z 2 rfl ?_
   refine st_ord [] _ rfl ?_
   obtain rfl := Eq.symm h
   exact st_ret (gs' := []) Tryd.func67 rfl (List.Sublist.refl _) hl14 ⟨rfl, rfl⟩
  ·refine Z 5 rfl ?_
   refine st_if rfl h (fun h => ?_) (fun h => ?_)
   ·refine ZZ 5 [1, 0] rfl rfl ?_
    obtain ⟨r15, hr16, h⟩ := h
    refine st_call (foot := []) rfl rfl rfl rfl rfl rfl (callV_fn z_en109 (msg_text_ok hr16 σ)) ?_
    rintro vτ17 τ17 gsτ17 hl18 ⟨rfl, rfl⟩
    refine Z 2 rfl ?_
    refine st_ord [] _ rfl ?_
    obtain rfl := Eq.symm h
    exact st_ret (gs' := []) Tryd.func67 rfl (List.Sublist.refl _) hl18 ⟨rfl, rfl⟩
   ·refine Z 5 rfl ?_
    refine st_if rfl h (fun h => ?_) (fun h => ?_)
    ·refine ZZ 5 [1, 0] rfl rfl ?_
     obtain ⟨r19, hr20, h⟩ := h
     refine st_call (foot := []) rfl rfl rfl rfl rfl rfl (callV_fn z_en109 (msg_text_ok hr20 σ)) ?_
     rintro vτ21 τ21 gsτ21 hl22 ⟨rfl, rfl⟩
     refine Z 2 rfl ?_
     refine st_ord [] _ rfl ?_
     obtain rfl := Eq.symm h
     exact st_ret (gs' := []) Tryd.func67 rfl (List.Sublist.refl _) hl22 ⟨rfl, rfl⟩
    ·refine ZZ 8 [0] rfl rfl ?_
     obtain ⟨hf23, hf24, h⟩ := h
     refine o_indexA rfl rfl rfl z_arr22 rfl rfl hf23 hf24 ?_
     refine o_loadV (j := 1) (a1.2.2.1.toNat) (f := (Value.int .i64)) (zz := 0) (l := 6) (xs := a0.2.1) [.int .i64 a0.1] [v1, v2, .string a0.2.2.2.2.1, .string a0.2.2.2.2.2] rfl rfl rfl z_sc3 rfl rfl (by simp only [List.length_cons, List.length_nil]; omega) (by omega) ?_
     refine Z 3 rfl ?_
     refine st_cut (fun ρ τ25 gs => ∃ (s25 : Bool), msg_wrong_j1 s25 r ∧ σ.Le τ25 ∧ ESub ρ [(4, .int .i64 0), (46, .bool s25)] ∧ gs = []) ?_ (fun hk25 => ?_)
     ·rintro ρ25 τ25 gs25 ⟨s25, h, hl25, hρ, rfl⟩
      refine st_es hρ ?_
      refine st_if rfl h (fun h => ?_) (fun h => ?_)
      ·refine Z 4 rfl ?_
       obtain rfl := Eq.symm h
       exact st_ret (gs' := []) Tryd.func67 rfl (List.Sublist.refl _) hl25 ⟨rfl, rfl⟩
      ·refine Z 5 rfl ?_
       obtain rfl := Eq.symm h
       exact st_ret (gs' := []) Tryd.func67 rfl (List.Sublist.refl _) hl25 ⟨rfl, rfl⟩
     refine ZZ 5 [0] rfl rfl ?_
     refine o_mif rfl rfl rfl rfl h (fun h => ?_) (fun h => ?_)
     ·refine Z 6 rfl ?_
      refine st_ord [] _ rfl ?_
      exact hk25 _ _ _ ⟨true, h, (Sto.Le.refl _), rfl, rfl⟩
     ·refine ZZ 6 [0] rfl rfl ?_
      refine st_ord [] _ rfl ?_
      exact hk25 _ _ _ ⟨(decide (a1.2.2.2.2.1 < (a0.2.1.getD a1.2.2.1.toNat 0))), h, (Sto.Le.refl _), rfl, rfl⟩
theorem msg_without_ok {a0 : Int × List Int × List (Int × Int) × List Int × ByteArray × ByteArray} {a1 : ByteArray × Int × Int × Int × Int × Int × Int} {v1 : Value} {v2 : Value} {r : (Int × List Int × List (Int × Int) × List Int × ByteArray × ByteArray)} (h : msg_without a0 a1 r) (σ : Sto) (hs3 : Sl (kP (kI .i64) (kI .i64)) σ v1 a0.2.2.1) (hs4 : Sl (kI .i64) σ v2 a0.2.2.2.1) :
    Does Tryd.prog 68 [.agg [.int .i64 a0.1, .int .i64 (a0.2.1.getD 0 0), .int .i64 (a0.2.1.getD 1 0), .int .i64 (a0.2.1.getD 2 0), .int .i64 (a0.2.1.getD 3 0), .int .i64 (a0.2.1.getD 4 0), .int .i64 (a0.2.1.getD 5 0), v1, v2, .string a0.2.2.2.2.1, .string a0.2.2.2.2.2].toArray, .agg [.string a1.1, .int .i64 a1.2.1, .int .i64 a1.2.2.1, .int .i64 a1.2.2.2.1, .int .i64 a1.2.2.2.2.1, .int .i64 a1.2.2.2.2.2.1, .int .i64 a1.2.2.2.2.2.2].toArray] σ [] (fun v τ gs => ∃ (v15 : Value) (v16 : Value), gs = [] ∧ .agg [.int .i64 r.1, .int .i64 (r.2.1.getD 0 0), .int .i64 (r.2.1.getD 1 0), .int .i64 (r.2.1.getD 2 0), .int .i64 (r.2.1.getD 3 0), .int .i64 (r.2.1.getD 4 0), .int .i64 (r.2.1.getD 5 0), v15, v16, .string r.2.2.2.2.1, .string r.2.2.2.2.2].toArray = v ∧ Sl (kP (kI .i64) (kI .i64)) τ v15 r.2.2.1 ∧ Sl (kI .i64) τ v16 r.2.2.2.1) := by
 refine call_of Tryd.func68 Tryd.ntmps68 rfl rfl (fun cs fs => ?_)
 refine Z 2 rfl ?_
 refine o_box (cs := [.int .i64 a0.1, .int .i64 (a0.2.1.getD 0 0), .int .i64 (a0.2.1.getD 1 0), .int .i64 (a0.2.1.getD 2 0), .int .i64 (a0.2.1.getD 3 0), .int .i64 (a0.2.1.getD 4 0), .int .i64 (a0.2.1.getD 5 0), v1, v2, .string a0.2.2.2.2.1, .string a0.2.2.2.2.2]) rfl rfl rfl rfl rfl (fun b5 => ?_)
 refine o_boxC rfl rfl rfl rfl rfl rfl (fun b6 => ?_)
 refine o_alloc rfl rfl rfl z_zero26 (fun b7 => ?_)
 refine Z 2 rfl ?_
 refine st_cut (fun ρ τ8 gs => ∃ (s8 : Int × Int × Int × Int × Int × Int × (List (Int × Int)) × List Int × ByteArray × ByteArray) (v9 : Value) (v11 : Value), msg_without_j1 a0 s8 r ∧ σ.Le τ8 ∧ ESub ρ [(2, .pointer (some ⟨b5, 0, none⟩)), (4, .pointer (some ⟨b7, 0, none⟩))] ∧ gs = [[(b5, .cells #[.int .i64 a0.1, .int .i64 s8.1, .int .i64 s8.2.1, .int .i64 s8.2.2.1, .int .i64 s8.2.2.2.1, .int .i64 s8.2.2.2.2.1, .int .i64 s8.2.2.2.2.2.1, v9, v11, .string s8.2.2.2.2.2.2.2.2.1, .string s8.2.2.2.2.2.2.2.2.2] 26 (0, 0))], [(b7, .cells #[.int .i64 0, .int .i64 0, .int .i64 0, .int .i64 0, .int .i64 0, .int .i64 0, .int .i64 0, .slice none 0 0, .slice none 0 0, .string (bstr []), .string (bstr [])] 26 (0, 0))]] ∧ Sl (kP (kI .i64) (kI .i64)) τ8 v9 s8.2.2.2.2.2.2.1 ∧ Sl (kI .i64) τ8 v11 s8.2.2.2.2.2.2.2.1) ?_ (fun hk8 => ?_)
 ·rintro ρ8 τ8 gs8 ⟨s8, v9, v11, h, hl8, hρ, rfl, hs10, hs12⟩
  refine st_es hρ ?_
  refine ZZ 3 [0] rfl rfl ?_
  refine o_store (j := 1) (vs := [.int .i64 a0.1, .int .i64 s8.1, .int .i64 s8.2.1, .int .i64 s8.2.2.1, .int .i64 s8.2.2.2.1, .int .i64 s8.2.2.2.2.1, .int .i64 s8.2.2.2.2.2.1, v9, v11, .string s8.2.2.2.2.2.2.2.2.1, .string s8.2.2.2.2.2.2.2.2.2]) (cs' := [.int .i64 a0.1, .int .i64 s8.1, .int .i64 s8.2.1, .int .i64 s8.2.2.1, .int .i64 s8.2.2.2.1, .int .i64 s8.2.2.2.2.1, .int .i64 s8.2.2.2.2.2.1, v9, v11, .string s8.2.2.2.2.2.2.2.2.1, .string s8.2.2.2.2.2.2.2.2.2]) rfl rfl rfl z_size26 rfl rfl rfl (ones_cons rfl (ones_cons rfl (ones_cons rfl (ones_cons rfl (ones_cons rfl (ones_cons rfl (ones_cons rfl (ones_cons hs10.one' (ones_cons hs12.one' (ones_cons rfl (ones_cons rfl ones_nil))))))))))) rfl rfl rfl ?_
  refine st_gs [[(b5, .cells #[.int .i64 a0.1, .int .i64 s8.1, .int .i64 s8.2.1, .int .i64 s8.2.2.1, .int .i64 s8.2.2.2.1, .int .i64 s8.2.2.2.2.1, .int .i64 s8.2.2.2.2.2.1, v9, v11, .string s8.2.2.2.2.2.2.2.2.1, .string s8.2.2.2.2.2.2.2.2.2] 26 (0, 0))], [(b7, .cells #[.int .i64 a0.1, .int .i64 s8.1, .int .i64 s8.2.1, .int .i64 s8.2.2.1, .int .i64 s8.2.2.2.1, .int .i64 s8.2.2.2.2.1, .int .i64 s8.2.2.2.2.2.1, v9, v11, .string s8.2.2.2.2.2.2.2.2.1, .string s8.2.2.2.2.2.2.2.2.2] 26 (0, 0))]] rfl ?_
  refine st_end ?_
  obtain rfl := Eq.symm h
  exact st_retC (gs' := []) [.agg #[.int .i64 a0.1, .int .i64 s8.1, .int .i64 s8.2.1, .int .i64 s8.2.2.1, .int .i64 s8.2.2.2.1, .int .i64 s8.2.2.2.2.1, .int .i64 s8.2.2.2.2.2.1, v9, v11, .string s8.2.2.2.2.2.2.2.2.1, .string s8.2.2.2.2.2.2.2.2.2]] Tryd.func68 ⟨⟨_, _, _, _, rfl, mem_flat 1 rfl, fun w hw => cellOfN (vs := [.int .i64 a0.1, .int .i64 s8.1, .int .i64 s8.2.1, .int .i64 s8.2.2.1, .int .i64 s8.2.2.2.1, .int .i64 s8.2.2.2.2.1, .int .i64 s8.2.2.2.2.2.1, v9, v11, .string s8.2.2.2.2.2.2.2.2.1, .string s8.2.2.2.2.2.2.2.2.2]) z_agg26 rfl w hw⟩, trivial⟩ (by simp) hl8 ⟨_, _, rfl, rfl, hs10, hs12⟩
 refine ZZ 11 [1] rfl rfl ?_
 refine st_if rfl h (fun h => ?_) (fun h => ?_)
 ·refine ZZ 5 [2] rfl rfl ?_
  refine st_ord [2, 0] _ rfl ?_
  exact hk8 _ _ _ ⟨((a0.2.1.getD 0 0), (a0.2.1.getD 1 0), (a0.2.1.getD 2 0), (a0.2.1.getD 3 0), (a0.2.1.getD 4 0), (a0.2.1.getD 5 0), [], a0.2.2.2.1, a0.2.2.2.2.1, a0.2.2.2.2.2), _, _, h, (Sto.Le.refl _), rfl, rfl, Sl.nil, hs4⟩
 ·refine Z 5 rfl ?_
  refine st_if rfl h (fun h => ?_) (fun h => ?_)
  ·refine ZZ 5 [2] rfl rfl ?_
   refine st_ord [2, 0] _ rfl ?_
   exact hk8 _ _ _ ⟨((a0.2.1.getD 0 0), (a0.2.1.getD 1 0), (a0.2.1.getD 2 0), (a0.2.1.getD 3 0), (a0.2.1.getD 4 0), (a0.2.1.getD 5 0), a0.2.2.1, [], a0.2.2.2.2.1, a0.2.2.2.2.2), _, _, h, (Sto.Le.refl _), rfl, rfl, hs3, Sl.nil⟩
  ·refine Z 5 rfl ?_
   refine st_if rfl h (fun h => ?_) (fun h => ?_)
   ·refine Z 2 rfl ?_
    refine o_store (j := 2) (vs := [.string (bstr [])]) (cs' := [.int .i64 a0.1, .int .i64 (a0.2.1.getD 0 0), .int .i64 (a0.2.1.getD 1 0), .int .i64 (a0.2.1.getD 2 0), .int .i64 (a0.2.1.getD 3 0), .int .i64 (a0.2.1.getD 4 0), .int .i64 (a0.2.1.getD 5 0), v1, v2, .string (bstr []), .string a0.2.2.2.2.2]) rfl rfl rfl z_size9 rfl (ev_str z_str19) rfl (ones_cons rfl ones_nil) rfl rfl rfl ?_
    refine st_gs [[(b7, .cells #[.int .i64 0, .int .i64 0, .int .i64 0, .int .i64 0, .int .i64 0, .int .i64 0, .int .i64 0, .slice none 0 0, .slice none 0 0, .string (bstr []), .string (bstr [])] 26 (0, 0))], [(b6, .cells #[.string a1.1, .int .i64 a1.2.1, .int .i64 a1.2.2.1, .int .i64 a1.2.2.2.1, .int .i64 a1.2.2.2.2.1, .int .i64 a1.2.2.2.2.2.1, .int .i64 a1.2.2.2.2.2.2] 121 (0, 0))], [(b5, .cells #[.int .i64 a0.1, .int .i64 (a0.2.1.getD 0 0), .int .i64 (a0.2.1.getD 1 0), .int .i64 (a0.2.1.getD 2 0), .int .i64 (a0.2.1.getD 3 0), .int .i64 (a0.2.1.getD 4 0), .int .i64 (a0.2.1.getD 5 0), v1, v2, .string (bstr []), .string a0.2.2.2.2.2] 26 (0, 0))]] rfl ?_
    refine Z 2 rfl ?_
    refine st_ord [2, 0] _ rfl ?_
    exact hk8 _ _ _ ⟨((a0.2.1.getD 0 0), (a0.2.1.getD 1 0), (a0.2.1.getD 2 0), (a0.2.1.getD 3 0), (a0.2.1.getD 4 0), (a0.2.1.getD 5 0), a0.2.2.1, a0.2.2.2.1, (bstr []), a0.2.2.2.2.2), _, _, h, (Sto.Le.refl _), rfl, rfl, hs3, hs4⟩
   ·refine Z 5 rfl ?_
    refine st_if rfl h (fun h => ?_) (fun h => ?_)
    ·refine Z 2 rfl ?_
     refine o_store (j := 2) (vs := [.string (bstr [])]) (cs' := [.int .i64 a0.1, .int .i64 (a0.2.1.getD 0 0), .int .i64 (a0.2.1.getD 1 0), .int .i64 (a0.2.1.getD 2 0), .int .i64 (a0.2.1.getD 3 0), .int .i64 (a0.2.1.getD 4 0), .int .i64 (a0.2.1.getD 5 0), v1, v2, .string a0.2.2.2.2.1, .string (bstr [])]) rfl rfl rfl z_size9 rfl (ev_str z_str19) rfl (ones_cons rfl ones_nil) rfl rfl rfl ?_
     refine st_gs [[(b7, .cells #[.int .i64 0, .int .i64 0, .int .i64 0, .int .i64 0, .int .i64 0, .int .i64 0, .int .i64 0, .slice none 0 0, .slice none 0 0, .string (bstr []), .string (bstr [])] 26 (0, 0))], [(b6, .cells #[.string a1.1, .int .i64 a1.2.1, .int .i64 a1.2.2.1, .int .i64 a1.2.2.2.1, .int .i64 a1.2.2.2.2.1, .int .i64 a1.2.2.2.2.2.1, .int .i64 a1.2.2.2.2.2.2] 121 (0, 0))], [(b5, .cells #[.int .i64 a0.1, .int .i64 (a0.2.1.getD 0 0), .int .i64 (a0.2.1.getD 1 0), .int .i64 (a0.2.1.getD 2 0), .int .i64 (a0.2.1.getD 3 0), .int .i64 (a0.2.1.getD 4 0), .int .i64 (a0.2.1.getD 5 0), v1, v2, .string a0.2.2.2.2.1, .string (bstr [])] 26 (0, 0))]] rfl ?_
     refine Z 2 rfl ?_
     refine st_ord [2, 0] _ rfl ?_
     exact hk8 _ _ _ ⟨((a0.2.1.getD 0 0), (a0.2.1.getD 1 0), (a0.2.1.getD 2 0), (a0.2.1.getD 3 0), (a0.2.1.getD 4 0), (a0.2.1.getD 5 0), a0.2.2.1, a0.2.2.2.1, a0.2.2.2.2.1, (bstr [])), _, _, h, (Sto.Le.refl _), rfl, rfl, hs3, hs4⟩
    ·refine ZZ 4 [1] rfl rfl ?_
     obtain ⟨hf13, hf14, h⟩ := h
     refine o_indexA rfl rfl rfl z_arr22 rfl rfl hf13 hf14 ?_
     refine o_storeV (j := 2) (a1.2.2.1.toNat) (f := (Value.int .i64)) (zz := 0) (a := 0) (l := 6) (xs := a0.2.1) [.int .i64 a0.1] [v1, v2, .string a0.2.2.2.2.1, .string a0.2.2.2.2.2] rfl rfl rfl z_size3 rfl rfl rfl rfl rfl (by simp only [List.length_cons, List.length_nil]; omega) (by omega) ?_
     refine st_gs [[(b7, .cells #[.int .i64 0, .int .i64 0, .int .i64 0, .int .i64 0, .int .i64 0, .int .i64 0, .int .i64 0, .slice none 0 0, .slice none 0 0, .string (bstr []), .string (bstr [])] 26 (0, 0))], [(b6, .cells #[.string a1.1, .int .i64 a1.2.1, .int .i64 a1.2.2.1, .int .i64 a1.2.2.2.1, .int .i64 a1.2.2.2.2.1, .int .i64 a1.2.2.2.2.2.1, .int .i64 a1.2.2.2.2.2.2] 121 (0, 0))], [(b5, .cells #[.int .i64 a0.1, .int .i64 ((putN 6 0 a0.2.1 a1.2.2.1.toNat 0).getD 0 0), .int .i64 ((putN 6 0 a0.2.1 a1.2.2.1.toNat 0).getD 1 0), .int .i64 ((putN 6 0 a0.2.1 a1.2.2.1.toNat 0).getD 2 0), .int .i64 ((putN 6 0 a0.2.1 a1.2.2.1.toNat 0).getD 3 0), .int .i64 ((putN 6 0 a0.2.1 a1.2.2.1.toNat 0).getD 4 0), .int .i64 ((putN 6 0 a0.2.1 a1.2.2.1.toNat 0).getD 5 0), v1, v2, .string a0.2.2.2.2.1, .string a0.2.2.2.2.2] 26 (0, 0))]] rfl ?_
     refine Z 2 rfl ?_
     refine st_ord [2, 0] _ rfl ?_
     exact hk8 _ _ _ ⟨(((putN 6 0 a0.2.1 a1.2.2.1.toNat 0).getD 0 0), ((putN 6 0 a0.2.1 a1.2.2.1.toNat 0).getD 1 0), ((putN 6 0 a0.2.1 a1.2.2.1.toNat 0).getD 2 0), ((putN 6 0 a0.2.1 a1.2.2.1.toNat 0).getD 3 0), ((putN 6 0 a0.2.1 a1.2.2.1.toNat 0).getD 4 0), ((putN 6 0 a0.2.1 a1.2.2.1.toNat 0).getD 5 0), a0.2.2.1, a0.2.2.2.1, a0.2.2.2.2.1, a0.2.2.2.2.2), _, _, h, (Sto.Le.refl _), rfl, rfl, hs3, hs4⟩
theorem slices_Equal_msg_Point_msg_Point_ok {a0 : List (Int × Int)} {a1 : List (Int × Int)} {v1 : Value} {v3 : Value} {r : Bool} (h : slices_Equal_msg_Point_msg_Point a0 a1 r) (σ : Sto) (hs2 : Sl (kP (kI .i64) (kI .i64)) σ v1 a0) (hs4 : Sl (kP (kI .i64) (kI .i64)) σ v3 a1) :
    Does Tryd.prog 72 [v1, v3] σ [] (fun v τ gs => gs = [] ∧ .bool r = v) := by
 refine call_of Tryd.func72 Tryd.ntmps72 rfl rfl (fun cs fs => ?_)
 refine Z 8 rfl ?_
 refine o_lenI rfl rfl rfl z_slT23 rfl hs2 ?_
 refine o_move rfl rfl rfl rfl ?_
 refine o_lenI rfl rfl rfl z_slT23 rfl hs4 ?_
 refine Z 2 rfl ?_
 refine st_if rfl h (fun h => ?_) (fun h => ?_)
 ·refine Z 4 rfl ?_
  obtain rfl := Eq.symm h
  exact st_ret (gs' := []) Tryd.func72 rfl (List.Sublist.refl _) (Sto.Le.refl _) ⟨rfl, rfl⟩
 ·refine Z 2 rfl ?_
  refine st_cut (fun ρ τ5 gs => ∃ (s5 : Unit), slices_Equal_msg_Point_msg_Point_j1 s5 r ∧ σ.Le τ5 ∧ ESub ρ [(4, .bool false)] ∧ gs = []) ?_ (fun hk5 => ?_)
  ·rintro ρ5 τ5 gs5 ⟨s5, h, hl5, hρ, rfl⟩
   refine st_es hρ ?_
   refine Z 4 rfl ?_
   obtain rfl := Eq.symm h
   exact st_ret (gs' := []) Tryd.func72 rfl (List.Sublist.refl _) hl5 ⟨rfl, rfl⟩
  refine Z 3 rfl ?_
  refine o_lenI rfl rfl rfl z_slT23 rfl hs2 ?_
  refine Z 2 rfl ?_
  obtain ⟨e6, hL6, hA6⟩ := h
  refine st_loop hL6 (fun (s6 : Int) ρ τ6 gs => σ.Le τ6 ∧ ESub ρ [(0, v1), (1, v3), (4, .bool false), (12, .int .i64 (a0.length : Int)), (13, .int .i64 s6)] ∧ gs = []) ⟨Sto.Le.refl _, rfl, rfl⟩ ?_
  rintro s6 o6 h he6 ρ6 τ6 gs6 ⟨hl6, hρ, rfl⟩ hn6
  refine st_es hρ ?_
  refine Z 5 rfl ?_
  refine st_if rfl h (fun h => ?_) (fun h => ?_)
  ·refine Z 9 rfl ?_
   obtain ⟨q7, hf8, q12, hf13, h⟩ := h
   refine st_draw 9 (dl [.v (v1), .v (.int .i64 s6), .t fun τ v => ∃ (b9 : Nat) (of10 : Nat) (vsb9 : List Value), (.pointer (some ⟨b9, of10, none⟩) : Value) = v ∧ CelN τ ⟨b9, of10, none⟩ vsb9 ∧ (kP (kI .i64) (kI .i64)).rep τ vsb9 q7, .v (.agg #[.int .i64 q7.1, .int .i64 q7.2]), .v (v3), .v (.int .i64 s6), .t fun τ v => ∃ (b14 : Nat) (of15 : Nat) (vsb14 : List Value), (.pointer (some ⟨b14, of15, none⟩) : Value) = v ∧ CelN τ ⟨b14, of15, none⟩ vsb14 ∧ (kP (kI .i64) (kI .i64)).rep τ vsb14 q12, .v (.agg #[.int .i64 q12.1, .int .i64 q12.2]), .v (.bool (!((decide (q7.1 = q12.1)) && ((decide (q7.2 = q12.2)) && true))))]) (fun _ _ => []) z_mix rfl (dl_mono ⟨fun _ _ _ hl ⟨b9, of10, vsb9, hv, hc11, hrepb9⟩ => ⟨b9, of10, vsb9, hv, hc11.up hl, Kd.mono _ hl hrepb9⟩, ⟨fun _ _ _ hl ⟨b14, of15, vsb14, hv, hc16, hrepb14⟩ => ⟨b14, of15, vsb14, hv, hc16.up hl, Kd.mono _ hl hrepb14⟩, trivial⟩⟩) (allB_cons (allB_cons (allB_cons (allB_cons (allB_cons (allB_cons (allB_cons (allB_cons (allB_cons allB_nil (p1 dA)) (p1 dA)) ?_) ?_) (p1 dA)) (p1 dA)) ?_) ?_) ?_) ?_
   ·intro ρ' τ pool rs hl hd hout hk
    obtain ⟨_, e0, rfl⟩ := hd 0 rfl
    obtain ⟨_, e1, rfl⟩ := hd 1 rfl
    refine o_index rfl rfl rfl z_slT23 rfl e0 (hs2.up (hl6.trans hl)) e1 hf8 (fun b9 of10 vsb9 hc11 hrepb9 => ?_)
    exact st_addNil (hk _ _ (Sto.Le.refl _) ⟨b9, of10, _, rfl, hc11, hrepb9⟩)
   ·intro ρ' τ pool rs hl hd hout hk
    obtain ⟨_, e2, b9, of10, vsb9, rfl, hc11, hrepb9⟩ := hd 2 rfl
    have hrepb9 := hrepb9
    obtain ⟨_, _, rfl, rfl, rfl⟩ := hrepb9
    refine o_loadIN (vs := [.int .i64 q7.1, .int .i64 q7.2]) rfl rfl rfl z_agg46 e2 rfl (celn_part 0 rfl hc11) ?_
    exact st_addNil (hk _ _ (Sto.Le.refl _) rfl)
   ·intro ρ' τ pool rs hl hd hout hk
    obtain ⟨_, e4, rfl⟩ := hd 4 rfl
    obtain ⟨_, e5, rfl⟩ := hd 5 rfl
    refine o_index rfl rfl rfl z_slT23 rfl e4 (hs4.up (hl6.trans hl)) e5 hf13 (fun b14 of15 vsb14 hc16 hrepb14 => ?_)
    exact st_addNil (hk _ _ (Sto.Le.refl _) ⟨b14, of15, _, rfl, hc16, hrepb14⟩)
   ·intro ρ' τ pool rs hl hd hout hk
    obtain ⟨_, e6, b14, of15, vsb14, rfl, hc16, hrepb14⟩ := hd 6 rfl
    have hrepb14 := hrepb14
    obtain ⟨_, _, rfl, rfl, rfl⟩ := hrepb14
    refine o_loadIN (vs := [.int .i64 q12.1, .int .i64 q12.2]) rfl rfl rfl z_agg46 e6 rfl (celn_part 0 rfl hc16) ?_
    exact st_addNil (hk _ _ (Sto.Le.refl _) rfl)
   ·intro ρ' τ pool rs hl hd hout hk
    obtain ⟨_, e3, rfl⟩ := hd 3 rfl
    obtain ⟨_, e7, rfl⟩ := hd 7 rfl
    refine o_aggEq (b := ((decide (q7.1 = q12.1)) && ((decide (q7.2 = q12.2)) && true))) (e := (!((decide (q7.1 = q12.1)) && ((decide (q7.2 = q12.2)) && true)))) rfl rfl rfl z_eqg46 e3 e7 (fun w => by refine eq_struct Tryd.underlying46 z_held46 ?_; refine eqf_cons (r := (decide (q7.1 = q12.1))) (r' := ((decide (q7.2 = q12.2)) && true)) rfl (part_one z_sc3 rfl) (part_one z_sc3 rfl) (by exact eq_int Tryd.underlying3 _ _) ?_; refine eqf_cons (r := (decide (q7.2 = q12.2))) (r' := true) rfl (part_one z_sc3 rfl) (part_one z_sc3 rfl) (by exact eq_int Tryd.underlying3 _ _) ?_; exact eqf_nil _ _ _ _) rfl ?_
    exact st_addNil (hk _ _ (Sto.Le.refl _) rfl)
   intro ρ' τ17 vals hl17 hv hout
   refine st_ord [] _ rfl ?_
   refine st_env (ρ' := [(24, .bool (!((decide (q7.1 = q12.1)) && ((decide (q7.2 = q12.2)) && true)))), (0, v1), (1, v3), (4, .bool false), (12, .int .i64 (a0.length : Int)), (13, .int .i64 s6)]) ⟨(lv1 hv 8 rfl rfl), (hout 0 rfl).trans rfl, (hout 1 rfl).trans rfl, (hout 4 rfl).trans rfl, (hout 12 rfl).trans rfl, (hout 13 rfl).trans rfl, trivial⟩ ?_
   refine st_end ?_
   refine st_if rfl h (fun h => ?_) (fun h => ?_)
   ·refine Z 4 rfl ?_
    obtain rfl := he6 _ h
    replace h := hA6
    obtain rfl := Eq.symm h
    exact st_ret (gs' := []) Tryd.func72 rfl (List.Sublist.refl _) (hl6.trans hl17) ⟨rfl, rfl⟩
   ·refine Z 6 rfl ?_
    exact hn6 _ _ _ _ h ⟨(hl6.trans hl17), rfl, rfl⟩
  ·refine st_exit rfl ?_
   obtain rfl := he6 _ h
   replace h := hA6
   exact hk5 _ _ _ ⟨(), h, hl6, rfl, rfl⟩
theorem slices_Equal_int_int_ok {a0 : List Int} {a1 : List Int} {v1 : Value} {v3 : Value} {r : Bool} (h : slices_Equal_int_int a0 a1 r) (σ : Sto) (hs2 : Sl (kI .i64) σ v1 a0) (hs4 : Sl (kI .i64) σ v3 a1) :
    Does Tryd.prog 73 [v1, v3] σ [] (fun v τ gs => gs = [] ∧ .bool r = v) := by
 refine call_of Tryd.func73 Tryd.ntmps73 rfl rfl (fun cs fs => ?_)
 refine Z 8 rfl ?_
 refine o_lenI rfl rfl rfl z_slT24 rfl hs2 ?_
 refine o_move rfl rfl rfl rfl ?_
 refine o_lenI rfl rfl rfl z_slT24 rfl hs4 ?_
 refine Z 2 rfl ?_
 refine st_if rfl h (fun h => ?_) (fun h => ?_)
 ·refine Z 4 rfl ?_
  obtain rfl := Eq.symm h
  exact st_ret (gs' := []) Tryd.func73 rfl (List.Sublist.refl _) (Sto.Le.refl _) ⟨rfl, rfl⟩
 ·refine Z 2 rfl ?_
  refine st_cut (fun ρ τ5 gs => ∃ (s5 : Unit), slices_Equal_int_int_j1 s5 r ∧ σ.Le τ5 ∧ ESub ρ [(4, .bool false)] ∧ gs = []) ?_ (fun hk5 => ?_)
  ·rintro ρ5 τ5 gs5 ⟨s5, h, hl5, hρ, rfl⟩
   refine st_es hρ ?_
   refine Z 4 rfl ?_
   obtain rfl := Eq.symm h
   exact st_ret (gs' := []) Tryd.func73 rfl (List.Sublist.refl _) hl5 ⟨rfl, rfl⟩
  refine Z 3 rfl ?_
  refine o_lenI rfl rfl rfl z_slT24 rfl hs2 ?_
  refine Z 2 rfl ?_
  obtain ⟨e6, hL6, hA6⟩ := h
  refine st_loop hL6 (fun (s6 : Int) ρ τ6 gs => σ.Le τ6 ∧ ESub ρ [(0, v1), (1, v3), (4, .bool false), (12, .int .i64 (a0.length : Int)), (13, .int .i64 s6)] ∧ gs = []) ⟨Sto.Le.refl _, rfl, rfl⟩ ?_
  rintro s6 o6 h he6 ρ6 τ6 gs6 ⟨hl6, hρ, rfl⟩ hn6
  refine st_es hρ ?_
  refine Z 5 rfl ?_
  refine st_if rfl h (fun h => ?_) (fun h => ?_)
  ·refine Z 9 rfl ?_
   obtain ⟨q7, hf8, q12, hf13, h⟩ := h
   refine st_draw 9 (dl [.v (v1), .v (.int .i64 s6), .t fun τ v => ∃ (b9 : Nat) (of10 : Nat) (vsb9 : List Value), (.pointer (some ⟨b9, of10, none⟩) : Value) = v ∧ CelN τ ⟨b9, of10, none⟩ vsb9 ∧ (kI .i64).rep τ vsb9 q7, .v (.int .i64 q7), .v (v3), .v (.int .i64 s6), .t fun τ v => ∃ (b14 : Nat) (of15 : Nat) (vsb14 : List Value), (.pointer (some ⟨b14, of15, none⟩) : Value) = v ∧ CelN τ ⟨b14, of15, none⟩ vsb14 ∧ (kI .i64).rep τ vsb14 q12, .v (.int .i64 q12), .v (.bool (!(decide (q7 = q12))))]) (fun _ _ => []) z_mix rfl (dl_mono ⟨fun _ _ _ hl ⟨b9, of10, vsb9, hv, hc11, hrepb9⟩ => ⟨b9, of10, vsb9, hv, hc11.up hl, Kd.mono _ hl hrepb9⟩, ⟨fun _ _ _ hl ⟨b14, of15, vsb14, hv, hc16, hrepb14⟩ => ⟨b14, of15, vsb14, hv, hc16.up hl, Kd.mono _ hl hrepb14⟩, trivial⟩⟩) (allB_cons (allB_cons (allB_cons (allB_cons (allB_cons (allB_cons (allB_cons (allB_cons (allB_cons allB_nil (p1 dA)) (p1 dA)) ?_) ?_) (p1 dA)) (p1 dA)) ?_) ?_) (p1 dA)) ?_
   ·intro ρ' τ pool rs hl hd hout hk
    obtain ⟨_, e0, rfl⟩ := hd 0 rfl
    obtain ⟨_, e1, rfl⟩ := hd 1 rfl
    refine o_index rfl rfl rfl z_slT24 rfl e0 (hs2.up (hl6.trans hl)) e1 hf8 (fun b9 of10 vsb9 hc11 hrepb9 => ?_)
    exact st_addNil (hk _ _ (Sto.Le.refl _) ⟨b9, of10, _, rfl, hc11, hrepb9⟩)
   ·intro ρ' τ pool rs hl hd hout hk
    obtain ⟨_, e2, b9, of10, vsb9, rfl, hc11, hrepb9⟩ := hd 2 rfl
    have hrepb9 := hrepb9
    obtain rfl := hrepb9
    refine o_loadI (v := .int .i64 q7) rfl rfl rfl z_sc3 e2 (hc11 0 _ rfl) ?_
    exact st_addNil (hk _ _ (Sto.Le.refl _) rfl)
   ·intro ρ' τ pool rs hl hd hout hk
    obtain ⟨_, e4, rfl⟩ := hd 4 rfl
    obtain ⟨_, e5, rfl⟩ := hd 5 rfl
    refine o_index rfl rfl rfl z_slT24 rfl e4 (hs4.up (hl6.trans hl)) e5 hf13 (fun b14 of15 vsb14 hc16 hrepb14 => ?_)
    exact st_addNil (hk _ _ (Sto.Le.refl _) ⟨b14, of15, _, rfl, hc16, hrepb14⟩)
   ·intro ρ' τ pool rs hl hd hout hk
    obtain ⟨_, e6, b14, of15, vsb14, rfl, hc16, hrepb14⟩ := hd 6 rfl
    have hrepb14 := hrepb14
    obtain rfl := hrepb14
    refine o_loadI (v := .int .i64 q12) rfl rfl rfl z_sc3 e6 (hc16 0 _ rfl) ?_
    exact st_addNil (hk _ _ (Sto.Le.refl _) rfl)
   intro ρ' τ17 vals hl17 hv hout
   refine st_ord [] _ rfl ?_
   refine st_env (ρ' := [(24, .bool (!(decide (q7 = q12)))), (0, v1), (1, v3), (4, .bool false), (12, .int .i64 (a0.length : Int)), (13, .int .i64 s6)]) ⟨(lv1 hv 8 rfl rfl), (hout 0 rfl).trans rfl, (hout 1 rfl).trans rfl, (hout 4 rfl).trans rfl, (hout 12 rfl).trans rfl, (hout 13 rfl).trans rfl, trivial⟩ ?_
   refine st_end ?_
   refine st_if rfl h (fun h => ?_) (fun h => ?_)
   ·refine Z 4 rfl ?_
    obtain rfl := he6 _ h
    replace h := hA6
    obtain rfl := Eq.symm h
    exact st_ret (gs' := []) Tryd.func73 rfl (List.Sublist.refl _) (hl6.trans hl17) ⟨rfl, rfl⟩
   ·refine Z 6 rfl ?_
    exact hn6 _ _ _ _ h ⟨(hl6.trans hl17), rfl, rfl⟩
  ·refine st_exit rfl ?_
   obtain rfl := he6 _ h
   replace h := hA6
   exact hk5 _ _ _ ⟨(), h, hl6, rfl, rfl⟩
theorem msg_Same_ok {a0 : Int × List Int × List (Int × Int) × List Int × ByteArray × ByteArray} {a1 : Int × List Int × List (Int × Int) × List Int × ByteArray × ByteArray} {v1 : Value} {v2 : Value} {v5 : Value} {v6 : Value} {r : Bool} (h : msg_Same a0 a1 r) (σ : Sto) (hs3 : Sl (kP (kI .i64) (kI .i64)) σ v1 a0.2.2.1) (hs4 : Sl (kI .i64) σ v2 a0.2.2.2.1) (hs7 : Sl (kP (kI .i64) (kI .i64)) σ v5 a1.2.2.1) (hs8 : Sl (kI .i64) σ v6 a1.2.2.2.1) :
    Does Tryd.prog 15 [.agg [.int .i64 a0.1, .int .i64 (a0.2.1.getD 0 0), .int .i64 (a0.2.1.getD 1 0), .int .i64 (a0.2.1.getD 2 0), .int .i64 (a0.2.1.getD 3 0), .int .i64 (a0.2.1.getD 4 0), .int .i64 (a0.2.1.getD 5 0), v1, v2, .string a0.2.2.2.2.1, .string a0.2.2.2.2.2].toArray, .agg [.int .i64 a1.1, .int .i64 (a1.2.1.getD 0 0), .int .i64 (a1.2.1.getD 1 0), .int .i64 (a1.2.1.getD 2 0), .int .i64 (a1.2.1.getD 3 0), .int .i64 (a1.2.1.getD 4 0), .int .i64 (a1.2.1.getD 5 0), v5, v6, .string a1.2.2.2.2.1, .string a1.2.2.2.2.2].toArray] σ [] (fun v τ gs => gs = [] ∧ .bool r = v) := by
 refine call_of Tryd.func15 Tryd.ntmps15 rfl rfl (fun cs fs => ?_)
 refine Z 2 rfl ?_
 refine o_box (cs := [.int .i64 a0.1, .int .i64 (a0.2.1.getD 0 0), .int .i64 (a0.2.1.getD 1 0), .int .i64 (a0.2.1.getD 2 0), .int .i64 (a0.2.1.getD 3 0), .int .i64 (a0.2.1.getD 4 0), .int .i64 (a0.2.1.getD 5 0), v1, v2, .string a0.2.2.2.2.1, .string a0.2.2.2.2.2]) rfl rfl rfl rfl rfl (fun b9 => ?_)
 refine o_box (cs := [.int .i64 a1.1, .int .i64 (a1.2.1.getD 0 0), .int .i64 (a1.2.1.getD 1 0), .int .i64 (a1.2.1.getD 2 0), .int .i64 (a1.2.1.getD 3 0), .int .i64 (a1.2.1.getD 4 0), .int .i64 (a1.2.1.getD 5 0), v5, v6, .string a1.2.2.2.2.1, .string a1.2.2.2.2.2]) rfl rfl rfl rfl rfl (fun b10 => ?_)
 refine Z 3 rfl ?_
 refine st_cut (fun ρ τ11 gs => ∃ (s11 : Bool), msg_Same_j1 s11 r ∧ σ.Le τ11 ∧ ESub ρ [(4, .bool s11)] ∧ gs = []) ?_ (fun hk11 => ?_)
 ·rintro ρ11 τ11 gs11 ⟨s11, h, hl11, hρ, rfl⟩
  refine st_es hρ ?_
  obtain rfl := Eq.symm h
  exact st_ret (gs' := []) Tryd.func15 rfl (List.Sublist.refl _) hl11 ⟨rfl, rfl⟩
 refine ZZ 6 [1, 0] rfl rfl ?_
 refine o_mif rfl rfl rfl rfl h (fun h => ?_) (fun h => ?_)
 ·refine ZZ 4 [1, 0] rfl rfl ?_
  refine o_aggEq (b := (eqN 6 0 a0.2.1 a1.2.1)) (e := (eqN 6 0 a0.2.1 a1.2.1)) rfl rfl rfl z_eqg22 rfl rfl (fun w => by exact eq_arr (xs := a0.2.1) (ys := a1.2.1) Tryd.underlying22 Tryd.underlying3 z_info3 z_cell3) rfl ?_
  refine o_pick rfl rfl rfl rfl rfl ?_
  refine o_mif rfl rfl rfl rfl h (fun h => ?_) (fun h => ?_)
  ·refine ZZ 4 [1, 0] rfl rfl ?_
   obtain ⟨r12, hr13, h⟩ := h
   refine st_call (foot := []) rfl rfl rfl rfl rfl rfl (callV_fn z_en72 (slices_Equal_msg_Point_msg_Point_ok hr13 σ hs3 hs7)) ?_
   rintro vτ14 τ14 gsτ14 hl15 ⟨rfl, rfl⟩
   refine o_pick rfl rfl rfl rfl rfl ?_
   refine o_mif rfl rfl rfl rfl h (fun h => ?_) (fun h => ?_)
   ·refine ZZ 4 [1, 0] rfl rfl ?_
    obtain ⟨r16, hr17, h⟩ := h
    refine st_call (foot := []) rfl rfl rfl rfl rfl rfl (callV_fn z_en73 (slices_Equal_int_int_ok hr17 τ14 (hs4.up hl15) (hs8.up hl15))) ?_
    rintro vτ18 τ18 gsτ18 hl19 ⟨rfl, rfl⟩
    refine o_pick rfl rfl rfl rfl rfl ?_
    refine o_mif rfl rfl rfl rfl h (fun h => ?_) (fun h => ?_)
    ·refine ZZ 6 [1, 0] rfl rfl ?_
     refine o_mif rfl rfl rfl rfl h (fun h => ?_) (fun h => ?_)
     ·refine ZZ 8 [1, 0] rfl rfl ?_
      refine st_ord [] _ rfl ?_
      exact hk11 _ _ _ ⟨(decide (a0.2.2.2.2.2 = a1.2.2.2.2.2)), h, (hl15.trans hl19), rfl, rfl⟩
     ·refine Z 8 rfl ?_
      refine st_ord [] _ rfl ?_
      exact hk11 _ _ _ ⟨false, h, (hl15.trans hl19), rfl, rfl⟩
    ·refine Z 15 rfl ?_
     refine st_ord [] _ rfl ?_
     exact hk11 _ _ _ ⟨false, h, (hl15.trans hl19), rfl, rfl⟩
   ·refine Z 22 rfl ?_
    refine st_ord [] _ rfl ?_
    exact hk11 _ _ _ ⟨false, h, hl15, rfl, rfl⟩
  ·refine Z 29 rfl ?_
   refine st_ord [] _ rfl ?_
   exact hk11 _ _ _ ⟨false, h, (Sto.Le.refl _), rfl, rfl⟩
 ·refine Z 36 rfl ?_
  refine st_ord [] _ rfl ?_
  exact hk11 _ _ _ ⟨false, h, (Sto.Le.refl _), rfl, rfl⟩
theorem msg_Check_ok {a0 : Int × List Int × List (Int × Int) × List Int × ByteArray × ByteArray} {v1 : Value} {v2 : Value} {r : Int} (h : msg_Check a0 r) (σ : Sto) (hs3 : Sl (kP (kI .i64) (kI .i64)) σ v1 a0.2.2.1) (hs4 : Sl (kI .i64) σ v2 a0.2.2.2.1) :
    Does Tryd.prog 12 [.agg [.int .i64 a0.1, .int .i64 (a0.2.1.getD 0 0), .int .i64 (a0.2.1.getD 1 0), .int .i64 (a0.2.1.getD 2 0), .int .i64 (a0.2.1.getD 3 0), .int .i64 (a0.2.1.getD 4 0), .int .i64 (a0.2.1.getD 5 0), v1, v2, .string a0.2.2.2.2.1, .string a0.2.2.2.2.2].toArray] σ [] (fun v τ gs => gs = [] ∧ .int .i64 r = v) := by
 refine call_of Tryd.func12 Tryd.ntmps12 rfl rfl (fun cs fs => ?_)
 refine Z 2 rfl ?_
 refine o_box (cs := [.int .i64 a0.1, .int .i64 (a0.2.1.getD 0 0), .int .i64 (a0.2.1.getD 1 0), .int .i64 (a0.2.1.getD 2 0), .int .i64 (a0.2.1.getD 3 0), .int .i64 (a0.2.1.getD 4 0), .int .i64 (a0.2.1.getD 5 0), v1, v2, .string a0.2.2.2.2.1, .string a0.2.2.2.2.2]) rfl rfl rfl rfl rfl (fun b5 => ?_)
 refine Z 4 rfl ?_
 refine st_draw 3 (dl [.v (.agg #[.int .i64 a0.1, .int .i64 (a0.2.1.getD 0 0), .int .i64 (a0.2.1.getD 1 0), .int .i64 (a0.2.1.getD 2 0), .int .i64 (a0.2.1.getD 3 0), .int .i64 (a0.2.1.getD 4 0), .int .i64 (a0.2.1.getD 5 0), v1, v2, .string a0.2.2.2.2.1, .string a0.2.2.2.2.2]), .t fun τ v => ∃ (b6 : Nat), (.pointer (some ⟨b6, 0, none⟩) : Value) = v, .v (.int .i64 9)]) (oneG 1 (.cells #[.int .i64 0, .int .i64 0, .int .i64 0, .int .i64 0, .int .i64 0, .int .i64 0, .int .i64 0, .slice none 0 0, .slice none 0 0, .string (bstr []), .string (bstr [])] 26 (0, 0))) z_mix rfl (dl_mono ⟨fun _ _ _ hl ⟨b6, hv⟩ => ⟨b6, hv⟩, trivial⟩) (allB_cons (allB_cons (allB_cons allB_nil ?_) ?_) (p1o dA)) ?_
 ·intro ρ' τ pool rs hl hd hout hk
  refine o_loadN (j := 0) (vs := [.int .i64 a0.1, .int .i64 (a0.2.1.getD 0 0), .int .i64 (a0.2.1.getD 1 0), .int .i64 (a0.2.1.getD 2 0), .int .i64 (a0.2.1.getD 3 0), .int .i64 (a0.2.1.getD 4 0), .int .i64 (a0.2.1.getD 5 0), v1, v2, .string a0.2.2.2.2.1, .string a0.2.2.2.2.2]) rfl rfl rfl z_agg26 ((hout 1 rfl).trans rfl) rfl rfl ?_
  exact st_addNil (hk _ _ (Sto.Le.refl _) rfl)
 ·intro ρ' τ pool rs hl hd hout hk
  refine o_alloc rfl rfl rfl z_zero26 (fun b6 => ?_)
  exact hk _ _ (Sto.Le.refl _) ⟨b6, rfl⟩
 intro ρ' τ7 vals hl7 hv hout
 obtain ⟨l1, b6, t1⟩ := hv 1 (by decide)
 replace l1 : Eng.look ρ' 4 = some (.pointer (some ⟨b6, 0, none⟩)) := l1.trans (congrArg some (Eq.symm t1))
 refine st_gs [[(b5, .cells #[.int .i64 a0.1, .int .i64 (a0.2.1.getD 0 0), .int .i64 (a0.2.1.getD 1 0), .int .i64 (a0.2.1.getD 2 0), .int .i64 (a0.2.1.getD 3 0), .int .i64 (a0.2.1.getD 4 0), .int .i64 (a0.2.1.getD 5 0), v1, v2, .string a0.2.2.2.2.1, .string a0.2.2.2.2.2] 26 (0, 0))], [(b6, .cells #[.int .i64 0, .int .i64 0, .int .i64 0, .int .i64 0, .int .i64 0, .int .i64 0, .int .i64 0, .slice none 0 0, .slice none 0 0, .string (bstr []), .string (bstr [])] 26 (0, 0))]] (by rw [oneG_flat (by decide) (Eq.symm t1)]; rfl) ?_
 refine st_env (ρ' := [(7, .agg #[.int .i64 a0.1, .int .i64 (a0.2.1.getD 0 0), .int .i64 (a0.2.1.getD 1 0), .int .i64 (a0.2.1.getD 2 0), .int .i64 (a0.2.1.getD 3 0), .int .i64 (a0.2.1.getD 4 0), .int .i64 (a0.2.1.getD 5 0), v1, v2, .string a0.2.2.2.2.1, .string a0.2.2.2.2.2]), (4, .pointer (some ⟨b6, 0, none⟩)), (3, .int .i64 9), (1, .pointer (some ⟨b5, 0, none⟩)), (2, .int .i64 0)]) ⟨(lv1 hv 0 rfl rfl), l1, (lv1 hv 2 rfl rfl), (hout 1 rfl).trans rfl, (hout 2 rfl).trans rfl, trivial⟩ ?_
 refine o_store (j := 1) (vs := [.int .i64 a0.1, .int .i64 (a0.2.1.getD 0 0), .int .i64 (a0.2.1.getD 1 0), .int .i64 (a0.2.1.getD 2 0), .int .i64 (a0.2.1.getD 3 0), .int .i64 (a0.2.1.getD 4 0), .int .i64 (a0.2.1.getD 5 0), v1, v2, .string a0.2.2.2.2.1, .string a0.2.2.2.2.2]) (cs' := [.int .i64 a0.1, .int .i64 (a0.2.1.getD 0 0), .int .i64 (a0.2.1.getD 1 0), .int .i64 (a0.2.1.getD 2 0), .int .i64 (a0.2.1.getD 3 0), .int .i64 (a0.2.1.getD 4 0), .int .i64 (a0.2.1.getD 5 0), v1, v2, .string a0.2.2.2.2.1, .string a0.2.2.2.2.2]) rfl rfl rfl z_size26 rfl rfl rfl (ones_cons rfl (ones_cons rfl (ones_cons rfl (ones_cons rfl (ones_cons rfl (ones_cons rfl (ones_cons rfl (ones_cons (hs3.up hl7).one' (ones_cons (hs4.up hl7).one' (ones_cons rfl (ones_cons rfl ones_nil))))))))))) rfl rfl rfl ?_
 refine st_gs [[(b5, .cells #[.int .i64 a0.1, .int .i64 (a0.2.1.getD 0 0), .int .i64 (a0.2.1.getD 1 0), .int .i64 (a0.2.1.getD 2 0), .int .i64 (a0.2.1.getD 3 0), .int .i64 (a0.2.1.getD 4 0), .int .i64 (a0.2.1.getD 5 0), v1, v2, .string a0.2.2.2.2.1, .string a0.2.2.2.2.2] 26 (0, 0))], [(b6, .cells #[.int .i64 a0.1, .int .i64 (a0.2.1.getD 0 0), .int .i64 (a0.2.1.getD 1 0), .int .i64 (a0.2.1.getD 2 0), .int .i64 (a0.2.1.getD 3 0), .int .i64 (a0.2.1.getD 4 0), .int .i64 (a0.2.1.getD 5 0), v1, v2, .string a0.2.2.2.2.1, .string a0.2.2.2.2.2] 26 (0, 0))]] rfl ?_
 refine Z 4 rfl ?_
 refine st_cut (fun ρ τ8 gs => ∃ (s8 : Int × Int × Int × Int × Int × Int × Int × Int × (List (Int × Int)) × List Int × ByteArray × ByteArray) (v9 : Value) (v11 : Value), msg_Check_j1 a0 s8 r ∧ τ7.Le τ8 ∧ ESub ρ [(4, .pointer (some ⟨b6, 0, none⟩)), (3, .int .i64 s8.1), (1, .pointer (some ⟨b5, 0, none⟩)), (2, .int .i64 0)] ∧ gs = [[(b5, .cells #[.int .i64 a0.1, .int .i64 (a0.2.1.getD 0 0), .int .i64 (a0.2.1.getD 1 0), .int .i64 (a0.2.1.getD 2 0), .int .i64 (a0.2.1.getD 3 0), .int .i64 (a0.2.1.getD 4 0), .int .i64 (a0.2.1.getD 5 0), v1, v2, .string a0.2.2.2.2.1, .string a0.2.2.2.2.2] 26 (0, 0))], [(b6, .cells #[.int .i64 s8.2.1, .int .i64 s8.2.2.1, .int .i64 s8.2.2.2.1, .int .i64 s8.2.2.2.2.1, .int .i64 s8.2.2.2.2.2.1, .int .i64 s8.2.2.2.2.2.2.1, .int .i64 s8.2.2.2.2.2.2.2.1, v9, v11, .string s8.2.2.2.2.2.2.2.2.2.2.1, .string s8.2.2.2.2.2.2.2.2.2.2.2] 26 (0, 0))]] ∧ Sl (kP (kI .i64) (kI .i64)) τ8 v9 s8.2.2.2.2.2.2.2.2.1 ∧ Sl (kI .i64) τ8 v11 s8.2.2.2.2.2.2.2.2.2.1) ?_ (fun hk8 => ?_)
 ·rintro ρ8 τ8 gs8 ⟨s8, v9, v11, h, hl8, hρ, rfl, hs10, hs12⟩
  refine st_es hρ ?_
  refine Z 2 rfl ?_
  refine st_cut (fun ρ τ13 gs => ∃ (s13 : Bool), msg_Check_j2 s8 s13 r ∧ τ8.Le τ13 ∧ ESub ρ [(3, .int .i64 s8.1), (2, .int .i64 0), (34, .bool s13)] ∧ gs = []) ?_ (fun hk13 => ?_)
  ·rintro ρ13 τ13 gs13 ⟨s13, h, hl13, hρ, rfl⟩
   refine st_es hρ ?_
   refine st_if rfl h (fun h => ?_) (fun h => ?_)
   ·refine Z 4 rfl ?_
    obtain rfl := Eq.symm h
    exact st_ret (gs' := []) Tryd.func12 rfl (List.Sublist.refl _) ((hl7.trans hl8).trans hl13) ⟨rfl, rfl⟩
   ·refine Z 6 rfl ?_
    obtain rfl := Eq.symm h
    exact st_ret (gs' := []) Tryd.func12 rfl (List.Sublist.refl _) ((hl7.trans hl8).trans hl13) ⟨rfl, rfl⟩
  refine Z 3 rfl ?_
  refine o_mif rfl rfl rfl rfl h (fun h => ?_) (fun h => ?_)
  ·refine ZZ 4 [1, 0] rfl rfl ?_
   obtain ⟨r14, hr15, h⟩ := h
   refine st_call (foot := []) rfl rfl rfl rfl rfl rfl (callV_fn z_en15 (msg_Same_ok hr15 τ8 hs10 hs12 Sl.nil Sl.nil)) ?_
   rintro vτ16 τ16 gsτ16 hl17 ⟨rfl, rfl⟩
   refine Z 3 rfl ?_
   refine st_ord [] _ rfl ?_
   exact hk13 _ _ _ ⟨(!r14), h, hl17, rfl, rfl⟩
  ·refine Z 8 rfl ?_
   refine st_ord [] _ rfl ?_
   exact hk13 _ _ _ ⟨false, h, (Sto.Le.refl _), rfl, rfl⟩
 refine ZZ 4 [0] rfl rfl ?_
 obtain ⟨r18, hr19, h⟩ := h
 refine st_call (foot := []) rfl rfl rfl rfl rfl rfl (callV_fn z_en66 (field_Of_ok hr19 τ7)) ?_
 rintro vτ20 τ20 gsτ20 hl21 ⟨v22, rfl, rfl, hs23⟩
 refine o_lenI rfl rfl rfl z_slT118 rfl hs23 ?_
 refine Z 2 rfl ?_
 obtain ⟨e24, hL24, hA24⟩ := h
 refine st_loop hL24 (fun (s24 : Int × Int × Int × Int × Int × Int × Int × Int × Int × (List (Int × Int)) × List Int × ByteArray × ByteArray) ρ τ24 gs => τ20.Le τ24 ∧ ∃ (v25 : Value) (v27 : Value), ESub ρ [(4, .pointer (some ⟨b6, 0, none⟩)), (3, .int .i64 s24.1), (1, .pointer (some ⟨b5, 0, none⟩)), (2, .int .i64 0), (10, v22), (11, .int .i64 (r18.length : Int)), (12, .int .i64 s24.2.1)] ∧ gs = [[(b5, .cells #[.int .i64 a0.1, .int .i64 (a0.2.1.getD 0 0), .int .i64 (a0.2.1.getD 1 0), .int .i64 (a0.2.1.getD 2 0), .int .i64 (a0.2.1.getD 3 0), .int .i64 (a0.2.1.getD 4 0), .int .i64 (a0.2.1.getD 5 0), v1, v2, .string a0.2.2.2.2.1, .string a0.2.2.2.2.2] 26 (0, 0))], [(b6, .cells #[.int .i64 s24.2.2.1, .int .i64 s24.2.2.2.1, .int .i64 s24.2.2.2.2.1, .int .i64 s24.2.2.2.2.2.1, .int .i64 s24.2.2.2.2.2.2.1, .int .i64 s24.2.2.2.2.2.2.2.1, .int .i64 s24.2.2.2.2.2.2.2.2.1, v25, v27, .string s24.2.2.2.2.2.2.2.2.2.2.2.1, .string s24.2.2.2.2.2.2.2.2.2.2.2.2] 26 (0, 0))]] ∧ Sl (kP (kI .i64) (kI .i64)) τ24 v25 s24.2.2.2.2.2.2.2.2.2.1 ∧ Sl (kI .i64) τ24 v27 s24.2.2.2.2.2.2.2.2.2.2.1) ⟨Sto.Le.refl _, _, _, rfl, rfl, (hs3.up (hl7.trans hl21)), (hs4.up (hl7.trans hl21))⟩ ?_
 rintro s24 o24 h he24 ρ24 τ24 gs24 ⟨hl24, v25, v27, hρ, rfl, hs26, hs28⟩ hn24
 refine st_es hρ ?_
 refine Z 5 rfl ?_
 refine st_if rfl h (fun h => ?_) (fun h => ?_)
 ·refine Z 5 rfl ?_
  obtain ⟨q29, hf30, h⟩ := h
  refine o_index rfl rfl rfl z_slT118 rfl rfl (hs23.up hl24) rfl hf30 (fun b31 of32 vs hc33 hrep => ?_)
  obtain ⟨_, _, rfl, rfl, ⟨_, _, rfl, rfl, ⟨_, _, rfl, rfl, ⟨_, _, rfl, rfl, ⟨_, _, rfl, rfl, ⟨_, _, rfl, rfl, rfl⟩⟩⟩⟩⟩⟩ := hrep
  refine o_loadIN (vs := [.string q29.1, .int .i64 q29.2.1, .int .i64 q29.2.2.1, .int .i64 q29.2.2.2.1, .int .i64 q29.2.2.2.2.1, .int .i64 q29.2.2.2.2.2.1, .int .i64 q29.2.2.2.2.2.2]) rfl rfl rfl z_agg121 rfl rfl (celn_part 0 rfl hc33) ?_
  refine o_alloc rfl rfl rfl z_zero121 (fun b34 => ?_)
  refine ZZ 7 [0, 1, 0] rfl rfl ?_
  obtain ⟨r35, hr36, h⟩ := h
  refine st_call (foot := []) rfl rfl rfl rfl rfl rfl (callV_fn z_en67 (msg_wrong_ok hr36 τ24 (hs3.up ((hl7.trans hl21).trans hl24)) (hs4.up ((hl7.trans hl21).trans hl24)))) ?_
  rintro vτ37 τ37 gsτ37 hl38 ⟨rfl, rfl⟩
  refine Z 7 rfl ?_
  refine st_if rfl h (fun h => ?_) (fun h => ?_)
  ·refine st_exit rfl ?_
   obtain rfl := he24 _ h
   replace h := hA24
   refine st_ord [1, 1] _ rfl ?_
   exact hk8 _ _ _ ⟨(r35, s24.2.2.1, s24.2.2.2.1, s24.2.2.2.2.1, s24.2.2.2.2.2.1, s24.2.2.2.2.2.2.1, s24.2.2.2.2.2.2.2.1, s24.2.2.2.2.2.2.2.2.1, s24.2.2.2.2.2.2.2.2.2.1, s24.2.2.2.2.2.2.2.2.2.2.1, s24.2.2.2.2.2.2.2.2.2.2.2.1, s24.2.2.2.2.2.2.2.2.2.2.2.2), _, _, h, ((hl21.trans hl24).trans hl38), rfl, rfl, (hs26.up hl38), (hs28.up hl38)⟩
  ·refine ZZ 4 [2, 0] rfl rfl ?_
   obtain ⟨r39, hr40, h⟩ := h
   refine st_call (foot := []) rfl rfl rfl rfl rfl rfl (callV_fn z_en68 (msg_without_ok hr40 τ37 (hs26.up hl38) (hs28.up hl38))) ?_
   rintro vτ41 τ41 gsτ41 hl42 ⟨v43, v44, rfl, rfl, hs45, hs46⟩
   refine o_store (j := 2) (vs := [.int .i64 r39.1, .int .i64 (r39.2.1.getD 0 0), .int .i64 (r39.2.1.getD 1 0), .int .i64 (r39.2.1.getD 2 0), .int .i64 (r39.2.1.getD 3 0), .int .i64 (r39.2.1.getD 4 0), .int .i64 (r39.2.1.getD 5 0), v43, v44, .string r39.2.2.2.2.1, .string r39.2.2.2.2.2]) (cs' := [.int .i64 r39.1, .int .i64 (r39.2.1.getD 0 0), .int .i64 (r39.2.1.getD 1 0), .int .i64 (r39.2.1.getD 2 0), .int .i64 (r39.2.1.getD 3 0), .int .i64 (r39.2.1.getD 4 0), .int .i64 (r39.2.1.getD 5 0), v43, v44, .string r39.2.2.2.2.1, .string r39.2.2.2.2.2]) rfl rfl rfl z_size26 rfl rfl rfl (ones_cons rfl (ones_cons rfl (ones_cons rfl (ones_cons rfl (ones_cons rfl (ones_cons rfl (ones_cons rfl (ones_cons hs45.one' (ones_cons hs46.one' (ones_cons rfl (ones_cons rfl ones_nil))))))))))) rfl rfl rfl ?_
   refine st_gs [[(b34, .cells #[.string q29.1, .int .i64 q29.2.1, .int .i64 q29.2.2.1, .int .i64 q29.2.2.2.1, .int .i64 q29.2.2.2.2.1, .int .i64 q29.2.2.2.2.2.1, .int .i64 q29.2.2.2.2.2.2] 121 (0, 0))], [(b5, .cells #[.int .i64 a0.1, .int .i64 (a0.2.1.getD 0 0), .int .i64 (a0.2.1.getD 1 0), .int .i64 (a0.2.1.getD 2 0), .int .i64 (a0.2.1.getD 3 0), .int .i64 (a0.2.1.getD 4 0), .int .i64 (a0.2.1.getD 5 0), v1, v2, .string a0.2.2.2.2.1, .string a0.2.2.2.2.2] 26 (0, 0))], [(b6, .cells #[.int .i64 r39.1, .int .i64 (r39.2.1.getD 0 0), .int .i64 (r39.2.1.getD 1 0), .int .i64 (r39.2.1.getD 2 0), .int .i64 (r39.2.1.getD 3 0), .int .i64 (r39.2.1.getD 4 0), .int .i64 (r39.2.1.getD 5 0), v43, v44, .string r39.2.2.2.2.1, .string r39.2.2.2.2.2] 26 (0, 0))]] rfl ?_
   refine Z 6 rfl ?_
   refine st_ord [1, 1] _ rfl ?_
   exact hn24 _ _ _ _ h ⟨((hl24.trans hl38).trans hl42), _, _, rfl, rfl, hs45, hs46⟩
 ·refine st_exit rfl ?_
  obtain rfl := he24 _ h
  replace h := hA24
  exact hk8 _ _ _ ⟨(s24.1, s24.2.2.1, s24.2.2.2.1, s24.2.2.2.2.1, s24.2.2.2.2.2.1, s24.2.2.2.2.2.2.1, s24.2.2.2.2.2.2.2.1, s24.2.2.2.2.2.2.2.2.1, s24.2.2.2.2.2.2.2.2.2.1, s24.2.2.2.2.2.2.2.2.2.2.1, s24.2.2.2.2.2.2.2.2.2.2.2.1, s24.2.2.2.2.2.2.2.2.2.2.2.2), _, _, h, (hl21.trans hl24), rfl, rfl, hs26, hs28⟩
theorem field_Word_ok {a0 : Int} {r : ByteArray} (h : field_Word a0 r) (σ : Sto)  :
    Does Tryd.prog 69 [.int .i64 a0] σ [] (fun v τ gs => gs = [] ∧ .string r = v) := by
 refine call_of Tryd.func69 Tryd.ntmps69 rfl rfl (fun cs fs => ?_)
 refine Z 2 rfl ?_
 refine o_assign rfl rfl rfl (ev_str z_str19) ?_
 refine Z 12 rfl ?_
 refine st_if rfl h (fun h => ?_) (fun h => ?_)
 ·refine Z 2 rfl ?_
  refine o_assign rfl rfl rfl (ev_str z_str20) ?_
  refine st_end ?_
  obtain rfl := Eq.symm h
  exact st_ret (gs' := []) Tryd.func69 rfl (List.Sublist.refl _) (Sto.Le.refl _) ⟨rfl, rfl⟩
 ·refine Z 5 rfl ?_
  refine st_if rfl h (fun h => ?_) (fun h => ?_)
  ·refine Z 2 rfl ?_
   refine o_assign rfl rfl rfl (ev_str z_str21) ?_
   refine st_end ?_
   obtain rfl := Eq.symm h
   exact st_ret (gs' := []) Tryd.func69 rfl (List.Sublist.refl _) (Sto.Le.refl _) ⟨rfl, rfl⟩
  ·refine Z 5 rfl ?_
   refine st_if rfl h (fun h => ?_) (fun h => ?_)
   ·refine Z 2 rfl ?_
    refine o_assign rfl rfl rfl (ev_str z_str22) ?_
    refine st_end ?_
    obtain rfl := Eq.symm h
    exact st_ret (gs' := []) Tryd.func69 rfl (List.Sublist.refl _) (Sto.Le.refl _) ⟨rfl, rfl⟩
   ·refine Z 5 rfl ?_
    refine st_if rfl h (fun h => ?_) (fun h => ?_)
    ·refine Z 2 rfl ?_
     refine o_assign rfl rfl rfl (ev_str z_str23) ?_
     refine st_end ?_
     obtain rfl := Eq.symm h
     exact st_ret (gs' := []) Tryd.func69 rfl (List.Sublist.refl _) (Sto.Le.refl _) ⟨rfl, rfl⟩
    ·refine Z 5 rfl ?_
     refine st_if rfl h (fun h => ?_) (fun h => ?_)
     ·refine Z 2 rfl ?_
      refine o_assign rfl rfl rfl (ev_str z_str24) ?_
      refine st_end ?_
      obtain rfl := Eq.symm h
      exact st_ret (gs' := []) Tryd.func69 rfl (List.Sublist.refl _) (Sto.Le.refl _) ⟨rfl, rfl⟩
     ·refine Z 4 rfl ?_
      refine o_assign rfl rfl rfl (ev_str z_str19) ?_
      refine st_end ?_
      obtain rfl := Eq.symm h
      exact st_ret (gs' := []) Tryd.func69 rfl (List.Sublist.refl _) (Sto.Le.refl _) ⟨rfl, rfl⟩
theorem field_All_1_ok {c0 : Int} {c1 : Int} {bc0 : Nat} {bc1 : Nat} {σ0 : Sto} (hc0_0 : Cel σ0 ⟨bc0, 0, none⟩ (.int .i64 c0)) (hc1_0 : Cel σ0 ⟨bc1, 0, none⟩ (.int .i64 c1)) :
    IterV Tryd.prog (fun _ x vx => vx = [.agg [.string x.1, .int .i64 x.2.1, .int .i64 x.2.2.1, .int .i64 x.2.2.2.1, .int .i64 x.2.2.2.2.1, .int .i64 x.2.2.2.2.2.1, .int .i64 x.2.2.2.2.2.2].toArray]) (.func (.func 110) #[] [.pointer (some ⟨bc0, 0, none⟩), .pointer (some ⟨bc1, 0, none⟩)].toArray) σ0 [] (fun (_ : Unit) _ f => f = []) (field_All_1 c0 c1) := by
 intro S Y I y hyc hyo hIm hY s s' o hR σ g hle hIg
 obtain ⟨r, hr0⟩ : ∃ r, r = (s', o) := ⟨_, rfl⟩
 rw [← hr0] at hR
 have h := hR
 refine callV_of (caps := [.pointer (some ⟨bc0, 0, none⟩), .pointer (some ⟨bc1, 0, none⟩)]) z_en110 ?_
 refine call_of Tryd.func110 Tryd.ntmps110 rfl rfl (fun cs fs => ?_)
 refine st_ord [0] _ rfl ?_
 refine Z 5 rfl ?_
 refine o_loadI (v := .int .i64 c0) rfl rfl rfl z_sc3 rfl (Cel.up hc0_0 hle) ?_
 obtain ⟨r1, hr2, h⟩ := h
 refine st_call (foot := []) rfl rfl rfl rfl rfl rfl (callV_fn z_en66 (field_Of_ok hr2 σ)) ?_
 rintro vτ3 τ3 gsτ3 hl4 ⟨v5, rfl, rfl, hs6⟩
 refine o_lenI rfl rfl rfl z_slT118 rfl hs6 ?_
 refine Z 2 rfl ?_
 obtain ⟨e7, hL7, hA7⟩ := h
 refine st_loop hL7 (fun (s7 : S × Int) ρ τ7 gs => τ3.Le τ7 ∧ ∃ (g8 : Grp), ESub ρ [(0, y), (2, .pointer (some ⟨bc1, 0, none⟩)), (7, v5), (8, .int .i64 (r1.length : Int)), (9, .int .i64 s7.2)] ∧ gs = [g8] ∧ I s7.1 τ7 g8) ⟨Sto.Le.refl _, g, rfl, rfl, (hIm _ _ _ _ hl4 hIg)⟩ ?_
 rintro s7 o7 h he7 ρ7 τ7 gs7 ⟨hl7, g8, hρ, rfl, hI9⟩ hn7
 refine st_es hρ ?_
 refine Z 5 rfl ?_
 refine st_if rfl h (fun h => ?_) (fun h => ?_)
 ·refine Z 2 rfl ?_
  refine st_cut (fun ρ τ10 gs => ∃ (s10 : S) (g11 : Grp), field_All_1_j2 S Y s7 s10 o7 ∧ τ7.Le τ10 ∧ ESub ρ [(0, y), (2, .pointer (some ⟨bc1, 0, none⟩)), (7, v5), (8, .int .i64 (r1.length : Int)), (9, .int .i64 s7.2)] ∧ gs = [g11] ∧ I s10 τ10 g11) ?_ (fun hk10 => ?_)
  ·rintro ρ10 τ10 gs10 ⟨s10, g11, h, hl10, hρ, rfl, hI12⟩
   refine st_es hρ ?_
   refine Z 4 rfl ?_
   exact hn7 _ _ _ _ h ⟨(hl7.trans hl10), g11, rfl, rfl, hI12⟩
  refine Z 3 rfl ?_
  obtain ⟨q13, hf14, h⟩ := h
  refine o_index rfl rfl rfl z_slT118 rfl rfl (hs6.up hl7) rfl hf14 (fun b15 of16 vs hc17 hrep => ?_)
  obtain ⟨_, _, rfl, rfl, ⟨_, _, rfl, rfl, ⟨_, _, rfl, rfl, ⟨_, _, rfl, rfl, ⟨_, _, rfl, rfl, ⟨_, _, rfl, rfl, rfl⟩⟩⟩⟩⟩⟩ := hrep
  refine o_loadIN (vs := [.string q13.1, .int .i64 q13.2.1, .int .i64 q13.2.2.1, .int .i64 q13.2.2.2.1, .int .i64 q13.2.2.2.2.1, .int .i64 q13.2.2.2.2.2.1, .int .i64 q13.2.2.2.2.2.2]) rfl rfl rfl z_agg121 rfl rfl (celn_part 0 rfl hc17) ?_
  refine o_alloc rfl rfl rfl z_zero121 (fun b18 => ?_)
  refine ZZ 7 [0, 0] rfl rfl ?_
  refine o_loadI (v := .int .i64 c1) rfl rfl rfl z_sc3 rfl (Cel.up hc1_0 ((hle.trans hl4).trans hl7)) ?_
  refine Z 2 rfl ?_
  refine st_if rfl h (fun h => ?_) (fun h => ?_)
  ·refine st_exit rfl ?_
   refine st_ord [1] _ rfl ?_
   exact hk10 _ _ _ ⟨s7.1, g8, h, (Sto.Le.refl _), rfl, rfl, hI9⟩
  ·refine ZZ 5 [0] rfl rfl ?_
   obtain ⟨y19, u20, hy21, h⟩ := h
   refine st_ord [1, 0] _ rfl ?_
   refine st_call (foot := [g8]) rfl rfl rfl rfl rfl rfl (hY q13 s7.1 _ _ _ _ _ (hle.trans (hl4.trans hl7)) hy21 rfl hI9) ?_
   rintro vτ22 τ22 gsτ22 hl23 ⟨rfl, g24, rfl, hI25⟩
   refine Z 2 rfl ?_
   refine st_if rfl h (fun h => ?_) (fun h => ?_)
   ·refine Z 2 rfl ?_
    refine st_ord [0] _ rfl ?_
    obtain rfl := he7 _ h
    replace h := hA7
    obtain rfl := Eq.symm h
    cases hr0
    exact st_fin (gs' := [g24, []]) Tryd.func110 rfl (by simp) ((hl4.trans hl7).trans hl23) ⟨g24, _, rfl, hI25, rfl⟩
   ·refine Z 2 rfl ?_
    refine st_ord [0] _ rfl ?_
    exact hk10 _ _ _ ⟨u20, g24, h, hl23, rfl, rfl, hI25⟩
 ·refine Z 2 rfl ?_
  obtain rfl := he7 _ h
  replace h := hA7
  obtain rfl := Eq.symm h
  cases hr0
  exact st_fin (gs' := [g8, []]) Tryd.func110 rfl (by simp) (hl4.trans hl7) ⟨g8, _, rfl, hI9, rfl⟩
theorem field_All_ok {a0 : Int} {a1 : Int} {r : (((S : Type) → ((ByteArray × Int × Int × Int × Int × Int × Int) → S → Bool × S → Prop) → S → S × Unit → Prop))} (h : field_All a0 a1 r) (σ : Sto)  :
    Does Tryd.prog 70 [.int .i64 a0, .int .i64 a1] σ [] (fun v τ gs => ∃ (f9 : Nat) (q10 : Array Value), gs = [] ∧ .func (.func f9) #[] q10 = v ∧ IterV Tryd.prog (fun _ x vx => vx = [.agg [.string x.1, .int .i64 x.2.1, .int .i64 x.2.2.1, .int .i64 x.2.2.2.1, .int .i64 x.2.2.2.2.1, .int .i64 x.2.2.2.2.2.1, .int .i64 x.2.2.2.2.2.2].toArray]) (.func (.func f9) #[] q10) τ [] (fun (_ : Unit) _ f => f = []) r) := by
 refine call_of Tryd.func70 Tryd.ntmps70 rfl rfl (fun cs fs => ?_)
 refine Z 2 rfl ?_
 refine o_boxC rfl rfl rfl rfl rfl rfl (fun b1 => ?_)
 refine o_boxC rfl rfl rfl rfl rfl rfl (fun b2 => ?_)
 refine Z 4 rfl ?_
 refine st_ord [1, 0] _ rfl ?_
 refine st_freeze (fun τ3 hl4 hg5 => ?_)
 refine st_freeze (fun τ6 hl7 hg8 => ?_)
 refine Z 3 rfl ?_
 obtain rfl := Eq.symm h
 exact st_ret (gs' := []) Tryd.func70 rfl (List.Sublist.refl _) (hl4.trans hl7) ⟨_, _, rfl, rfl, (field_All_1_ok (Cel.up (cel_of hg5 rfl) hl7) (cel_of hg8 rfl))⟩
theorem strconv_Itoa_ok {a0 : Int} {r : ByteArray} (h : strconv_Itoa a0 r) (σ : Sto) (hT : Tab Tryd.prog σ) :
    Does Tryd.prog 93 [.int .i64 a0] σ [] (fun v τ gs => gs = [] ∧ .string r = v) := by
 obtain ⟨hk, rfl⟩ := h
 rw [itoa_lib]
 exact does_grow fun w hw => Tryd.strconv_Itoa a0 (i64_lo hk) (i64_hi hk) w (hT w hw)
theorem say_Number_ok {a0 : Int} {r : ByteArray} (h : say_Number a0 r) (σ : Sto) (hT : Tab Tryd.prog σ) :
    Does Tryd.prog 77 [.int .i64 a0] σ [] (fun v τ gs => gs = [] ∧ .string r = v) := by
 refine call_of Tryd.func77 Tryd.ntmps77 rfl rfl (fun cs fs => ?_)
 refine Z 2 rfl ?_
 refine o_assign rfl rfl rfl (ev_str z_str19) ?_
 refine Z 4 rfl ?_
 obtain ⟨r1, hr2, h⟩ := h
 refine st_call (foot := []) rfl rfl rfl rfl rfl rfl (callV_fn z_en93 (strconv_Itoa_ok hr2 σ hT)) ?_
 rintro vτ3 τ3 gsτ3 hl4 ⟨rfl, rfl⟩
 refine Z 2 rfl ?_
 obtain rfl := Eq.symm h
 exact st_ret (gs' := []) Tryd.func77 rfl (List.Sublist.refl _) hl4 ⟨rfl, rfl⟩
theorem strings_Join_ok {a0 : List ByteArray} {a1 : ByteArray} {v1 : Value} {r : ByteArray} (h : strings_Join a0 a1 r) (σ : Sto) (hs2 : Sl kS σ v1 a0) :
    Does Tryd.prog 111 [v1, .string a1] σ [] (fun v τ gs => gs = [] ∧ .string r = v) := by
 obtain ⟨h1, h2, rfl⟩ := h
 exact join_does Tryd.strings_Join_none Tryd.strings_Join hs2 h1 h2
theorem say_hex_ok {a0 : ByteArray} {r : ByteArray} (h : say_hex a0 r) (σ : Sto)  :
    Does Tryd.prog 112 [.string a0] σ [] (fun v τ gs => gs = [] ∧ .string r = v) := by
 refine call_of Tryd.func112 Tryd.ntmps112 rfl rfl (fun cs fs => ?_)
 refine Z 2 rfl ?_
 refine o_assign rfl rfl rfl (ev_str z_str19) ?_
 refine Z 5 rfl ?_
 refine o_sbin (v := .bool (decide (a0 = (bstr [])))) rfl rfl rfl rfl (ev_str z_str19) rfl ?_
 refine st_end ?_
 refine st_if rfl h (fun h => ?_) (fun h => ?_)
 ·refine Z 2 rfl ?_
  refine o_assign rfl rfl rfl (ev_str z_str28) ?_
  refine st_end ?_
  obtain rfl := Eq.symm h
  exact st_ret (gs' := []) Tryd.func112 rfl (List.Sublist.refl _) (Sto.Le.refl _) ⟨rfl, rfl⟩
 ·refine Z 6 rfl ?_
  refine st_cut (fun ρ τ1 gs => ∃ (s1 : List Int) (v2 : Value) (g3 : Grp), say_hex_j1 s1 r ∧ σ.Le τ1 ∧ ESub ρ [(2, .string (bstr [])), (3, v2)] ∧ gs = [g3] ∧ Ow (kI .u8) 5 τ1 v2 s1 g3) ?_ (fun hk1 => ?_)
  ·rintro ρ1 τ1 gs1 ⟨s1, v2, g3, h, hl1, hρ, rfl, ho4⟩
   refine st_es hρ ?_
   refine Z 3 rfl ?_
   refine st_freeze (fun τ5 hl6 hg7 => ?_)
   have hs8 := ho4.freeze hl6 hg7
   refine o_bstr (xs := s1) rfl rfl rfl Tryd.underlying67 Tryd.underlying5 Tryd.underlying9 rfl hs8 ?_
   refine Z 2 rfl ?_
   obtain rfl := Eq.symm h
   exact st_ret (gs' := []) Tryd.func112 rfl (List.Sublist.refl _) (hl1.trans hl6) ⟨rfl, rfl⟩
  refine Z 3 rfl ?_
  obtain ⟨hf14, h⟩ := h
  refine o_bytes rfl rfl rfl Tryd.underlying9 Tryd.underlying67 Tryd.underlying5 rfl hf14 (fun v10 τ11 hl12 hs13 => ?_)
  refine o_lenI rfl rfl rfl z_slT67 rfl hs13 ?_
  refine Z 2 rfl ?_
  obtain ⟨e15, hL15, hA15⟩ := h
  refine st_addNil ?_
  refine st_loop hL15 (fun (s15 : List Int × Int) ρ τ15 gs => τ11.Le τ15 ∧ ∃ (v16 : Value) (g17 : Grp), ESub ρ [(2, .string (bstr [])), (3, v16), (9, v10), (10, .int .i64 ((bints a0).length : Int)), (11, .int .i64 s15.2)] ∧ gs = [g17] ∧ Ow (kI .u8) 5 τ15 v16 s15.1 g17) ⟨Sto.Le.refl _, _, _, rfl, rfl, Ow.nil⟩ ?_
  rintro s15 o15 h he15 ρ15 τ15 gs15 ⟨hl15, v16, g17, hρ, rfl, ho18⟩ hn15
  refine st_es hρ ?_
  refine Z 5 rfl ?_
  refine st_if rfl h (fun h => ?_) (fun h => ?_)
  ·refine Z 5 rfl ?_
   obtain ⟨q19, hf20, h⟩ := h
   refine o_index rfl rfl rfl z_slT67 rfl rfl (hs13.up hl15) rfl hf20 (fun b21 of22 vs hc23 hrep => ?_)
   obtain rfl := hrep
   refine o_loadI (v := .int .u8 q19) rfl rfl rfl z_sc5 rfl (hc23 0 _ rfl) ?_
   refine Z 2 rfl ?_
   obtain ⟨q24, hf25, q26, hf27, hf38, hf39, h⟩ := h
   refine st_d41 [] [g17] 9 1 [none, none, none, none, none, none, none, none, some (0, 0)] [none, none, none, none, none, none, none, none, none] [[none, some 23]] [.v (v16), .v (.int .u8 q19), .v (.int .u8 (ishr .u8 q19 4)), .v (.int .u8 q24), .v (.int .u8 q19), .v (.int .u8 (iand .u8 q19 15)), .v (.int .u8 q26), .t fun τ v => ∃ (v28 : Value), (v28 : Value) = v ∧ Sl (kI .u8) τ v28 [q24, q26], .t fun _ _ => True] [[fun τ u F => F = [g17], fun τ u F => ∃ (v40 : Value) (g41 : Grp), F = [g41] ∧ v40 = u ∧ Ow (kI .u8) 5 τ v40 (s15.1 ++ [q24, q26]) g41]] rfl z_mix rfl ⟨fun _ _ _ hl ⟨v28, hv, hs34⟩ => ⟨v28, hv, hs34.up hl⟩, ⟨fun _ _ _ _ _ => trivial, trivial⟩⟩ ⟨⟨fun _ _ _ _ hl h => h, ⟨fun _ _ _ _ hl h => (let ⟨v40, g41, hF, hU, ho42⟩ := h; ⟨v40, g41, hF, hU, ho42.up hl⟩), trivial⟩⟩, trivial⟩ rfl rfl ?_ (allB_cons (allB_cons (allB_cons (allB_cons (allB_cons (allB_cons (allB_cons (allB_cons (allB_cons allB_nil (p4 dA)) (p4 dA)) (p4 dA)) ?_) (p4 dA)) (p4 dA)) ?_) ?_) ?_) ?_
   ·exact rfl
   ·intro ρ' τ pool rs hl hd hout hw hk
    obtain ⟨_, e2, rfl⟩ := hd 2 rfl _ rfl
    refine o_indexS rfl rfl rfl Tryd.underlying9 (ev_str z_str29) e2 hf25 ?_
    exact hk _ _ (Sto.Le.refl _) rfl
   ·intro ρ' τ pool rs hl hd hout hw hk
    obtain ⟨_, e5, rfl⟩ := hd 5 rfl _ rfl
    refine o_indexS rfl rfl rfl Tryd.underlying9 (ev_str z_str29) e5 hf27 ?_
    exact hk _ _ (Sto.Le.refl _) rfl
   ·intro ρ' τ pool rs hl hd hout hw hk
    obtain ⟨_, e3, rfl⟩ := hd 3 rfl _ rfl
    obtain ⟨_, e6, rfl⟩ := hd 6 rfl _ rfl
    refine o_litE (eI .u8) [q24, q26] rfl rfl rfl z_slT67 z_zero5 ⟨rfl, ⟨_, e3, rfl⟩, ⟨rfl, ⟨_, e6, rfl⟩, trivial⟩⟩ rfl rfl rfl rfl (fun v28 g29 ho30 => ?_)
    refine st_freeze (fun τ31 hl32 hg33 => ?_)
    have hs34 := ho30.freeze hl32 hg33
    exact hk _ _ hl32 ⟨v28, rfl, hs34⟩
   ·intro ρ' τ u Fv pool rs hl hI hu hd hout hw hk
    obtain ⟨_, e0, rfl⟩ := hd 0 rfl _ rfl
    obtain ⟨_, e7, v28, rfl, hs34⟩ := hd 7 rfl _ rfl
    have hI0 := hI
    obtain rfl := hI
    refine st_gs [g17, pool] rfl ?_
    refine o_append (dk := (kI .u8)) (xs := s15.1) (ys := [q24, q26]) rfl rfl rfl rfl z_slT67 e0 (ho18.up hl) e7 (Sl.src hs34) hf38 hf39 (fun v35 g36 ho37 => ?_)
    exact hk _ _ [g36] (Sto.Le.refl _) trivial (by exact ⟨v35, g36, rfl, rfl, ho37⟩)
   intro ρ' τ43 vals u Fv hl43 hI hu hv hout
   obtain ⟨v40, g41, rfl, rfl, ho42⟩ := hI
   refine st_gs [g41] rfl ?_
   refine st_env (ρ' := [(2, .string (bstr [])), (9, v10), (10, .int .i64 ((bints a0).length : Int)), (11, .int .i64 s15.2), (23, v40)]) ⟨(hout 2 rfl).trans rfl, (hout 9 rfl).trans rfl, (hout 10 rfl).trans rfl, (hout 11 rfl).trans rfl, (by exact hu _ rfl), trivial⟩ ?_
   refine Z 7 rfl ?_
   exact hn15 _ _ _ _ h ⟨(hl15.trans hl43), _, _, rfl, rfl, ho42⟩
  ·refine st_exit rfl ?_
   obtain rfl := he15 _ h
   replace h := hA15
   exact hk1 _ _ _ ⟨s15.1, _, _, h, (hl12.trans hl15), rfl, rfl, ho18⟩
theorem say_value_ok {a0 : Int × List Int × List (Int × Int) × List Int × ByteArray × ByteArray} {a1 : ByteArray × Int × Int × Int × Int × Int × Int} {v1 : Value} {v2 : Value} {r : ByteArray} (h : say_value a0 a1 r) (σ : Sto) (hs3 : Sl (kP (kI .i64) (kI .i64)) σ v1 a0.2.2.1) (hs4 : Sl (kI .i64) σ v2 a0.2.2.2.1) (hT : Tab Tryd.prog σ) :
    Does Tryd.prog 71 [.agg [.int .i64 a0.1, .int .i64 (a0.2.1.getD 0 0), .int .i64 (a0.2.1.getD 1 0), .int .i64 (a0.2.1.getD 2 0), .int .i64 (a0.2.1.getD 3 0), .int .i64 (a0.2.1.getD 4 0), .int .i64 (a0.2.1.getD 5 0), v1, v2, .string a0.2.2.2.2.1, .string a0.2.2.2.2.2].toArray, .agg [.string a1.1, .int .i64 a1.2.1, .int .i64 a1.2.2.1, .int .i64 a1.2.2.2.1, .int .i64 a1.2.2.2.2.1, .int .i64 a1.2.2.2.2.2.1, .int .i64 a1.2.2.2.2.2.2].toArray] σ [] (fun v τ gs => gs = [] ∧ .string r = v) := by
 refine call_of Tryd.func71 Tryd.ntmps71 rfl rfl (fun cs fs => ?_)
 refine Z 2 rfl ?_
 refine o_box (cs := [.int .i64 a0.1, .int .i64 (a0.2.1.getD 0 0), .int .i64 (a0.2.1.getD 1 0), .int .i64 (a0.2.1.getD 2 0), .int .i64 (a0.2.1.getD 3 0), .int .i64 (a0.2.1.getD 4 0), .int .i64 (a0.2.1.getD 5 0), v1, v2, .string a0.2.2.2.2.1, .string a0.2.2.2.2.2]) rfl rfl rfl rfl rfl (fun b5 => ?_)
 refine o_boxC rfl rfl rfl rfl rfl rfl (fun b6 => ?_)
 refine o_assign rfl rfl rfl (ev_str z_str19) ?_
 refine ZZ 17 [0] rfl rfl ?_
 refine st_if rfl h (fun h => ?_) (fun h => ?_)
 ·refine st_seq ?_
  refine st_cut (fun ρ τ7 gs => ∃ (s7 : List ByteArray) (v8 : Value) (g9 : Grp), say_value_j1 s7 r ∧ σ.Le τ7 ∧ ESub ρ [(2, .pointer (some ⟨b5, 0, none⟩)), (3, .pointer (some ⟨b6, 0, none⟩)), (4, .string (bstr [])), (5, v8)] ∧ gs = [[(b5, .cells #[.int .i64 a0.1, .int .i64 (a0.2.1.getD 0 0), .int .i64 (a0.2.1.getD 1 0), .int .i64 (a0.2.1.getD 2 0), .int .i64 (a0.2.1.getD 3 0), .int .i64 (a0.2.1.getD 4 0), .int .i64 (a0.2.1.getD 5 0), v1, v2, .string a0.2.2.2.2.1, .string a0.2.2.2.2.2] 26 (0, 0))], [(b6, .cells #[.string a1.1, .int .i64 a1.2.1, .int .i64 a1.2.2.1, .int .i64 a1.2.2.2.1, .int .i64 a1.2.2.2.2.1, .int .i64 a1.2.2.2.2.2.1, .int .i64 a1.2.2.2.2.2.2] 121 (0, 0))], g9] ∧ Ow kS 9 τ7 v8 s7 g9) ?_ (fun hk7 => ?_)
  ·rintro ρ7 τ7 gs7 ⟨s7, v8, g9, h, hl7, hρ, rfl, ho10⟩
   refine st_es hρ ?_
   refine Z 3 rfl ?_
   obtain ⟨r16, hr17, h⟩ := h
   refine st_ord [2, 0, 0] _ rfl ?_
   refine st_freeze (fun τ11 hl12 hg13 => ?_)
   have hs14 := ho10.freeze hl12 hg13
   refine st_call (foot := []) rfl rfl rfl rfl (evs_cons rfl (evs_cons (ev_str z_str27) rfl)) rfl (callV_fn z_en111 (strings_Join_ok hr17 τ11 hs14)) ?_
   rintro vτ18 τ18 gsτ18 hl19 ⟨rfl, rfl⟩
   refine Z 2 rfl ?_
   refine st_ord [] _ rfl ?_
   obtain rfl := Eq.symm h
   exact st_ret (gs' := []) Tryd.func71 rfl (List.Sublist.refl _) ((hl7.trans hl12).trans hl19) ⟨rfl, rfl⟩
  refine ZZ 4 [1] rfl rfl ?_
  refine o_lenI rfl rfl rfl z_slT23 rfl hs3 ?_
  refine Z 2 rfl ?_
  obtain ⟨e20, hL20, hA20⟩ := h
  refine st_addNil ?_
  refine st_ord [2, 1, 0] _ rfl ?_
  refine st_loop hL20 (fun (s20 : List ByteArray × Int) ρ τ20 gs => σ.Le τ20 ∧ ∃ (v21 : Value) (g22 : Grp), ESub ρ [(2, .pointer (some ⟨b5, 0, none⟩)), (3, .pointer (some ⟨b6, 0, none⟩)), (4, .string (bstr [])), (5, v21), (15, v1), (16, .int .i64 (a0.2.2.1.length : Int)), (17, .int .i64 s20.2)] ∧ gs = [[(b5, .cells #[.int .i64 a0.1, .int .i64 (a0.2.1.getD 0 0), .int .i64 (a0.2.1.getD 1 0), .int .i64 (a0.2.1.getD 2 0), .int .i64 (a0.2.1.getD 3 0), .int .i64 (a0.2.1.getD 4 0), .int .i64 (a0.2.1.getD 5 0), v1, v2, .string a0.2.2.2.2.1, .string a0.2.2.2.2.2] 26 (0, 0))], [(b6, .cells #[.string a1.1, .int .i64 a1.2.1, .int .i64 a1.2.2.1, .int .i64 a1.2.2.2.1, .int .i64 a1.2.2.2.2.1, .int .i64 a1.2.2.2.2.2.1, .int .i64 a1.2.2.2.2.2.2] 121 (0, 0))], g22] ∧ Ow kS 9 τ20 v21 s20.1 g22) ⟨Sto.Le.refl _, _, _, rfl, rfl, Ow.nil⟩ ?_
  rintro s20 o20 h he20 ρ20 τ20 gs20 ⟨hl20, v21, g22, hρ, rfl, ho23⟩ hn20
  refine st_es hρ ?_
  refine Z 5 rfl ?_
  refine st_if rfl h (fun h => ?_) (fun h => ?_)
  ·refine Z 5 rfl ?_
   obtain ⟨q24, hf25, h⟩ := h
   refine o_index rfl rfl rfl z_slT23 rfl rfl (hs3.up hl20) rfl hf25 (fun b26 of27 vs hc28 hrep => ?_)
   obtain ⟨_, _, rfl, rfl, rfl⟩ := hrep
   refine o_loadIN (vs := [.int .i64 q24.1, .int .i64 q24.2]) rfl rfl rfl z_agg46 rfl rfl (celn_part 0 rfl hc28) ?_
   refine o_alloc rfl rfl rfl z_zero46 (fun b29 => ?_)
   refine ZZ 2 [0] rfl rfl ?_
   obtain ⟨r30, hr31, hf34, r35, hr36, hf39, hf50, hf51, h⟩ := h
   refine st_d41 [[(b29, .cells #[.int .i64 q24.1, .int .i64 q24.2] 46 (0, 0))], [(b5, .cells #[.int .i64 a0.1, .int .i64 (a0.2.1.getD 0 0), .int .i64 (a0.2.1.getD 1 0), .int .i64 (a0.2.1.getD 2 0), .int .i64 (a0.2.1.getD 3 0), .int .i64 (a0.2.1.getD 4 0), .int .i64 (a0.2.1.getD 5 0), v1, v2, .string a0.2.2.2.2.1, .string a0.2.2.2.2.2] 26 (0, 0))], [(b6, .cells #[.string a1.1, .int .i64 a1.2.1, .int .i64 a1.2.2.1, .int .i64 a1.2.2.2.1, .int .i64 a1.2.2.2.2.1, .int .i64 a1.2.2.2.2.2.1, .int .i64 a1.2.2.2.2.2.2] 121 (0, 0))]] [g22] 11 1 [none, none, none, none, none, none, none, none, none, none, some (0, 0)] [none, none, none, none, none, none, none, none, none, none, none] [[none, some 31]] [.v (v21), .v (.pointer (some ⟨b29, 0, none⟩)), .v (.int .i64 q24.1), .v (.string r30), .v (.string (r30 ++ (bstr [44]))), .v (.pointer (some ⟨b29, 1, none⟩)), .v (.int .i64 q24.2), .v (.string r35), .v (.string ((r30 ++ (bstr [44])) ++ r35)), .t fun τ v => ∃ (v40 : Value), (v40 : Value) = v ∧ Sl kS τ v40 [((r30 ++ (bstr [44])) ++ r35)], .t fun _ _ => True] [[fun τ u F => F = [g22], fun τ u F => ∃ (v52 : Value) (g53 : Grp), F = [g53] ∧ v52 = u ∧ Ow kS 9 τ v52 (s20.1 ++ [((r30 ++ (bstr [44])) ++ r35)]) g53]] rfl z_mix rfl ⟨fun _ _ _ hl ⟨v40, hv, hs46⟩ => ⟨v40, hv, hs46.up hl⟩, ⟨fun _ _ _ _ _ => trivial, trivial⟩⟩ ⟨⟨fun _ _ _ _ hl h => h, ⟨fun _ _ _ _ hl h => (let ⟨v52, g53, hF, hU, ho54⟩ := h; ⟨v52, g53, hF, hU, ho54.up hl⟩), trivial⟩⟩, trivial⟩ rfl rfl ?_ (allB_cons (allB_cons (allB_cons (allB_cons (allB_cons (allB_cons (allB_cons (allB_cons (allB_cons (allB_cons (allB_cons allB_nil (p4 dA)) (p4 dA)) ?_) ?_) ?_) (p4 dA)) ?_) ?_) ?_) ?_) ?_) ?_
   ·exact rfl
   ·intro ρ' τ pool rs hl hd hout hw hk
    obtain ⟨_, e1, rfl⟩ := hd 1 rfl _ rfl
    refine o_load (j := 0) (v := .int .i64 q24.1) rfl rfl rfl z_sc3 e1 rfl rfl ?_
    exact hk _ _ (Sto.Le.refl _) rfl
   ·intro ρ' τ pool rs hl hd hout hw hk
    obtain ⟨_, e2, rfl⟩ := hd 2 rfl _ rfl
    refine st_call (foot := []) rfl rfl rfl rfl (evs_cons e2 rfl) rfl (callV_fn z_en77 (say_Number_ok hr31 τ (hT.up (hl20.trans hl)))) ?_
    rintro vτ32 τ32 gsτ32 hl33 ⟨rfl, rfl⟩
    exact hk _ _ hl33 rfl
   ·intro ρ' τ pool rs hl hd hout hw hk
    obtain ⟨_, e3, rfl⟩ := hd 3 rfl _ rfl
    refine o_sadd rfl rfl rfl e3 (ev_str z_str26) hf34 ?_
    exact hk _ _ (Sto.Le.refl _) rfl
   ·intro ρ' τ pool rs hl hd hout hw hk
    obtain ⟨_, e5, rfl⟩ := hd 5 rfl _ rfl
    refine o_load (j := 0) (v := .int .i64 q24.2) rfl rfl rfl z_sc3 e5 rfl rfl ?_
    exact hk _ _ (Sto.Le.refl _) rfl
   ·intro ρ' τ pool rs hl hd hout hw hk
    obtain ⟨_, e6, rfl⟩ := hd 6 rfl _ rfl
    refine st_call (foot := []) rfl rfl rfl rfl (evs_cons e6 rfl) rfl (callV_fn z_en77 (say_Number_ok hr36 τ (hT.up (hl20.trans hl)))) ?_
    rintro vτ37 τ37 gsτ37 hl38 ⟨rfl, rfl⟩
    exact hk _ _ hl38 rfl
   ·intro ρ' τ pool rs hl hd hout hw hk
    obtain ⟨_, e4, rfl⟩ := hd 4 rfl _ rfl
    obtain ⟨_, e7, rfl⟩ := hd 7 rfl _ rfl
    refine o_sadd rfl rfl rfl e4 e7 hf39 ?_
    exact hk _ _ (Sto.Le.refl _) rfl
   ·intro ρ' τ pool rs hl hd hout hw hk
    obtain ⟨_, e8, rfl⟩ := hd 8 rfl _ rfl
    refine o_litE eS [((r30 ++ (bstr [44])) ++ r35)] rfl rfl rfl z_slT68 z_zero9 ⟨rfl, ⟨_, e8, rfl⟩, trivial⟩ rfl rfl rfl rfl (fun v40 g41 ho42 => ?_)
    refine st_freeze (fun τ43 hl44 hg45 => ?_)
    have hs46 := ho42.freeze hl44 hg45
    exact hk _ _ hl44 ⟨v40, rfl, hs46⟩
   ·intro ρ' τ u Fv pool rs hl hI hu hd hout hw hk
    obtain ⟨_, e0, rfl⟩ := hd 0 rfl _ rfl
    obtain ⟨_, e9, v40, rfl, hs46⟩ := hd 9 rfl _ rfl
    have hI0 := hI
    obtain rfl := hI
    refine st_gs [[(b29, .cells #[.int .i64 q24.1, .int .i64 q24.2] 46 (0, 0))], [(b5, .cells #[.int .i64 a0.1, .int .i64 (a0.2.1.getD 0 0), .int .i64 (a0.2.1.getD 1 0), .int .i64 (a0.2.1.getD 2 0), .int .i64 (a0.2.1.getD 3 0), .int .i64 (a0.2.1.getD 4 0), .int .i64 (a0.2.1.getD 5 0), v1, v2, .string a0.2.2.2.2.1, .string a0.2.2.2.2.2] 26 (0, 0))], [(b6, .cells #[.string a1.1, .int .i64 a1.2.1, .int .i64 a1.2.2.1, .int .i64 a1.2.2.2.1, .int .i64 a1.2.2.2.2.1, .int .i64 a1.2.2.2.2.2.1, .int .i64 a1.2.2.2.2.2.2] 121 (0, 0))], g22, pool] rfl ?_
    refine st_ord [3, 0, 0, 0, 0] _ rfl ?_
    refine o_append (dk := kS) (xs := s20.1) (ys := [((r30 ++ (bstr [44])) ++ r35)]) rfl rfl rfl rfl z_slT68 e0 (ho23.up hl) e9 (Sl.src hs46) hf50 hf51 (fun v47 g48 ho49 => ?_)
    refine st_ord [1, 1, 1, 0, 0] _ rfl ?_
    exact hk _ _ [g48] (Sto.Le.refl _) trivial (by exact ⟨v47, g48, rfl, rfl, ho49⟩)
   intro ρ' τ55 vals u Fv hl55 hI hu hv hout
   obtain ⟨v52, g53, rfl, rfl, ho54⟩ := hI
   refine st_gs [[(b29, .cells #[.int .i64 q24.1, .int .i64 q24.2] 46 (0, 0))], [(b5, .cells #[.int .i64 a0.1, .int .i64 (a0.2.1.getD 0 0), .int .i64 (a0.2.1.getD 1 0), .int .i64 (a0.2.1.getD 2 0), .int .i64 (a0.2.1.getD 3 0), .int .i64 (a0.2.1.getD 4 0), .int .i64 (a0.2.1.getD 5 0), v1, v2, .string a0.2.2.2.2.1, .string a0.2.2.2.2.2] 26 (0, 0))], [(b6, .cells #[.string a1.1, .int .i64 a1.2.1, .int .i64 a1.2.2.1, .int .i64 a1.2.2.2.1, .int .i64 a1.2.2.2.2.1, .int .i64 a1.2.2.2.2.2.1, .int .i64 a1.2.2.2.2.2.2] 121 (0, 0))], g53] rfl ?_
   refine st_env (ρ' := [(2, .pointer (some ⟨b5, 0, none⟩)), (3, .pointer (some ⟨b6, 0, none⟩)), (4, .string (bstr [])), (15, v1), (16, .int .i64 (a0.2.2.1.length : Int)), (17, .int .i64 s20.2), (31, v52)]) ⟨(hout 2 rfl).trans rfl, (hout 3 rfl).trans rfl, (hout 4 rfl).trans rfl, (hout 15 rfl).trans rfl, (hout 16 rfl).trans rfl, (hout 17 rfl).trans rfl, (by exact hu _ rfl), trivial⟩ ?_
   refine Z 7 rfl ?_
   refine st_ord [1, 1, 1] _ rfl ?_
   exact hn20 _ _ _ _ h ⟨(hl20.trans hl55), _, _, rfl, rfl, ho54⟩
  ·refine st_exit rfl ?_
   obtain rfl := he20 _ h
   replace h := hA20
   exact hk7 _ _ _ ⟨s20.1, _, _, h, hl20, rfl, rfl, ho23⟩
 ·refine Z 5 rfl ?_
  refine st_if rfl h (fun h => ?_) (fun h => ?_)
  ·refine st_seq ?_
   refine st_cut (fun ρ τ57 gs => ∃ (s57 : List ByteArray) (v58 : Value) (g59 : Grp), say_value_j3 s57 r ∧ σ.Le τ57 ∧ ESub ρ [(2, .pointer (some ⟨b5, 0, none⟩)), (3, .pointer (some ⟨b6, 0, none⟩)), (4, .string (bstr [])), (5, v58)] ∧ gs = [[(b5, .cells #[.int .i64 a0.1, .int .i64 (a0.2.1.getD 0 0), .int .i64 (a0.2.1.getD 1 0), .int .i64 (a0.2.1.getD 2 0), .int .i64 (a0.2.1.getD 3 0), .int .i64 (a0.2.1.getD 4 0), .int .i64 (a0.2.1.getD 5 0), v1, v2, .string a0.2.2.2.2.1, .string a0.2.2.2.2.2] 26 (0, 0))], [(b6, .cells #[.string a1.1, .int .i64 a1.2.1, .int .i64 a1.2.2.1, .int .i64 a1.2.2.2.1, .int .i64 a1.2.2.2.2.1, .int .i64 a1.2.2.2.2.2.1, .int .i64 a1.2.2.2.2.2.2] 121 (0, 0))], g59] ∧ Ow kS 9 τ57 v58 s57 g59) ?_ (fun hk57 => ?_)
   ·rintro ρ57 τ57 gs57 ⟨s57, v58, g59, h, hl57, hρ, rfl, ho60⟩
    refine st_es hρ ?_
    refine Z 3 rfl ?_
    obtain ⟨r66, hr67, h⟩ := h
    refine st_ord [2, 0, 0] _ rfl ?_
    refine st_freeze (fun τ61 hl62 hg63 => ?_)
    have hs64 := ho60.freeze hl62 hg63
    refine st_call (foot := []) rfl rfl rfl rfl (evs_cons rfl (evs_cons (ev_str z_str26) rfl)) rfl (callV_fn z_en111 (strings_Join_ok hr67 τ61 hs64)) ?_
    rintro vτ68 τ68 gsτ68 hl69 ⟨rfl, rfl⟩
    refine Z 2 rfl ?_
    refine st_ord [] _ rfl ?_
    obtain rfl := Eq.symm h
    exact st_ret (gs' := []) Tryd.func71 rfl (List.Sublist.refl _) ((hl57.trans hl62).trans hl69) ⟨rfl, rfl⟩
   refine ZZ 4 [1] rfl rfl ?_
   refine o_lenI rfl rfl rfl z_slT24 rfl hs4 ?_
   refine Z 2 rfl ?_
   obtain ⟨e70, hL70, hA70⟩ := h
   refine st_addNil ?_
   refine st_ord [2, 1, 0] _ rfl ?_
   refine st_loop hL70 (fun (s70 : List ByteArray × Int) ρ τ70 gs => σ.Le τ70 ∧ ∃ (v71 : Value) (g72 : Grp), ESub ρ [(2, .pointer (some ⟨b5, 0, none⟩)), (3, .pointer (some ⟨b6, 0, none⟩)), (4, .string (bstr [])), (5, v71), (38, v2), (39, .int .i64 (a0.2.2.2.1.length : Int)), (40, .int .i64 s70.2)] ∧ gs = [[(b5, .cells #[.int .i64 a0.1, .int .i64 (a0.2.1.getD 0 0), .int .i64 (a0.2.1.getD 1 0), .int .i64 (a0.2.1.getD 2 0), .int .i64 (a0.2.1.getD 3 0), .int .i64 (a0.2.1.getD 4 0), .int .i64 (a0.2.1.getD 5 0), v1, v2, .string a0.2.2.2.2.1, .string a0.2.2.2.2.2] 26 (0, 0))], [(b6, .cells #[.string a1.1, .int .i64 a1.2.1, .int .i64 a1.2.2.1, .int .i64 a1.2.2.2.1, .int .i64 a1.2.2.2.2.1, .int .i64 a1.2.2.2.2.2.1, .int .i64 a1.2.2.2.2.2.2] 121 (0, 0))], g72] ∧ Ow kS 9 τ70 v71 s70.1 g72) ⟨Sto.Le.refl _, _, _, rfl, rfl, Ow.nil⟩ ?_
   rintro s70 o70 h he70 ρ70 τ70 gs70 ⟨hl70, v71, g72, hρ, rfl, ho73⟩ hn70
   refine st_es hρ ?_
   refine Z 5 rfl ?_
   refine st_if rfl h (fun h => ?_) (fun h => ?_)
   ·refine Z 5 rfl ?_
    obtain ⟨q74, hf75, h⟩ := h
    refine o_index rfl rfl rfl z_slT24 rfl rfl (hs4.up hl70) rfl hf75 (fun b76 of77 vs hc78 hrep => ?_)
    obtain rfl := hrep
    refine o_loadI (v := .int .i64 q74) rfl rfl rfl z_sc3 rfl (hc78 0 _ rfl) ?_
    refine Z 5 rfl ?_
    obtain ⟨r79, hr80, h⟩ := h
    refine st_call (foot := []) rfl rfl rfl rfl rfl rfl (callV_fn z_en77 (say_Number_ok hr80 τ70 (hT.up hl70))) ?_
    rintro vτ81 τ81 gsτ81 hl82 ⟨rfl, rfl⟩
    refine o_litE eS [r79] rfl rfl rfl z_slT68 z_zero9 ⟨rfl, ⟨_, rfl, rfl⟩, trivial⟩ rfl rfl rfl rfl (fun v83 g84 ho85 => ?_)
    obtain ⟨hf89, hf90, h⟩ := h
    refine st_ord [3, 0, 0, 0] _ rfl ?_
    refine o_append (dk := kS) (xs := s70.1) (ys := [r79]) rfl rfl rfl rfl z_slT68 rfl (ho73.up hl82) rfl (Ow.src (j := 1) ho85 rfl) hf89 hf90 (fun v86 g87 ho88 => ?_)
    refine Z 7 rfl ?_
    refine st_ord [2, 2, 0] _ rfl ?_
    exact hn70 _ _ _ _ h ⟨(hl70.trans hl82), _, _, rfl, rfl, ho88⟩
   ·refine st_exit rfl ?_
    obtain rfl := he70 _ h
    replace h := hA70
    exact hk57 _ _ _ ⟨s70.1, _, _, h, hl70, rfl, rfl, ho73⟩
  ·refine Z 5 rfl ?_
   refine st_if rfl h (fun h => ?_) (fun h => ?_)
   ·refine ZZ 4 [1] rfl rfl ?_
    obtain ⟨r92, hr93, h⟩ := h
    refine st_call (foot := []) rfl rfl rfl rfl rfl rfl (callV_fn z_en112 (say_hex_ok hr93 σ)) ?_
    rintro vτ94 τ94 gsτ94 hl95 ⟨rfl, rfl⟩
    refine Z 2 rfl ?_
    refine st_ord [] _ rfl ?_
    obtain rfl := Eq.symm h
    exact st_ret (gs' := []) Tryd.func71 rfl (List.Sublist.refl _) hl95 ⟨rfl, rfl⟩
   ·refine Z 5 rfl ?_
    refine st_if rfl h (fun h => ?_) (fun h => ?_)
    ·refine ZZ 4 [1] rfl rfl ?_
     obtain ⟨r96, hr97, h⟩ := h
     refine st_call (foot := []) rfl rfl rfl rfl rfl rfl (callV_fn z_en112 (say_hex_ok hr97 σ)) ?_
     rintro vτ98 τ98 gsτ98 hl99 ⟨rfl, rfl⟩
     refine Z 2 rfl ?_
     refine st_ord [] _ rfl ?_
     obtain rfl := Eq.symm h
     exact st_ret (gs' := []) Tryd.func71 rfl (List.Sublist.refl _) hl99 ⟨rfl, rfl⟩
    ·refine ZZ 7 [0] rfl rfl ?_
     obtain ⟨hf100, hf101, h⟩ := h
     refine o_indexA rfl rfl rfl z_arr22 rfl rfl hf100 hf101 ?_
     refine o_loadV (j := 1) (a1.2.2.1.toNat) (f := (Value.int .i64)) (zz := 0) (l := 6) (xs := a0.2.1) [.int .i64 a0.1] [v1, v2, .string a0.2.2.2.2.1, .string a0.2.2.2.2.2] rfl rfl rfl z_sc3 rfl rfl (by simp only [List.length_cons, List.length_nil]; omega) (by omega) ?_
     obtain ⟨r102, hr103, h⟩ := h
     refine st_call (foot := []) rfl rfl rfl rfl rfl rfl (callV_fn z_en77 (say_Number_ok hr103 σ hT)) ?_
     rintro vτ104 τ104 gsτ104 hl105 ⟨rfl, rfl⟩
     refine Z 2 rfl ?_
     refine st_ord [] _ rfl ?_
     obtain rfl := Eq.symm h
     exact st_ret (gs' := []) Tryd.func71 rfl (List.Sublist.refl _) hl105 ⟨rfl, rfl⟩
theorem say_Line_ok {a0 : Int × List Int × List (Int × Int) × List Int × ByteArray × ByteArray} {v1 : Value} {v2 : Value} {r : ByteArray} (h : say_Line a0 r) (σ : Sto) (hs3 : Sl (kP (kI .i64) (kI .i64)) σ v1 a0.2.2.1) (hs4 : Sl (kI .i64) σ v2 a0.2.2.2.1) (hT : Tab Tryd.prog σ) :
    Does Tryd.prog 14 [.agg [.int .i64 a0.1, .int .i64 (a0.2.1.getD 0 0), .int .i64 (a0.2.1.getD 1 0), .int .i64 (a0.2.1.getD 2 0), .int .i64 (a0.2.1.getD 3 0), .int .i64 (a0.2.1.getD 4 0), .int .i64 (a0.2.1.getD 5 0), v1, v2, .string a0.2.2.2.2.1, .string a0.2.2.2.2.2].toArray] σ [] (fun v τ gs => gs = [] ∧ .string r = v) := by
 refine call_of Tryd.func14 Tryd.ntmps14 rfl rfl (fun cs fs => ?_)
 refine Z 2 rfl ?_
 refine o_box (cs := [.int .i64 a0.1, .int .i64 (a0.2.1.getD 0 0), .int .i64 (a0.2.1.getD 1 0), .int .i64 (a0.2.1.getD 2 0), .int .i64 (a0.2.1.getD 3 0), .int .i64 (a0.2.1.getD 4 0), .int .i64 (a0.2.1.getD 5 0), v1, v2, .string a0.2.2.2.2.1, .string a0.2.2.2.2.2]) rfl rfl rfl rfl rfl (fun b5 => ?_)
 refine o_assign rfl rfl rfl (ev_str z_str19) ?_
 refine ZZ 5 [0] rfl rfl ?_
 obtain ⟨r6, hr7, h⟩ := h
 refine st_call (foot := []) rfl rfl rfl rfl rfl rfl (callV_fn z_en12 (msg_Check_ok hr7 σ hs3 hs4)) ?_
 rintro vτ8 τ8 gsτ8 hl9 ⟨rfl, rfl⟩
 refine Z 2 rfl ?_
 refine st_if rfl h (fun h => ?_) (fun h => ?_)
 ·refine Z 2 rfl ?_
  refine o_assign rfl rfl rfl (ev_str z_str19) ?_
  refine st_end ?_
  refine st_ord [] _ rfl ?_
  obtain rfl := Eq.symm h
  exact st_ret (gs' := []) Tryd.func14 rfl (List.Sublist.refl _) hl9 ⟨rfl, rfl⟩
 ·refine ZZ 5 [0] rfl rfl ?_
  obtain ⟨r10, hr11, h⟩ := h
  refine st_call (foot := []) rfl rfl rfl rfl rfl rfl (callV_fn z_en69 (field_Word_ok hr11 τ8)) ?_
  rintro vτ12 τ12 gsτ12 hl13 ⟨rfl, rfl⟩
  refine o_alloc rfl rfl rfl z_zero9 (fun b14 => ?_)
  refine ZZ 7 [0, 1] rfl rfl ?_
  obtain ⟨r15, hr16, h⟩ := h
  refine st_call (foot := []) rfl rfl rfl rfl rfl rfl (callV_fn z_en70 (field_All_ok hr16 τ12)) ?_
  rintro vτ17 τ17 gsτ17 hl18 ⟨f19, q20, rfl, rfl, hit21⟩
  refine Z 2 rfl ?_
  obtain ⟨t22, w22, hR22, hA22⟩ := h
  refine st_env (ρ' := [(1, .pointer (some ⟨b5, 0, none⟩)), (2, .string (bstr [])), (3, .pointer (some ⟨b14, 0, none⟩)), (13, .func (.func f19) #[] q20)]) ⟨rfl, rfl, rfl, rfl, trivial⟩ ?_
  refine st_ord [1, 0] _ rfl ?_
  refine st_addNil ?_
  refine st_range (B := say_Line_l1 a0) (s0 := r10) ranges_fctx rfl hit21 (Sto.Le.refl _) hR22 rfl (fun _ _ _ h => by cases h; rfl) (fun (s22 : ByteArray) τ22 gs => τ17.Le τ22 ∧ gs = [[(b5, .cells #[.int .i64 a0.1, .int .i64 (a0.2.1.getD 0 0), .int .i64 (a0.2.1.getD 1 0), .int .i64 (a0.2.1.getD 2 0), .int .i64 (a0.2.1.getD 3 0), .int .i64 (a0.2.1.getD 4 0), .int .i64 (a0.2.1.getD 5 0), v1, v2, .string a0.2.2.2.2.1, .string a0.2.2.2.2.2] 26 (0, 0))], [(b14, .cells #[.string s22] 9 (0, 0))]]) (fun _ _ _ _ => False) (fun _ _ _ _ hl ⟨hb, hg⟩ => ⟨hb.trans hl, hg⟩) (fun _ _ _ _ _ _ h => h.elim) ⟨Sto.Le.refl _, rfl⟩ ?_ ?_ ?_
  ·rintro x22 s22 o22 τ22 gs22 vx22 hl22 h rfl ⟨hb22, rfl⟩ l22 rc22 caller22 cs22 fs22
   refine st_region ?_
   refine o_alloc rfl rfl rfl z_zero121 (fun b23 => ?_)
   refine ZZ 2 [0] rfl rfl ?_
   refine st_begin ?_
   refine st_block ?_
   obtain ⟨hf24, hf25, r26, hr27, hf30, hf31, h⟩ := h
   refine st_draw 10 (dl [.v (.string s22), .v (.pointer (some ⟨b23, 0, none⟩)), .v (.string x22.1), .v (.string ((bstr [32]) ++ x22.1)), .v (.string (((bstr [32]) ++ x22.1) ++ (bstr [32]))), .v (.agg #[.int .i64 a0.1, .int .i64 (a0.2.1.getD 0 0), .int .i64 (a0.2.1.getD 1 0), .int .i64 (a0.2.1.getD 2 0), .int .i64 (a0.2.1.getD 3 0), .int .i64 (a0.2.1.getD 4 0), .int .i64 (a0.2.1.getD 5 0), v1, v2, .string a0.2.2.2.2.1, .string a0.2.2.2.2.2]), .v (.agg #[.string x22.1, .int .i64 x22.2.1, .int .i64 x22.2.2.1, .int .i64 x22.2.2.2.1, .int .i64 x22.2.2.2.2.1, .int .i64 x22.2.2.2.2.2.1, .int .i64 x22.2.2.2.2.2.2]), .v (.string r26), .v (.string ((((bstr [32]) ++ x22.1) ++ (bstr [32])) ++ r26)), .v (.string (s22 ++ ((((bstr [32]) ++ x22.1) ++ (bstr [32])) ++ r26)))]) (fun _ _ => []) z_mix rfl (dl_mono trivial) (allB_cons (allB_cons (allB_cons (allB_cons (allB_cons (allB_cons (allB_cons (allB_cons (allB_cons (allB_cons allB_nil ?_) (p1 dA)) ?_) ?_) ?_) ?_) ?_) ?_) ?_) ?_) ?_
   ·intro ρ' τ pool rs hl hd hout hk
    refine o_load (j := 2) (v := .string s22) rfl rfl rfl z_sc9 ((hout 3 rfl).trans rfl) rfl rfl ?_
    exact st_addNil (hk _ _ (Sto.Le.refl _) rfl)
   ·intro ρ' τ pool rs hl hd hout hk
    obtain ⟨_, e1, rfl⟩ := hd 1 rfl
    refine o_load (j := 0) (v := .string x22.1) rfl rfl rfl z_sc9 e1 rfl rfl ?_
    exact st_addNil (hk _ _ (Sto.Le.refl _) rfl)
   ·intro ρ' τ pool rs hl hd hout hk
    obtain ⟨_, e2, rfl⟩ := hd 2 rfl
    refine o_sadd rfl rfl rfl (ev_str z_str25) e2 hf24 ?_
    exact st_addNil (hk _ _ (Sto.Le.refl _) rfl)
   ·intro ρ' τ pool rs hl hd hout hk
    obtain ⟨_, e3, rfl⟩ := hd 3 rfl
    refine o_sadd rfl rfl rfl e3 (ev_str z_str25) hf25 ?_
    exact st_addNil (hk _ _ (Sto.Le.refl _) rfl)
   ·intro ρ' τ pool rs hl hd hout hk
    refine o_loadN (j := 1) (vs := [.int .i64 a0.1, .int .i64 (a0.2.1.getD 0 0), .int .i64 (a0.2.1.getD 1 0), .int .i64 (a0.2.1.getD 2 0), .int .i64 (a0.2.1.getD 3 0), .int .i64 (a0.2.1.getD 4 0), .int .i64 (a0.2.1.getD 5 0), v1, v2, .string a0.2.2.2.2.1, .string a0.2.2.2.2.2]) rfl rfl rfl z_agg26 ((hout 1 rfl).trans rfl) rfl rfl ?_
    exact st_addNil (hk _ _ (Sto.Le.refl _) rfl)
   ·intro ρ' τ pool rs hl hd hout hk
    refine o_loadN (j := 0) (vs := [.string x22.1, .int .i64 x22.2.1, .int .i64 x22.2.2.1, .int .i64 x22.2.2.2.1, .int .i64 x22.2.2.2.2.1, .int .i64 x22.2.2.2.2.2.1, .int .i64 x22.2.2.2.2.2.2]) rfl rfl rfl z_agg121 ((hout 4 rfl).trans rfl) rfl rfl ?_
    exact st_addNil (hk _ _ (Sto.Le.refl _) rfl)
   ·intro ρ' τ pool rs hl hd hout hk
    obtain ⟨_, e5, rfl⟩ := hd 5 rfl
    obtain ⟨_, e6, rfl⟩ := hd 6 rfl
    refine st_call (foot := []) rfl rfl rfl rfl (evs_cons e5 (evs_cons e6 rfl)) rfl (callV_fn z_en71 (say_value_ok hr27 τ (hs3.up ((((hl9.trans hl13).trans hl18).trans hl22).trans hl)) (hs4.up ((((hl9.trans hl13).trans hl18).trans hl22).trans hl)) (hT.up ((((hl9.trans hl13).trans hl18).trans hl22).trans hl)))) ?_
    rintro vτ28 τ28 gsτ28 hl29 ⟨rfl, rfl⟩
    exact st_addNil (hk _ _ hl29 rfl)
   ·intro ρ' τ pool rs hl hd hout hk
    obtain ⟨_, e4, rfl⟩ := hd 4 rfl
    obtain ⟨_, e7, rfl⟩ := hd 7 rfl
    refine o_sadd rfl rfl rfl e4 e7 hf30 ?_
    exact st_addNil (hk _ _ (Sto.Le.refl _) rfl)
   ·intro ρ' τ pool rs hl hd hout hk
    obtain ⟨_, e0, rfl⟩ := hd 0 rfl
    obtain ⟨_, e8, rfl⟩ := hd 8 rfl
    refine o_sadd rfl rfl rfl e0 e8 hf31 ?_
    exact st_addNil (hk _ _ (Sto.Le.refl _) rfl)
   intro ρ' τ32 vals hl32 hv hout
   refine st_ord [0, 0, 0] _ rfl ?_
   refine st_env (ρ' := [(24, .string (s22 ++ ((((bstr [32]) ++ x22.1) ++ (bstr [32])) ++ r26))), (1, .pointer (some ⟨b5, 0, none⟩)), (2, .string (bstr [])), (3, .pointer (some ⟨b14, 0, none⟩)), (14, .agg #[.string x22.1, .int .i64 x22.2.1, .int .i64 x22.2.2.1, .int .i64 x22.2.2.2.1, .int .i64 x22.2.2.2.2.1, .int .i64 x22.2.2.2.2.2.1, .int .i64 x22.2.2.2.2.2.2]), (4, .pointer (some ⟨b23, 0, none⟩))]) ⟨(lv1 hv 9 rfl rfl), (hout 1 rfl).trans rfl, (hout 2 rfl).trans rfl, (hout 3 rfl).trans rfl, (hout 14 rfl).trans rfl, (hout 4 rfl).trans rfl, trivial⟩ ?_
   refine ZZ 3 [2] rfl rfl ?_
   refine st_ord [1, 1] _ rfl ?_
   exact st_rend (List.Sublist.refl _) hl32 ⟨_, h, (hl22.trans hl32), rfl⟩
  ·rintro p33 τ34 gs22 f22 ht hl35 ⟨hb, rfl⟩ rfl
   subst ht
   replace h := hA22
   refine st_ord [1, 1] _ rfl ?_
   refine ZZ 6 [1] rfl rfl ?_
   refine st_ord [] _ rfl ?_
   obtain rfl := Eq.symm h
   exact st_ret (gs' := []) Tryd.func14 rfl (List.Sublist.refl _) (((hl9.trans hl13).trans hl18).trans hl35) ⟨rfl, rfl⟩
  ·exact fun _ _ _ _ _ _ _ h => h.elim
theorem slices_Clone_msg_Point_msg_Point_ok {a0 : List (Int × Int)} {v1 : Value} {r : (List (Int × Int))} (h : slices_Clone_msg_Point_msg_Point a0 r) (σ : Sto) (hs2 : Sl (kP (kI .i64) (kI .i64)) σ v1 a0) :
    Does Tryd.prog 74 [v1] σ [] (fun v τ gs => ∃ (v18 : Value), gs = [] ∧ v18 = v ∧ Sl (kP (kI .i64) (kI .i64)) τ v18 r) := by
 refine call_of Tryd.func74 Tryd.ntmps74 rfl rfl (fun cs fs => ?_)
 refine Z 8 rfl ?_
 refine o_slNil rfl rfl rfl Tryd.underlying23 rfl hs2 rfl (fun b3 hb4 => ?_)
 replace h := h b3 hb4
 refine st_end ?_
 refine st_if rfl h (fun h => ?_) (fun h => ?_)
 ·refine Z 4 rfl ?_
  obtain rfl := Eq.symm h
  exact st_ret (gs' := []) Tryd.func74 rfl (List.Sublist.refl _) (Sto.Le.refl _) ⟨_, rfl, rfl, Sl.nil⟩
 ·refine Z 3 rfl ?_
  refine o_lit (dk := (kP (kI .i64) (kI .i64))) (xs := ([] : List (Int × Int))) (ps := []) (cs := []) rfl rfl rfl z_slT23 z_zero46 trivial rfl rfl rfl rfl Kd.Many.nil (fun v5 g6 ho7 => ?_)
  refine o_move rfl rfl rfl rfl ?_
  obtain ⟨hf11, hf12, h⟩ := h
  refine o_append (dk := (kP (kI .i64) (kI .i64))) (xs := ([] : List (Int × Int))) (ys := a0) rfl rfl rfl rfl z_slT23 rfl ho7 rfl (Sl.src hs2) hf11 hf12 (fun v8 g9 ho10 => ?_)
  refine Z 2 rfl ?_
  refine st_freeze (fun τ13 hl14 hg15 => ?_)
  have hs16 := ho10.freeze hl14 hg15
  obtain rfl := Eq.symm h
  exact st_ret (gs' := []) Tryd.func74 rfl (List.Sublist.refl _) hl14 ⟨_, rfl, rfl, hs16⟩
theorem slices_Clone_int_int_ok {a0 : List Int} {v1 : Value} {r : List Int} (h : slices_Clone_int_int a0 r) (σ : Sto) (hs2 : Sl (kI .i64) σ v1 a0) :
    Does Tryd.prog 75 [v1] σ [] (fun v τ gs => ∃ (v18 : Value), gs = [] ∧ v18 = v ∧ Sl (kI .i64) τ v18 r) := by
 refine call_of Tryd.func75 Tryd.ntmps75 rfl rfl (fun cs fs => ?_)
 refine Z 8 rfl ?_
 refine o_slNil rfl rfl rfl Tryd.underlying24 rfl hs2 rfl (fun b3 hb4 => ?_)
 replace h := h b3 hb4
 refine st_end ?_
 refine st_if rfl h (fun h => ?_) (fun h => ?_)
 ·refine Z 4 rfl ?_
  obtain rfl := Eq.symm h
  exact st_ret (gs' := []) Tryd.func75 rfl (List.Sublist.refl _) (Sto.Le.refl _) ⟨_, rfl, rfl, Sl.nil⟩
 ·refine Z 3 rfl ?_
  refine o_lit (dk := (kI .i64)) (xs := ([] : List Int)) (ps := []) (cs := []) rfl rfl rfl z_slT24 z_zero3 trivial rfl rfl rfl rfl Kd.Many.nil (fun v5 g6 ho7 => ?_)
  refine o_move rfl rfl rfl rfl ?_
  obtain ⟨hf11, hf12, h⟩ := h
  refine o_append (dk := (kI .i64)) (xs := ([] : List Int)) (ys := a0) rfl rfl rfl rfl z_slT24 rfl ho7 rfl (Sl.src hs2) hf11 hf12 (fun v8 g9 ho10 => ?_)
  refine Z 2 rfl ?_
  refine st_freeze (fun τ13 hl14 hg15 => ?_)
  have hs16 := ho10.freeze hl14 hg15
  obtain rfl := Eq.symm h
  exact st_ret (gs' := []) Tryd.func75 rfl (List.Sublist.refl _) hl14 ⟨_, rfl, rfl, hs16⟩
theorem msg_Copy_ok {a0 : Int × List Int × List (Int × Int) × List Int × ByteArray × ByteArray} {v1 : Value} {v2 : Value} {r : (Int × List Int × List (Int × Int) × List Int × ByteArray × ByteArray)} (h : msg_Copy a0 r) (σ : Sto) (hs3 : Sl (kP (kI .i64) (kI .i64)) σ v1 a0.2.2.1) (hs4 : Sl (kI .i64) σ v2 a0.2.2.2.1) :
    Does Tryd.prog 16 [.agg [.int .i64 a0.1, .int .i64 (a0.2.1.getD 0 0), .int .i64 (a0.2.1.getD 1 0), .int .i64 (a0.2.1.getD 2 0), .int .i64 (a0.2.1.getD 3 0), .int .i64 (a0.2.1.getD 4 0), .int .i64 (a0.2.1.getD 5 0), v1, v2, .string a0.2.2.2.2.1, .string a0.2.2.2.2.2].toArray] σ [] (fun v τ gs => ∃ (v20 : Value) (v21 : Value), gs = [] ∧ .agg [.int .i64 r.1, .int .i64 (r.2.1.getD 0 0), .int .i64 (r.2.1.getD 1 0), .int .i64 (r.2.1.getD 2 0), .int .i64 (r.2.1.getD 3 0), .int .i64 (r.2.1.getD 4 0), .int .i64 (r.2.1.getD 5 0), v20, v21, .string r.2.2.2.2.1, .string r.2.2.2.2.2].toArray = v ∧ Sl (kP (kI .i64) (kI .i64)) τ v20 r.2.2.1 ∧ Sl (kI .i64) τ v21 r.2.2.2.1) := by
 refine call_of Tryd.func16 Tryd.ntmps16 rfl rfl (fun cs fs => ?_)
 refine Z 2 rfl ?_
 refine o_box (cs := [.int .i64 a0.1, .int .i64 (a0.2.1.getD 0 0), .int .i64 (a0.2.1.getD 1 0), .int .i64 (a0.2.1.getD 2 0), .int .i64 (a0.2.1.getD 3 0), .int .i64 (a0.2.1.getD 4 0), .int .i64 (a0.2.1.getD 5 0), v1, v2, .string a0.2.2.2.2.1, .string a0.2.2.2.2.2]) rfl rfl rfl rfl rfl (fun b5 => ?_)
 refine o_alloc rfl rfl rfl z_zero26 (fun b6 => ?_)
 refine Z 2 rfl ?_
 obtain ⟨r7, hr8, r13, hr14, h⟩ := h
 refine st_draw 7 (dl [.v (.pointer (some ⟨b5, 7, none⟩)), .v (v1), .t fun τ v => ∃ (v11 : Value), (v11 : Value) = v ∧ Sl (kP (kI .i64) (kI .i64)) τ v11 r7, .v (.pointer (some ⟨b5, 8, none⟩)), .v (v2), .t fun τ v => ∃ (v17 : Value), (v17 : Value) = v ∧ Sl (kI .i64) τ v17 r13, .v (.pointer (some ⟨b5, 7, none⟩))]) (fun _ _ => []) z_mix rfl (dl_mono ⟨fun _ _ _ hl ⟨v11, hv, hs12⟩ => ⟨v11, hv, hs12.up hl⟩, ⟨fun _ _ _ hl ⟨v17, hv, hs18⟩ => ⟨v17, hv, hs18.up hl⟩, trivial⟩⟩) (allB_cons (allB_cons (allB_cons (allB_cons (allB_cons (allB_cons (allB_cons allB_nil (p1 dA)) ?_) ?_) (p1 dA)) ?_) ?_) (p1 dA)) ?_
 ·intro ρ' τ pool rs hl hd hout hk
  obtain ⟨_, e0, rfl⟩ := hd 0 rfl
  refine o_load (j := 1) (v := v1) rfl rfl rfl z_sc23 e0 rfl rfl ?_
  exact st_addNil (hk _ _ (Sto.Le.refl _) rfl)
 ·intro ρ' τ pool rs hl hd hout hk
  obtain ⟨_, e1, rfl⟩ := hd 1 rfl
  refine st_call (foot := []) rfl rfl rfl rfl (evs_cons e1 rfl) rfl (callV_fn z_en74 (slices_Clone_msg_Point_msg_Point_ok hr8 τ (hs3.up hl))) ?_
  rintro vτ9 τ9 gsτ9 hl10 ⟨v11, rfl, rfl, hs12⟩
  exact st_addNil (hk _ _ hl10 ⟨v11, rfl, hs12⟩)
 ·intro ρ' τ pool rs hl hd hout hk
  obtain ⟨_, e3, rfl⟩ := hd 3 rfl
  refine o_load (j := 1) (v := v2) rfl rfl rfl z_sc24 e3 rfl rfl ?_
  exact st_addNil (hk _ _ (Sto.Le.refl _) rfl)
 ·intro ρ' τ pool rs hl hd hout hk
  obtain ⟨_, e4, rfl⟩ := hd 4 rfl
  refine st_call (foot := []) rfl rfl rfl rfl (evs_cons e4 rfl) rfl (callV_fn z_en75 (slices_Clone_int_int_ok hr14 τ (hs4.up hl))) ?_
  rintro vτ15 τ15 gsτ15 hl16 ⟨v17, rfl, rfl, hs18⟩
  exact st_addNil (hk _ _ hl16 ⟨v17, rfl, hs18⟩)
 intro ρ' τ19 vals hl19 hv hout
 obtain ⟨l2, v11, t2, hs12⟩ := hv 2 (by decide)
 replace l2 : Eng.look ρ' 5 = some (v11) := l2.trans (congrArg some (Eq.symm t2))
 obtain ⟨l5, v17, t5, hs18⟩ := hv 5 (by decide)
 replace l5 : Eng.look ρ' 8 = some (v17) := l5.trans (congrArg some (Eq.symm t5))
 refine st_ord [0, 0] _ rfl ?_
 refine st_env (ρ' := [(5, v11), (8, v17), (9, .pointer (some ⟨b5, 7, none⟩)), (1, .pointer (some ⟨b5, 0, none⟩)), (2, .pointer (some ⟨b6, 0, none⟩))]) ⟨l2, l5, (lv1 hv 6 rfl rfl), (hout 1 rfl).trans rfl, (hout 2 rfl).trans rfl, trivial⟩ ?_
 refine o_store (j := 1) (vs := [v11]) (cs' := [.int .i64 a0.1, .int .i64 (a0.2.1.getD 0 0), .int .i64 (a0.2.1.getD 1 0), .int .i64 (a0.2.1.getD 2 0), .int .i64 (a0.2.1.getD 3 0), .int .i64 (a0.2.1.getD 4 0), .int .i64 (a0.2.1.getD 5 0), v11, v2, .string a0.2.2.2.2.1, .string a0.2.2.2.2.2]) rfl rfl rfl z_size23 rfl rfl (oneL_sl hs12) (ones_cons hs12.one' ones_nil) rfl rfl rfl ?_
 refine st_gs [[(b6, .cells #[.int .i64 0, .int .i64 0, .int .i64 0, .int .i64 0, .int .i64 0, .int .i64 0, .int .i64 0, .slice none 0 0, .slice none 0 0, .string (bstr []), .string (bstr [])] 26 (0, 0))], [(b5, .cells #[.int .i64 a0.1, .int .i64 (a0.2.1.getD 0 0), .int .i64 (a0.2.1.getD 1 0), .int .i64 (a0.2.1.getD 2 0), .int .i64 (a0.2.1.getD 3 0), .int .i64 (a0.2.1.getD 4 0), .int .i64 (a0.2.1.getD 5 0), v11, v2, .string a0.2.2.2.2.1, .string a0.2.2.2.2.2] 26 (0, 0))]] rfl ?_
 refine o_fieldAddr rfl rfl rfl z_field26_3 rfl ?_
 refine o_store (j := 1) (vs := [v17]) (cs' := [.int .i64 a0.1, .int .i64 (a0.2.1.getD 0 0), .int .i64 (a0.2.1.getD 1 0), .int .i64 (a0.2.1.getD 2 0), .int .i64 (a0.2.1.getD 3 0), .int .i64 (a0.2.1.getD 4 0), .int .i64 (a0.2.1.getD 5 0), v11, v17, .string a0.2.2.2.2.1, .string a0.2.2.2.2.2]) rfl rfl rfl z_size24 rfl rfl (oneL_sl hs18) (ones_cons hs18.one' ones_nil) rfl rfl rfl ?_
 refine st_gs [[(b6, .cells #[.int .i64 0, .int .i64 0, .int .i64 0, .int .i64 0, .int .i64 0, .int .i64 0, .int .i64 0, .slice none 0 0, .slice none 0 0, .string (bstr []), .string (bstr [])] 26 (0, 0))], [(b5, .cells #[.int .i64 a0.1, .int .i64 (a0.2.1.getD 0 0), .int .i64 (a0.2.1.getD 1 0), .int .i64 (a0.2.1.getD 2 0), .int .i64 (a0.2.1.getD 3 0), .int .i64 (a0.2.1.getD 4 0), .int .i64 (a0.2.1.getD 5 0), v11, v17, .string a0.2.2.2.2.1, .string a0.2.2.2.2.2] 26 (0, 0))]] rfl ?_
 refine ZZ 4 [1] rfl rfl ?_
 refine o_store (j := 0) (vs := [.int .i64 a0.1, .int .i64 (a0.2.1.getD 0 0), .int .i64 (a0.2.1.getD 1 0), .int .i64 (a0.2.1.getD 2 0), .int .i64 (a0.2.1.getD 3 0), .int .i64 (a0.2.1.getD 4 0), .int .i64 (a0.2.1.getD 5 0), v11, v17, .string a0.2.2.2.2.1, .string a0.2.2.2.2.2]) (cs' := [.int .i64 a0.1, .int .i64 (a0.2.1.getD 0 0), .int .i64 (a0.2.1.getD 1 0), .int .i64 (a0.2.1.getD 2 0), .int .i64 (a0.2.1.getD 3 0), .int .i64 (a0.2.1.getD 4 0), .int .i64 (a0.2.1.getD 5 0), v11, v17, .string a0.2.2.2.2.1, .string a0.2.2.2.2.2]) rfl rfl rfl z_size26 rfl rfl rfl (ones_cons rfl (ones_cons rfl (ones_cons rfl (ones_cons rfl (ones_cons rfl (ones_cons rfl (ones_cons rfl (ones_cons hs12.one' (ones_cons hs18.one' (ones_cons rfl (ones_cons rfl ones_nil))))))))))) rfl rfl rfl ?_
 refine st_gs [[(b6, .cells #[.int .i64 a0.1, .int .i64 (a0.2.1.getD 0 0), .int .i64 (a0.2.1.getD 1 0), .int .i64 (a0.2.1.getD 2 0), .int .i64 (a0.2.1.getD 3 0), .int .i64 (a0.2.1.getD 4 0), .int .i64 (a0.2.1.getD 5 0), v11, v17, .string a0.2.2.2.2.1, .string a0.2.2.2.2.2] 26 (0, 0))], [(b5, .cells #[.int .i64 a0.1, .int .i64 (a0.2.1.getD 0 0), .int .i64 (a0.2.1.getD 1 0), .int .i64 (a0.2.1.getD 2 0), .int .i64 (a0.2.1.getD 3 0), .int .i64 (a0.2.1.getD 4 0), .int .i64 (a0.2.1.getD 5 0), v11, v17, .string a0.2.2.2.2.1, .string a0.2.2.2.2.2] 26 (0, 0))]] rfl ?_
 refine st_end ?_
 obtain rfl := Eq.symm h
 exact st_retC (gs' := []) [.agg #[.int .i64 a0.1, .int .i64 (a0.2.1.getD 0 0), .int .i64 (a0.2.1.getD 1 0), .int .i64 (a0.2.1.getD 2 0), .int .i64 (a0.2.1.getD 3 0), .int .i64 (a0.2.1.getD 4 0), .int .i64 (a0.2.1.getD 5 0), v11, v17, .string a0.2.2.2.2.1, .string a0.2.2.2.2.2]] Tryd.func16 ⟨⟨_, _, _, _, rfl, mem_flat 0 rfl, fun w hw => cellOfN (vs := [.int .i64 a0.1, .int .i64 (a0.2.1.getD 0 0), .int .i64 (a0.2.1.getD 1 0), .int .i64 (a0.2.1.getD 2 0), .int .i64 (a0.2.1.getD 3 0), .int .i64 (a0.2.1.getD 4 0), .int .i64 (a0.2.1.getD 5 0), v11, v17, .string a0.2.2.2.2.1, .string a0.2.2.2.2.2]) z_agg26 rfl w hw⟩, trivial⟩ (by simp) hl19 ⟨_, _, rfl, rfl, hs12, hs18⟩
theorem event_Delivery_ok {a0 : Int} {a1 : Int} {a2 : Int × List Int × List (Int × Int) × List Int × ByteArray × ByteArray} {v1 : Value} {v2 : Value} {r : (Int × Int × Int × Int × (Int × List Int × List (Int × Int) × List Int × ByteArray × ByteArray))} (h : event_Delivery a0 a1 a2 r) (σ : Sto) (hs3 : Sl (kP (kI .i64) (kI .i64)) σ v1 a2.2.2.1) (hs4 : Sl (kI .i64) σ v2 a2.2.2.2.1) :
    Does Tryd.prog 17 [.int .u32 a0, .int .i64 a1, .agg [.int .i64 a2.1, .int .i64 (a2.2.1.getD 0 0), .int .i64 (a2.2.1.getD 1 0), .int .i64 (a2.2.1.getD 2 0), .int .i64 (a2.2.1.getD 3 0), .int .i64 (a2.2.1.getD 4 0), .int .i64 (a2.2.1.getD 5 0), v1, v2, .string a2.2.2.2.2.1, .string a2.2.2.2.2.2].toArray] σ [] (fun v τ gs => ∃ (v15 : Value) (v16 : Value), gs = [] ∧ .agg [.int .i64 r.1, .int .u32 r.2.1, .int .i64 r.2.2.1, .int .i64 r.2.2.2.1, .int .i64 r.2.2.2.2.1, .int .i64 (r.2.2.2.2.2.1.getD 0 0), .int .i64 (r.2.2.2.2.2.1.getD 1 0), .int .i64 (r.2.2.2.2.2.1.getD 2 0), .int .i64 (r.2.2.2.2.2.1.getD 3 0), .int .i64 (r.2.2.2.2.2.1.getD 4 0), .int .i64 (r.2.2.2.2.2.1.getD 5 0), v15, v16, .string r.2.2.2.2.2.2.2.2.1, .string r.2.2.2.2.2.2.2.2.2].toArray = v ∧ Sl (kP (kI .i64) (kI .i64)) τ v15 r.2.2.2.2.2.2.1 ∧ Sl (kI .i64) τ v16 r.2.2.2.2.2.2.2.1) := by
 refine call_of Tryd.func17 Tryd.ntmps17 rfl rfl (fun cs fs => ?_)
 refine Z 2 rfl ?_
 refine o_box (cs := [.int .i64 a2.1, .int .i64 (a2.2.1.getD 0 0), .int .i64 (a2.2.1.getD 1 0), .int .i64 (a2.2.1.getD 2 0), .int .i64 (a2.2.1.getD 3 0), .int .i64 (a2.2.1.getD 4 0), .int .i64 (a2.2.1.getD 5 0), v1, v2, .string a2.2.2.2.2.1, .string a2.2.2.2.2.2]) rfl rfl rfl rfl rfl (fun b5 => ?_)
 refine o_alloc rfl rfl rfl z_zero35 (fun b6 => ?_)
 refine ZZ 6 [1] rfl rfl ?_
 obtain ⟨r7, hr8, h⟩ := h
 refine st_call (foot := []) rfl rfl rfl rfl rfl rfl (callV_fn z_en16 (msg_Copy_ok hr8 σ hs3 hs4)) ?_
 rintro vτ9 τ9 gsτ9 hl10 ⟨v11, v12, rfl, rfl, hs13, hs14⟩
 refine ZZ 1 [] rfl rfl ?_
 refine o_store (j := 0) (vs := [.int .i64 1, .int .u32 a0, .int .i64 a1, .int .i64 0, .int .i64 r7.1, .int .i64 (r7.2.1.getD 0 0), .int .i64 (r7.2.1.getD 1 0), .int .i64 (r7.2.1.getD 2 0), .int .i64 (r7.2.1.getD 3 0), .int .i64 (r7.2.1.getD 4 0), .int .i64 (r7.2.1.getD 5 0), v11, v12, .string r7.2.2.2.2.1, .string r7.2.2.2.2.2]) (cs' := [.int .i64 1, .int .u32 a0, .int .i64 a1, .int .i64 0, .int .i64 r7.1, .int .i64 (r7.2.1.getD 0 0), .int .i64 (r7.2.1.getD 1 0), .int .i64 (r7.2.1.getD 2 0), .int .i64 (r7.2.1.getD 3 0), .int .i64 (r7.2.1.getD 4 0), .int .i64 (r7.2.1.getD 5 0), v11, v12, .string r7.2.2.2.2.1, .string r7.2.2.2.2.2]) rfl rfl rfl z_size35 rfl rfl rfl (ones_cons rfl (ones_cons rfl (ones_cons rfl (ones_cons rfl (ones_cons rfl (ones_cons rfl (ones_cons rfl (ones_cons rfl (ones_cons rfl (ones_cons rfl (ones_cons rfl (ones_cons hs13.one' (ones_cons hs14.one' (ones_cons rfl (ones_cons rfl ones_nil))))))))))))))) rfl rfl rfl ?_
 refine st_gs [[(b6, .cells #[.int .i64 1, .int .u32 a0, .int .i64 a1, .int .i64 0, .int .i64 r7.1, .int .i64 (r7.2.1.getD 0 0), .int .i64 (r7.2.1.getD 1 0), .int .i64 (r7.2.1.getD 2 0), .int .i64 (r7.2.1.getD 3 0), .int .i64 (r7.2.1.getD 4 0), .int .i64 (r7.2.1.getD 5 0), v11, v12, .string r7.2.2.2.2.1, .string r7.2.2.2.2.2] 35 (0, 0))], [(b5, .cells #[.int .i64 a2.1, .int .i64 (a2.2.1.getD 0 0), .int .i64 (a2.2.1.getD 1 0), .int .i64 (a2.2.1.getD 2 0), .int .i64 (a2.2.1.getD 3 0), .int .i64 (a2.2.1.getD 4 0), .int .i64 (a2.2.1.getD 5 0), v1, v2, .string a2.2.2.2.2.1, .string a2.2.2.2.2.2] 26 (0, 0))]] rfl ?_
 refine st_end ?_
 obtain rfl := Eq.symm h
 exact st_retC (gs' := []) [.agg #[.int .i64 1, .int .u32 a0, .int .i64 a1, .int .i64 0, .int .i64 r7.1, .int .i64 (r7.2.1.getD 0 0), .int .i64 (r7.2.1.getD 1 0), .int .i64 (r7.2.1.getD 2 0), .int .i64 (r7.2.1.getD 3 0), .int .i64 (r7.2.1.getD 4 0), .int .i64 (r7.2.1.getD 5 0), v11, v12, .string r7.2.2.2.2.1, .string r7.2.2.2.2.2]] Tryd.func17 ⟨⟨_, _, _, _, rfl, mem_flat 0 rfl, fun w hw => cellOfN (vs := [.int .i64 1, .int .u32 a0, .int .i64 a1, .int .i64 0, .int .i64 r7.1, .int .i64 (r7.2.1.getD 0 0), .int .i64 (r7.2.1.getD 1 0), .int .i64 (r7.2.1.getD 2 0), .int .i64 (r7.2.1.getD 3 0), .int .i64 (r7.2.1.getD 4 0), .int .i64 (r7.2.1.getD 5 0), v11, v12, .string r7.2.2.2.2.1, .string r7.2.2.2.2.2]) z_agg35 rfl w hw⟩, trivial⟩ (by simp) hl10 ⟨_, _, rfl, rfl, hs13, hs14⟩
theorem law23_Cut_ok {a0 : Int × Int × Int × Int × (Int × List Int × List (Int × Int) × List Int × ByteArray × ByteArray)} {v1 : Value} {v2 : Value} {r : (Int × Int × Int × Int × (Int × List Int × List (Int × Int) × List Int × ByteArray × ByteArray))} (h : law23_Cut a0 r) (σ : Sto) (hs3 : Sl (kP (kI .i64) (kI .i64)) σ v1 a0.2.2.2.2.2.2.1) (hs4 : Sl (kI .i64) σ v2 a0.2.2.2.2.2.2.2.1) :
    Does Tryd.prog 24 [.agg [.int .i64 a0.1, .int .u32 a0.2.1, .int .i64 a0.2.2.1, .int .i64 a0.2.2.2.1, .int .i64 a0.2.2.2.2.1, .int .i64 (a0.2.2.2.2.2.1.getD 0 0), .int .i64 (a0.2.2.2.2.2.1.getD 1 0), .int .i64 (a0.2.2.2.2.2.1.getD 2 0), .int .i64 (a0.2.2.2.2.2.1.getD 3 0), .int .i64 (a0.2.2.2.2.2.1.getD 4 0), .int .i64 (a0.2.2.2.2.2.1.getD 5 0), v1, v2, .string a0.2.2.2.2.2.2.2.2.1, .string a0.2.2.2.2.2.2.2.2.2].toArray] σ [] (fun v τ gs => ∃ (v15 : Value) (v16 : Value), gs = [] ∧ .agg [.int .i64 r.1, .int .u32 r.2.1, .int .i64 r.2.2.1, .int .i64 r.2.2.2.1, .int .i64 r.2.2.2.2.1, .int .i64 (r.2.2.2.2.2.1.getD 0 0), .int .i64 (r.2.2.2.2.2.1.getD 1 0), .int .i64 (r.2.2.2.2.2.1.getD 2 0), .int .i64 (r.2.2.2.2.2.1.getD 3 0), .int .i64 (r.2.2.2.2.2.1.getD 4 0), .int .i64 (r.2.2.2.2.2.1.getD 5 0), v15, v16, .string r.2.2.2.2.2.2.2.2.1, .string r.2.2.2.2.2.2.2.2.2].toArray = v ∧ Sl (kP (kI .i64) (kI .i64)) τ v15 r.2.2.2.2.2.2.1 ∧ Sl (kI .i64) τ v16 r.2.2.2.2.2.2.2.1) := by
 refine call_of Tryd.func24 Tryd.ntmps24 rfl rfl (fun cs fs => ?_)
 refine Z 2 rfl ?_
 refine o_box (cs := [.int .i64 a0.1, .int .u32 a0.2.1, .int .i64 a0.2.2.1, .int .i64 a0.2.2.2.1, .int .i64 a0.2.2.2.2.1, .int .i64 (a0.2.2.2.2.2.1.getD 0 0), .int .i64 (a0.2.2.2.2.2.1.getD 1 0), .int .i64 (a0.2.2.2.2.2.1.getD 2 0), .int .i64 (a0.2.2.2.2.2.1.getD 3 0), .int .i64 (a0.2.2.2.2.2.1.getD 4 0), .int .i64 (a0.2.2.2.2.2.1.getD 5 0), v1, v2, .string a0.2.2.2.2.2.2.2.2.1, .string a0.2.2.2.2.2.2.2.2.2]) rfl rfl rfl rfl rfl (fun b5 => ?_)
 refine o_alloc rfl rfl rfl z_zero35 (fun b6 => ?_)
 refine ZZ 5 [1] rfl rfl ?_
 obtain ⟨r7, hr8, h⟩ := h
 refine st_call (foot := []) rfl rfl rfl rfl rfl rfl (callV_fn z_en11 (law17_Cut_ok hr8 σ hs3 hs4)) ?_
 rintro vτ9 τ9 gsτ9 hl10 ⟨v11, v12, rfl, rfl, hs13, hs14⟩
 refine o_fieldAddr rfl rfl rfl z_field35_4 rfl ?_
 refine o_store (j := 1) (vs := [.int .i64 r7.1, .int .i64 (r7.2.1.getD 0 0), .int .i64 (r7.2.1.getD 1 0), .int .i64 (r7.2.1.getD 2 0), .int .i64 (r7.2.1.getD 3 0), .int .i64 (r7.2.1.getD 4 0), .int .i64 (r7.2.1.getD 5 0), v11, v12, .string r7.2.2.2.2.1, .string r7.2.2.2.2.2]) (cs' := [.int .i64 a0.1, .int .u32 a0.2.1, .int .i64 a0.2.2.1, .int .i64 a0.2.2.2.1, .int .i64 r7.1, .int .i64 (r7.2.1.getD 0 0), .int .i64 (r7.2.1.getD 1 0), .int .i64 (r7.2.1.getD 2 0), .int .i64 (r7.2.1.getD 3 0), .int .i64 (r7.2.1.getD 4 0), .int .i64 (r7.2.1.getD 5 0), v11, v12, .string r7.2.2.2.2.1, .string r7.2.2.2.2.2]) rfl rfl rfl z_size26 rfl rfl rfl (ones_cons rfl (ones_cons rfl (ones_cons rfl (ones_cons rfl (ones_cons rfl (ones_cons rfl (ones_cons rfl (ones_cons hs13.one' (ones_cons hs14.one' (ones_cons rfl (ones_cons rfl ones_nil))))))))))) rfl rfl rfl ?_
 refine st_gs [[(b6, .cells #[.int .i64 0, .int .u32 0, .int .i64 0, .int .i64 0, .int .i64 0, .int .i64 0, .int .i64 0, .int .i64 0, .int .i64 0, .int .i64 0, .int .i64 0, .slice none 0 0, .slice none 0 0, .string (bstr []), .string (bstr [])] 35 (0, 0))], [(b5, .cells #[.int .i64 a0.1, .int .u32 a0.2.1, .int .i64 a0.2.2.1, .int .i64 a0.2.2.2.1, .int .i64 r7.1, .int .i64 (r7.2.1.getD 0 0), .int .i64 (r7.2.1.getD 1 0), .int .i64 (r7.2.1.getD 2 0), .int .i64 (r7.2.1.getD 3 0), .int .i64 (r7.2.1.getD 4 0), .int .i64 (r7.2.1.getD 5 0), v11, v12, .string r7.2.2.2.2.1, .string r7.2.2.2.2.2] 35 (0, 0))]] rfl ?_
 refine ZZ 4 [1] rfl rfl ?_
 refine o_store (j := 0) (vs := [.int .i64 a0.1, .int .u32 a0.2.1, .int .i64 a0.2.2.1, .int .i64 a0.2.2.2.1, .int .i64 r7.1, .int .i64 (r7.2.1.getD 0 0), .int .i64 (r7.2.1.getD 1 0), .int .i64 (r7.2.1.getD 2 0), .int .i64 (r7.2.1.getD 3 0), .int .i64 (r7.2.1.getD 4 0), .int .i64 (r7.2.1.getD 5 0), v11, v12, .string r7.2.2.2.2.1, .string r7.2.2.2.2.2]) (cs' := [.int .i64 a0.1, .int .u32 a0.2.1, .int .i64 a0.2.2.1, .int .i64 a0.2.2.2.1, .int .i64 r7.1, .int .i64 (r7.2.1.getD 0 0), .int .i64 (r7.2.1.getD 1 0), .int .i64 (r7.2.1.getD 2 0), .int .i64 (r7.2.1.getD 3 0), .int .i64 (r7.2.1.getD 4 0), .int .i64 (r7.2.1.getD 5 0), v11, v12, .string r7.2.2.2.2.1, .string r7.2.2.2.2.2]) rfl rfl rfl z_size35 rfl rfl rfl (ones_cons rfl (ones_cons rfl (ones_cons rfl (ones_cons rfl (ones_cons rfl (ones_cons rfl (ones_cons rfl (ones_cons rfl (ones_cons rfl (ones_cons rfl (ones_cons rfl (ones_cons hs13.one' (ones_cons hs14.one' (ones_cons rfl (ones_cons rfl ones_nil))))))))))))))) rfl rfl rfl ?_
 refine st_gs [[(b6, .cells #[.int .i64 a0.1, .int .u32 a0.2.1, .int .i64 a0.2.2.1, .int .i64 a0.2.2.2.1, .int .i64 r7.1, .int .i64 (r7.2.1.getD 0 0), .int .i64 (r7.2.1.getD 1 0), .int .i64 (r7.2.1.getD 2 0), .int .i64 (r7.2.1.getD 3 0), .int .i64 (r7.2.1.getD 4 0), .int .i64 (r7.2.1.getD 5 0), v11, v12, .string r7.2.2.2.2.1, .string r7.2.2.2.2.2] 35 (0, 0))], [(b5, .cells #[.int .i64 a0.1, .int .u32 a0.2.1, .int .i64 a0.2.2.1, .int .i64 a0.2.2.2.1, .int .i64 r7.1, .int .i64 (r7.2.1.getD 0 0), .int .i64 (r7.2.1.getD 1 0), .int .i64 (r7.2.1.getD 2 0), .int .i64 (r7.2.1.getD 3 0), .int .i64 (r7.2.1.getD 4 0), .int .i64 (r7.2.1.getD 5 0), v11, v12, .string r7.2.2.2.2.1, .string r7.2.2.2.2.2] 35 (0, 0))]] rfl ?_
 refine st_end ?_
 obtain rfl := Eq.symm h
 exact st_retC (gs' := []) [.agg #[.int .i64 a0.1, .int .u32 a0.2.1, .int .i64 a0.2.2.1, .int .i64 a0.2.2.2.1, .int .i64 r7.1, .int .i64 (r7.2.1.getD 0 0), .int .i64 (r7.2.1.getD 1 0), .int .i64 (r7.2.1.getD 2 0), .int .i64 (r7.2.1.getD 3 0), .int .i64 (r7.2.1.getD 4 0), .int .i64 (r7.2.1.getD 5 0), v11, v12, .string r7.2.2.2.2.1, .string r7.2.2.2.2.2]] Tryd.func24 ⟨⟨_, _, _, _, rfl, mem_flat 0 rfl, fun w hw => cellOfN (vs := [.int .i64 a0.1, .int .u32 a0.2.1, .int .i64 a0.2.2.1, .int .i64 a0.2.2.2.1, .int .i64 r7.1, .int .i64 (r7.2.1.getD 0 0), .int .i64 (r7.2.1.getD 1 0), .int .i64 (r7.2.1.getD 2 0), .int .i64 (r7.2.1.getD 3 0), .int .i64 (r7.2.1.getD 4 0), .int .i64 (r7.2.1.getD 5 0), v11, v12, .string r7.2.2.2.2.1, .string r7.2.2.2.2.2]) z_agg35 rfl w hw⟩, trivial⟩ (by simp) hl10 ⟨_, _, rfl, rfl, hs13, hs14⟩
theorem event_Word_ok {a0 : Int} {r : ByteArray} (h : event_Word a0 r) (σ : Sto)  :
    Does Tryd.prog 28 [.int .i64 a0] σ [] (fun v τ gs => gs = [] ∧ .string r = v) := by
 refine call_of Tryd.func28 Tryd.ntmps28 rfl rfl (fun cs fs => ?_)
 refine Z 2 rfl ?_
 refine o_assign rfl rfl rfl (ev_str z_str19) ?_
 refine Z 12 rfl ?_
 refine st_if rfl h (fun h => ?_) (fun h => ?_)
 ·refine Z 2 rfl ?_
  refine o_assign rfl rfl rfl (ev_str z_str36) ?_
  refine st_end ?_
  obtain rfl := Eq.symm h
  exact st_ret (gs' := []) Tryd.func28 rfl (List.Sublist.refl _) (Sto.Le.refl _) ⟨rfl, rfl⟩
 ·refine Z 5 rfl ?_
  refine st_if rfl h (fun h => ?_) (fun h => ?_)
  ·refine Z 2 rfl ?_
   refine o_assign rfl rfl rfl (ev_str z_str37) ?_
   refine st_end ?_
   obtain rfl := Eq.symm h
   exact st_ret (gs' := []) Tryd.func28 rfl (List.Sublist.refl _) (Sto.Le.refl _) ⟨rfl, rfl⟩
  ·refine Z 5 rfl ?_
   refine st_if rfl h (fun h => ?_) (fun h => ?_)
   ·refine Z 2 rfl ?_
    refine o_assign rfl rfl rfl (ev_str z_str38) ?_
    refine st_end ?_
    obtain rfl := Eq.symm h
    exact st_ret (gs' := []) Tryd.func28 rfl (List.Sublist.refl _) (Sto.Le.refl _) ⟨rfl, rfl⟩
   ·refine Z 5 rfl ?_
    refine st_if rfl h (fun h => ?_) (fun h => ?_)
    ·refine Z 2 rfl ?_
     refine o_assign rfl rfl rfl (ev_str z_str39) ?_
     refine st_end ?_
     obtain rfl := Eq.symm h
     exact st_ret (gs' := []) Tryd.func28 rfl (List.Sublist.refl _) (Sto.Le.refl _) ⟨rfl, rfl⟩
    ·refine Z 5 rfl ?_
     refine st_if rfl h (fun h => ?_) (fun h => ?_)
     ·refine Z 2 rfl ?_
      refine o_assign rfl rfl rfl (ev_str z_str40) ?_
      refine st_end ?_
      obtain rfl := Eq.symm h
      exact st_ret (gs' := []) Tryd.func28 rfl (List.Sublist.refl _) (Sto.Le.refl _) ⟨rfl, rfl⟩
     ·refine Z 5 rfl ?_
      refine st_if rfl h (fun h => ?_) (fun h => ?_)
      ·refine Z 2 rfl ?_
       refine o_assign rfl rfl rfl (ev_str z_str41) ?_
       refine st_end ?_
       obtain rfl := Eq.symm h
       exact st_ret (gs' := []) Tryd.func28 rfl (List.Sublist.refl _) (Sto.Le.refl _) ⟨rfl, rfl⟩
      ·refine Z 5 rfl ?_
       refine st_if rfl h (fun h => ?_) (fun h => ?_)
       ·refine Z 2 rfl ?_
        refine o_assign rfl rfl rfl (ev_str z_str42) ?_
        refine st_end ?_
        obtain rfl := Eq.symm h
        exact st_ret (gs' := []) Tryd.func28 rfl (List.Sublist.refl _) (Sto.Le.refl _) ⟨rfl, rfl⟩
       ·refine Z 5 rfl ?_
        refine st_if rfl h (fun h => ?_) (fun h => ?_)
        ·refine Z 2 rfl ?_
         refine o_assign rfl rfl rfl (ev_str z_str43) ?_
         refine st_end ?_
         obtain rfl := Eq.symm h
         exact st_ret (gs' := []) Tryd.func28 rfl (List.Sublist.refl _) (Sto.Le.refl _) ⟨rfl, rfl⟩
        ·refine Z 5 rfl ?_
         refine st_if rfl h (fun h => ?_) (fun h => ?_)
         ·refine Z 2 rfl ?_
          refine o_assign rfl rfl rfl (ev_str z_str44) ?_
          refine st_end ?_
          obtain rfl := Eq.symm h
          exact st_ret (gs' := []) Tryd.func28 rfl (List.Sublist.refl _) (Sto.Le.refl _) ⟨rfl, rfl⟩
         ·refine Z 5 rfl ?_
          refine st_if rfl h (fun h => ?_) (fun h => ?_)
          ·refine Z 2 rfl ?_
           refine o_assign rfl rfl rfl (ev_str z_str45) ?_
           refine st_end ?_
           obtain rfl := Eq.symm h
           exact st_ret (gs' := []) Tryd.func28 rfl (List.Sublist.refl _) (Sto.Le.refl _) ⟨rfl, rfl⟩
          ·refine Z 5 rfl ?_
           refine st_if rfl h (fun h => ?_) (fun h => ?_)
           ·refine Z 2 rfl ?_
            refine o_assign rfl rfl rfl (ev_str z_str46) ?_
            refine st_end ?_
            obtain rfl := Eq.symm h
            exact st_ret (gs' := []) Tryd.func28 rfl (List.Sublist.refl _) (Sto.Le.refl _) ⟨rfl, rfl⟩
           ·refine Z 5 rfl ?_
            refine st_if rfl h (fun h => ?_) (fun h => ?_)
            ·refine Z 2 rfl ?_
             refine o_assign rfl rfl rfl (ev_str z_str47) ?_
             refine st_end ?_
             obtain rfl := Eq.symm h
             exact st_ret (gs' := []) Tryd.func28 rfl (List.Sublist.refl _) (Sto.Le.refl _) ⟨rfl, rfl⟩
            ·refine Z 5 rfl ?_
             refine st_if rfl h (fun h => ?_) (fun h => ?_)
             ·refine Z 2 rfl ?_
              refine o_assign rfl rfl rfl (ev_str z_str48) ?_
              refine st_end ?_
              obtain rfl := Eq.symm h
              exact st_ret (gs' := []) Tryd.func28 rfl (List.Sublist.refl _) (Sto.Le.refl _) ⟨rfl, rfl⟩
             ·refine Z 5 rfl ?_
              refine st_if rfl h (fun h => ?_) (fun h => ?_)
              ·refine Z 2 rfl ?_
               refine o_assign rfl rfl rfl (ev_str z_str49) ?_
               refine st_end ?_
               obtain rfl := Eq.symm h
               exact st_ret (gs' := []) Tryd.func28 rfl (List.Sublist.refl _) (Sto.Le.refl _) ⟨rfl, rfl⟩
              ·refine Z 5 rfl ?_
               refine st_if rfl h (fun h => ?_) (fun h => ?_)
               ·refine Z 2 rfl ?_
                refine o_assign rfl rfl rfl (ev_str z_str50) ?_
                refine st_end ?_
                obtain rfl := Eq.symm h
                exact st_ret (gs' := []) Tryd.func28 rfl (List.Sublist.refl _) (Sto.Le.refl _) ⟨rfl, rfl⟩
               ·refine Z 5 rfl ?_
                refine st_if rfl h (fun h => ?_) (fun h => ?_)
                ·refine Z 2 rfl ?_
                 refine o_assign rfl rfl rfl (ev_str z_str18) ?_
                 refine st_end ?_
                 obtain rfl := Eq.symm h
                 exact st_ret (gs' := []) Tryd.func28 rfl (List.Sublist.refl _) (Sto.Le.refl _) ⟨rfl, rfl⟩
                ·refine Z 4 rfl ?_
                 refine o_assign rfl rfl rfl (ev_str z_str19) ?_
                 refine st_end ?_
                 obtain rfl := Eq.symm h
                 exact st_ret (gs' := []) Tryd.func28 rfl (List.Sublist.refl _) (Sto.Le.refl _) ⟨rfl, rfl⟩
theorem event_Line_ok {a0 : Int × Int × Int × Int × (Int × List Int × List (Int × Int) × List Int × ByteArray × ByteArray)} {v1 : Value} {v2 : Value} {r : ByteArray} (h : event_Line a0 r) (σ : Sto) (hs3 : Sl (kP (kI .i64) (kI .i64)) σ v1 a0.2.2.2.2.2.2.1) (hs4 : Sl (kI .i64) σ v2 a0.2.2.2.2.2.2.2.1) (hT : Tab Tryd.prog σ) :
    Does Tryd.prog 25 [.agg [.int .i64 a0.1, .int .u32 a0.2.1, .int .i64 a0.2.2.1, .int .i64 a0.2.2.2.1, .int .i64 a0.2.2.2.2.1, .int .i64 (a0.2.2.2.2.2.1.getD 0 0), .int .i64 (a0.2.2.2.2.2.1.getD 1 0), .int .i64 (a0.2.2.2.2.2.1.getD 2 0), .int .i64 (a0.2.2.2.2.2.1.getD 3 0), .int .i64 (a0.2.2.2.2.2.1.getD 4 0), .int .i64 (a0.2.2.2.2.2.1.getD 5 0), v1, v2, .string a0.2.2.2.2.2.2.2.2.1, .string a0.2.2.2.2.2.2.2.2.2].toArray] σ [] (fun v τ gs => gs = [] ∧ .string r = v) := by
 refine call_of Tryd.func25 Tryd.ntmps25 rfl rfl (fun cs fs => ?_)
 refine Z 2 rfl ?_
 refine o_box (cs := [.int .i64 a0.1, .int .u32 a0.2.1, .int .i64 a0.2.2.1, .int .i64 a0.2.2.2.1, .int .i64 a0.2.2.2.2.1, .int .i64 (a0.2.2.2.2.2.1.getD 0 0), .int .i64 (a0.2.2.2.2.2.1.getD 1 0), .int .i64 (a0.2.2.2.2.2.1.getD 2 0), .int .i64 (a0.2.2.2.2.2.1.getD 3 0), .int .i64 (a0.2.2.2.2.2.1.getD 4 0), .int .i64 (a0.2.2.2.2.2.1.getD 5 0), v1, v2, .string a0.2.2.2.2.2.2.2.2.1, .string a0.2.2.2.2.2.2.2.2.2]) rfl rfl rfl rfl rfl (fun b5 => ?_)
 refine o_assign rfl rfl rfl (ev_str z_str19) ?_
 refine ZZ 6 [0] rfl rfl ?_
 obtain ⟨r6, hr7, h⟩ := h
 refine st_call (foot := []) rfl rfl rfl rfl rfl rfl (callV_fn z_en77 (say_Number_ok hr7 σ hT)) ?_
 rintro vτ8 τ8 gsτ8 hl9 ⟨rfl, rfl⟩
 refine ZZ 14 [0] rfl rfl ?_
 refine st_if rfl h (fun h => ?_) (fun h => ?_)
 ·refine st_seq ?_
  obtain ⟨hf10, hf11, r12, hr13, hf16, hf17, r18, hr19, hf22, h⟩ := h
  refine st_draw 12 (dl [.v (.string r6), .v (.string ((bstr [100, 101, 108, 105, 118, 101, 114, 32]) ++ r6)), .v (.string (((bstr [100, 101, 108, 105, 118, 101, 114, 32]) ++ r6) ++ (bstr [32, 118, 32]))), .v (.pointer (some ⟨b5, 2, none⟩)), .v (.int .i64 a0.2.2.1), .v (.string r12), .v (.string ((((bstr [100, 101, 108, 105, 118, 101, 114, 32]) ++ r6) ++ (bstr [32, 118, 32])) ++ r12)), .v (.string (((((bstr [100, 101, 108, 105, 118, 101, 114, 32]) ++ r6) ++ (bstr [32, 118, 32])) ++ r12) ++ (bstr [32]))), .v (.pointer (some ⟨b5, 4, none⟩)), .v (.agg #[.int .i64 a0.2.2.2.2.1, .int .i64 (a0.2.2.2.2.2.1.getD 0 0), .int .i64 (a0.2.2.2.2.2.1.getD 1 0), .int .i64 (a0.2.2.2.2.2.1.getD 2 0), .int .i64 (a0.2.2.2.2.2.1.getD 3 0), .int .i64 (a0.2.2.2.2.2.1.getD 4 0), .int .i64 (a0.2.2.2.2.2.1.getD 5 0), v1, v2, .string a0.2.2.2.2.2.2.2.2.1, .string a0.2.2.2.2.2.2.2.2.2]), .v (.string r18), .v (.string ((((((bstr [100, 101, 108, 105, 118, 101, 114, 32]) ++ r6) ++ (bstr [32, 118, 32])) ++ r12) ++ (bstr [32])) ++ r18))]) (fun _ _ => []) z_mix rfl (dl_mono trivial) (allB_cons (allB_cons (allB_cons (allB_cons (allB_cons (allB_cons (allB_cons (allB_cons (allB_cons (allB_cons (allB_cons (allB_cons allB_nil (p1 dA)) ?_) ?_) (p1 dA)) ?_) ?_) ?_) ?_) (p1 dA)) ?_) ?_) ?_) ?_
  ·intro ρ' τ pool rs hl hd hout hk
   obtain ⟨_, e0, rfl⟩ := hd 0 rfl
   refine o_sadd rfl rfl rfl (ev_str z_str33) e0 hf10 ?_
   exact st_addNil (hk _ _ (Sto.Le.refl _) rfl)
  ·intro ρ' τ pool rs hl hd hout hk
   obtain ⟨_, e1, rfl⟩ := hd 1 rfl
   refine o_sadd rfl rfl rfl e1 (ev_str z_str34) hf11 ?_
   exact st_addNil (hk _ _ (Sto.Le.refl _) rfl)
  ·intro ρ' τ pool rs hl hd hout hk
   obtain ⟨_, e3, rfl⟩ := hd 3 rfl
   refine o_load (j := 0) (v := .int .i64 a0.2.2.1) rfl rfl rfl z_sc3 e3 rfl rfl ?_
   exact st_addNil (hk _ _ (Sto.Le.refl _) rfl)
  ·intro ρ' τ pool rs hl hd hout hk
   obtain ⟨_, e4, rfl⟩ := hd 4 rfl
   refine st_call (foot := []) rfl rfl rfl rfl (evs_cons e4 rfl) rfl (callV_fn z_en77 (say_Number_ok hr13 τ (hT.up (hl9.trans hl)))) ?_
   rintro vτ14 τ14 gsτ14 hl15 ⟨rfl, rfl⟩
   exact st_addNil (hk _ _ hl15 rfl)
  ·intro ρ' τ pool rs hl hd hout hk
   obtain ⟨_, e2, rfl⟩ := hd 2 rfl
   obtain ⟨_, e5, rfl⟩ := hd 5 rfl
   refine o_sadd rfl rfl rfl e2 e5 hf16 ?_
   exact st_addNil (hk _ _ (Sto.Le.refl _) rfl)
  ·intro ρ' τ pool rs hl hd hout hk
   obtain ⟨_, e6, rfl⟩ := hd 6 rfl
   refine o_sadd rfl rfl rfl e6 (ev_str z_str25) hf17 ?_
   exact st_addNil (hk _ _ (Sto.Le.refl _) rfl)
  ·intro ρ' τ pool rs hl hd hout hk
   obtain ⟨_, e8, rfl⟩ := hd 8 rfl
   refine o_loadN (j := 0) (vs := [.int .i64 a0.2.2.2.2.1, .int .i64 (a0.2.2.2.2.2.1.getD 0 0), .int .i64 (a0.2.2.2.2.2.1.getD 1 0), .int .i64 (a0.2.2.2.2.2.1.getD 2 0), .int .i64 (a0.2.2.2.2.2.1.getD 3 0), .int .i64 (a0.2.2.2.2.2.1.getD 4 0), .int .i64 (a0.2.2.2.2.2.1.getD 5 0), v1, v2, .string a0.2.2.2.2.2.2.2.2.1, .string a0.2.2.2.2.2.2.2.2.2]) rfl rfl rfl z_agg26 e8 rfl rfl ?_
   exact st_addNil (hk _ _ (Sto.Le.refl _) rfl)
  ·intro ρ' τ pool rs hl hd hout hk
   obtain ⟨_, e9, rfl⟩ := hd 9 rfl
   refine st_call (foot := []) rfl rfl rfl rfl (evs_cons e9 rfl) rfl (callV_fn z_en14 (say_Line_ok hr19 τ (hs3.up (hl9.trans hl)) (hs4.up (hl9.trans hl)) (hT.up (hl9.trans hl)))) ?_
   rintro vτ20 τ20 gsτ20 hl21 ⟨rfl, rfl⟩
   exact st_addNil (hk _ _ hl21 rfl)
  ·intro ρ' τ pool rs hl hd hout hk
   obtain ⟨_, e7, rfl⟩ := hd 7 rfl
   obtain ⟨_, e10, rfl⟩ := hd 10 rfl
   refine o_sadd rfl rfl rfl e7 e10 hf22 ?_
   exact st_addNil (hk _ _ (Sto.Le.refl _) rfl)
  intro ρ' τ23 vals hl23 hv hout
  refine st_ord [0] _ rfl ?_
  refine st_env (ρ' := [(23, .string ((((((bstr [100, 101, 108, 105, 118, 101, 114, 32]) ++ r6) ++ (bstr [32, 118, 32])) ++ r12) ++ (bstr [32])) ++ r18)), (2, .string (bstr []))]) ⟨(lv1 hv 11 rfl rfl), (hout 2 rfl).trans rfl, trivial⟩ ?_
  refine Z 2 rfl ?_
  refine st_ord [] _ rfl ?_
  obtain rfl := Eq.symm h
  exact st_ret (gs' := []) Tryd.func25 rfl (List.Sublist.refl _) (hl9.trans hl23) ⟨rfl, rfl⟩
 ·refine Z 5 rfl ?_
  refine st_if rfl h (fun h => ?_) (fun h => ?_)
  ·refine Z 3 rfl ?_
   obtain ⟨hf24, h⟩ := h
   refine o_sadd rfl rfl rfl (ev_str z_str35) rfl hf24 ?_
   obtain ⟨hf25, h⟩ := h
   refine o_sadd rfl rfl rfl rfl (ev_str z_str25) hf25 ?_
   refine ZZ 2 [0] rfl rfl ?_
   obtain ⟨r26, hr27, h⟩ := h
   refine st_call (foot := []) rfl rfl rfl rfl rfl rfl (callV_fn z_en28 (event_Word_ok hr27 τ8)) ?_
   rintro vτ28 τ28 gsτ28 hl29 ⟨rfl, rfl⟩
   obtain ⟨hf30, h⟩ := h
   refine o_sadd rfl rfl rfl rfl rfl hf30 ?_
   refine Z 2 rfl ?_
   refine st_ord [] _ rfl ?_
   obtain rfl := Eq.symm h
   exact st_ret (gs' := []) Tryd.func25 rfl (List.Sublist.refl _) (hl9.trans hl29) ⟨rfl, rfl⟩
  ·refine Z 5 rfl ?_
   refine st_if rfl h (fun h => ?_) (fun h => ?_)
   ·refine Z 3 rfl ?_
    obtain ⟨hf31, h⟩ := h
    refine o_sadd rfl rfl rfl (ev_str z_str51) rfl hf31 ?_
    refine Z 2 rfl ?_
    refine st_ord [] _ rfl ?_
    obtain rfl := Eq.symm h
    exact st_ret (gs' := []) Tryd.func25 rfl (List.Sublist.refl _) hl9 ⟨rfl, rfl⟩
   ·refine Z 4 rfl ?_
    refine o_assign rfl rfl rfl (ev_str z_str19) ?_
    refine st_end ?_
    refine st_ord [] _ rfl ?_
    obtain rfl := Eq.symm h
    exact st_ret (gs' := []) Tryd.func25 rfl (List.Sublist.refl _) hl9 ⟨rfl, rfl⟩
theorem event_Rejection_ok {a0 : Int} {a1 : Int} {r : (Int × Int × Int × Int × (Int × List Int × List (Int × Int) × List Int × ByteArray × ByteArray))} (h : event_Rejection a0 a1 r) (σ : Sto)  :
    Does Tryd.prog 22 [.int .u32 a0, .int .i64 a1] σ [] (fun v τ gs => ∃ (v2 : Value) (v3 : Value), gs = [] ∧ .agg [.int .i64 r.1, .int .u32 r.2.1, .int .i64 r.2.2.1, .int .i64 r.2.2.2.1, .int .i64 r.2.2.2.2.1, .int .i64 (r.2.2.2.2.2.1.getD 0 0), .int .i64 (r.2.2.2.2.2.1.getD 1 0), .int .i64 (r.2.2.2.2.2.1.getD 2 0), .int .i64 (r.2.2.2.2.2.1.getD 3 0), .int .i64 (r.2.2.2.2.2.1.getD 4 0), .int .i64 (r.2.2.2.2.2.1.getD 5 0), v2, v3, .string r.2.2.2.2.2.2.2.2.1, .string r.2.2.2.2.2.2.2.2.2].toArray = v ∧ Sl (kP (kI .i64) (kI .i64)) τ v2 r.2.2.2.2.2.2.1 ∧ Sl (kI .i64) τ v3 r.2.2.2.2.2.2.2.1) := by
 refine call_of Tryd.func22 Tryd.ntmps22 rfl rfl (fun cs fs => ?_)
 refine Z 2 rfl ?_
 refine o_alloc rfl rfl rfl z_zero35 (fun b1 => ?_)
 refine ZZ 8 [0] rfl rfl ?_
 obtain rfl := Eq.symm h
 exact st_retC (gs' := []) [.agg #[.int .i64 2, .int .u32 a0, .int .i64 0, .int .i64 a1, .int .i64 0, .int .i64 0, .int .i64 0, .int .i64 0, .int .i64 0, .int .i64 0, .int .i64 0, .slice none 0 0, .slice none 0 0, .string (bstr []), .string (bstr [])]] Tryd.func22 ⟨⟨_, _, _, _, rfl, mem_flat 0 rfl, fun w hw => cellOfN (vs := [.int .i64 2, .int .u32 a0, .int .i64 0, .int .i64 a1, .int .i64 0, .int .i64 0, .int .i64 0, .int .i64 0, .int .i64 0, .int .i64 0, .int .i64 0, .slice none 0 0, .slice none 0 0, .string (bstr []), .string (bstr [])]) z_agg35 rfl w hw⟩, trivial⟩ (by simp) (Sto.Le.refl _) ⟨_, _, rfl, rfl, Sl.nil, Sl.nil⟩
theorem event_Eviction_ok {a0 : Int} {r : (Int × Int × Int × Int × (Int × List Int × List (Int × Int) × List Int × ByteArray × ByteArray))} (h : event_Eviction a0 r) (σ : Sto)  :
    Does Tryd.prog 23 [.int .u32 a0] σ [] (fun v τ gs => ∃ (v2 : Value) (v3 : Value), gs = [] ∧ .agg [.int .i64 r.1, .int .u32 r.2.1, .int .i64 r.2.2.1, .int .i64 r.2.2.2.1, .int .i64 r.2.2.2.2.1, .int .i64 (r.2.2.2.2.2.1.getD 0 0), .int .i64 (r.2.2.2.2.2.1.getD 1 0), .int .i64 (r.2.2.2.2.2.1.getD 2 0), .int .i64 (r.2.2.2.2.2.1.getD 3 0), .int .i64 (r.2.2.2.2.2.1.getD 4 0), .int .i64 (r.2.2.2.2.2.1.getD 5 0), v2, v3, .string r.2.2.2.2.2.2.2.2.1, .string r.2.2.2.2.2.2.2.2.2].toArray = v ∧ Sl (kP (kI .i64) (kI .i64)) τ v2 r.2.2.2.2.2.2.1 ∧ Sl (kI .i64) τ v3 r.2.2.2.2.2.2.2.1) := by
 refine call_of Tryd.func23 Tryd.ntmps23 rfl rfl (fun cs fs => ?_)
 refine Z 2 rfl ?_
 refine o_alloc rfl rfl rfl z_zero35 (fun b1 => ?_)
 refine ZZ 7 [0] rfl rfl ?_
 obtain rfl := Eq.symm h
 exact st_retC (gs' := []) [.agg #[.int .i64 3, .int .u32 a0, .int .i64 0, .int .i64 0, .int .i64 0, .int .i64 0, .int .i64 0, .int .i64 0, .int .i64 0, .int .i64 0, .int .i64 0, .slice none 0 0, .slice none 0 0, .string (bstr []), .string (bstr [])]] Tryd.func23 ⟨⟨_, _, _, _, rfl, mem_flat 0 rfl, fun w hw => cellOfN (vs := [.int .i64 3, .int .u32 a0, .int .i64 0, .int .i64 0, .int .i64 0, .int .i64 0, .int .i64 0, .int .i64 0, .int .i64 0, .int .i64 0, .int .i64 0, .slice none 0 0, .slice none 0 0, .string (bstr []), .string (bstr [])]) z_agg35 rfl w hw⟩, trivial⟩ (by simp) (Sto.Le.refl _) ⟨_, _, rfl, rfl, Sl.nil, Sl.nil⟩
theorem law23_known_ok  {r : Bool} (h : law23_known r) (σ : Sto) (hT : Tab Tryd.prog σ) :
    Does Tryd.prog 21 [] σ [] (fun v τ gs => gs = [] ∧ .bool r = v) := by
 refine call_of Tryd.func21 Tryd.ntmps21 rfl rfl (fun cs fs => ?_)
 refine Z 6 rfl ?_
 refine o_buildA (ps := [(0, [.int .i64 1]), (1, [.int .i64 2])]) (cs := [.int .i64 1, .int .i64 2, .int .i64 0, .int .i64 0, .int .i64 0, .int .i64 0]) rfl rfl rfl z_arrz22 ⟨rfl, ⟨_, rfl, rfl⟩, ⟨rfl, ⟨_, rfl, rfl⟩, trivial⟩⟩ rfl ?_
 refine ZZ 1 [] rfl rfl ?_
 obtain ⟨r1, hr2, h⟩ := h
 refine st_call (foot := []) rfl rfl rfl rfl rfl rfl (callV_fn z_en17 (event_Delivery_ok hr2 σ Sl.nil Sl.nil)) ?_
 rintro vτ3 τ3 gsτ3 hl4 ⟨v5, v6, rfl, rfl, hs7, hs8⟩
 obtain ⟨r9, hr10, h⟩ := h
 refine st_call (foot := []) rfl rfl rfl rfl rfl rfl (callV_fn z_en25 (event_Line_ok hr10 τ3 hs7 hs8 (hT.up hl4))) ?_
 rintro vτ11 τ11 gsτ11 hl12 ⟨rfl, rfl⟩
 refine Z 3 rfl ?_
 refine st_cut (fun ρ τ13 gs => ∃ (s13 : Bool), law23_known_j1 s13 r ∧ τ11.Le τ13 ∧ ESub ρ [(0, .bool s13)] ∧ gs = []) ?_ (fun hk13 => ?_)
 ·rintro ρ13 τ13 gs13 ⟨s13, h, hl13, hρ, rfl⟩
  refine st_es hρ ?_
  obtain rfl := Eq.symm h
  exact st_ret (gs' := []) Tryd.func21 rfl (List.Sublist.refl _) ((hl4.trans hl12).trans hl13) ⟨rfl, rfl⟩
 refine Z 2 rfl ?_
 refine o_sbin (v := .bool (decide (r9 = (bstr [100, 101, 108, 105, 118, 101, 114, 32, 55, 32, 118, 32, 49, 32, 104, 111, 108, 100, 32, 114, 111, 98, 111, 116, 32, 49, 32, 114, 101, 97, 115, 111, 110, 32, 50, 32, 122, 111, 110, 101, 32, 48])))) rfl rfl rfl rfl (ev_str z_str52) rfl ?_
 refine o_mif rfl rfl rfl rfl h (fun h => ?_) (fun h => ?_)
 ·obtain ⟨r14, hr15, h⟩ := h
  refine st_call (foot := []) rfl rfl rfl rfl rfl rfl (callV_fn z_en22 (event_Rejection_ok hr15 τ11)) ?_
  rintro vτ16 τ16 gsτ16 hl17 ⟨v18, v19, rfl, rfl, hs20, hs21⟩
  obtain ⟨r22, hr23, h⟩ := h
  refine st_call (foot := []) rfl rfl rfl rfl rfl rfl (callV_fn z_en25 (event_Line_ok hr23 τ16 hs20 hs21 (hT.up ((hl4.trans hl12).trans hl17)))) ?_
  rintro vτ24 τ24 gsτ24 hl25 ⟨rfl, rfl⟩
  refine o_sbin (v := .bool (decide (r22 = (bstr [114, 101, 106, 101, 99, 116, 32, 48, 32, 115, 117, 109])))) rfl rfl rfl rfl (ev_str z_str53) rfl ?_
  refine o_pick rfl rfl rfl rfl rfl ?_
  refine o_mif rfl rfl rfl rfl h (fun h => ?_) (fun h => ?_)
  ·obtain ⟨r26, hr27, h⟩ := h
   refine st_call (foot := []) rfl rfl rfl rfl rfl rfl (callV_fn z_en23 (event_Eviction_ok hr27 τ24)) ?_
   rintro vτ28 τ28 gsτ28 hl29 ⟨v30, v31, rfl, rfl, hs32, hs33⟩
   obtain ⟨r34, hr35, h⟩ := h
   refine st_call (foot := []) rfl rfl rfl rfl rfl rfl (callV_fn z_en25 (event_Line_ok hr35 τ28 hs32 hs33 (hT.up ((((hl4.trans hl12).trans hl17).trans hl25).trans hl29)))) ?_
   rintro vτ36 τ36 gsτ36 hl37 ⟨rfl, rfl⟩
   refine o_sbin (v := .bool (decide (r34 = (bstr [101, 118, 105, 99, 116, 32, 53])))) rfl rfl rfl rfl (ev_str z_str54) rfl ?_
   refine Z 3 rfl ?_
   exact hk13 _ _ _ ⟨(decide (r34 = (bstr [101, 118, 105, 99, 116, 32, 53]))), h, (((hl17.trans hl25).trans hl29).trans hl37), rfl, rfl⟩
  ·refine Z 6 rfl ?_
   exact hk13 _ _ _ ⟨false, h, (hl17.trans hl25), rfl, rfl⟩
 ·refine Z 11 rfl ?_
  exact hk13 _ _ _ ⟨false, h, (Sto.Le.refl _), rfl, rfl⟩
theorem event_Delivered_1_ok {c0 : List (Int × Int × Int × Int × (Int × List Int × List (Int × Int) × List Int × ByteArray × ByteArray))} {bc0 : Nat} {v1 : Value} {σ0 : Sto} (hc0_0 : Cel σ0 ⟨bc0, 0, none⟩ (v1)) (hs2 : Sl (kP (kI .i64) (kP (kI .u32) (kP (kI .i64) (kP (kI .i64) (kP (kI .i64) (kP (kA .i64 6) (kP (kSl (kP (kI .i64) (kI .i64))) (kP (kSl (kI .i64)) (kP kS kS))))))))) σ0 v1 c0) :
    IterV Tryd.prog (fun τ x vx => ∃ (v3 : Value) (v4 : Value), vx = [.int .u32 x.1, .agg [.int .i64 x.2.1, .int .i64 (x.2.2.1.getD 0 0), .int .i64 (x.2.2.1.getD 1 0), .int .i64 (x.2.2.1.getD 2 0), .int .i64 (x.2.2.1.getD 3 0), .int .i64 (x.2.2.1.getD 4 0), .int .i64 (x.2.2.1.getD 5 0), v3, v4, .string x.2.2.2.2.2.1, .string x.2.2.2.2.2.2].toArray] ∧ Sl (kP (kI .i64) (kI .i64)) τ v3 x.2.2.2.1 ∧ Sl (kI .i64) τ v4 x.2.2.2.2.1) (.func (.func 80) #[] [.pointer (some ⟨bc0, 0, none⟩)].toArray) σ0 [] (fun (_ : Unit) _ f => f = []) (event_Delivered_1 c0) := by
 intro S Y I y hyc hyo hIm hY s s' o hR σ g hle hIg
 obtain ⟨r, hr0⟩ : ∃ r, r = (s', o) := ⟨_, rfl⟩
 rw [← hr0] at hR
 have h := hR
 refine callV_of (caps := [.pointer (some ⟨bc0, 0, none⟩)]) z_en80 ?_
 refine call_of Tryd.func80 Tryd.ntmps80 rfl rfl (fun cs fs => ?_)
 refine st_ord [0] _ rfl ?_
 refine Z 5 rfl ?_
 refine o_loadI (v := v1) rfl rfl rfl z_sc57 rfl (Cel.up hc0_0 hle) ?_
 refine o_lenI rfl rfl rfl z_slT57 rfl (hs2.up hle) ?_
 refine Z 2 rfl ?_
 obtain ⟨e3, hL3, hA3⟩ := h
 refine st_loop hL3 (fun (s3 : S × Int) ρ τ3 gs => σ.Le τ3 ∧ ∃ (g4 : Grp), ESub ρ [(0, y), (5, v1), (6, .int .i64 (c0.length : Int)), (7, .int .i64 s3.2)] ∧ gs = [g4] ∧ I s3.1 τ3 g4) ⟨Sto.Le.refl _, g, rfl, rfl, hIg⟩ ?_
 rintro s3 o3 h he3 ρ3 τ3 gs3 ⟨hl3, g4, hρ, rfl, hI5⟩ hn3
 refine st_es hρ ?_
 refine Z 5 rfl ?_
 refine st_if rfl h (fun h => ?_) (fun h => ?_)
 ·refine Z 2 rfl ?_
  refine st_cut (fun ρ τ6 gs => ∃ (s6 : S) (g7 : Grp), event_Delivered_1_j2 S Y s3 s6 o3 ∧ τ3.Le τ6 ∧ ESub ρ [(0, y), (5, v1), (6, .int .i64 (c0.length : Int)), (7, .int .i64 s3.2)] ∧ gs = [g7] ∧ I s6 τ6 g7) ?_ (fun hk6 => ?_)
  ·rintro ρ6 τ6 gs6 ⟨s6, g7, h, hl6, hρ, rfl, hI8⟩
   refine st_es hρ ?_
   refine Z 4 rfl ?_
   exact hn3 _ _ _ _ h ⟨(hl3.trans hl6), g7, rfl, rfl, hI8⟩
  refine Z 3 rfl ?_
  obtain ⟨q9, hf10, h⟩ := h
  refine o_index rfl rfl rfl z_slT57 rfl rfl (hs2.up (hle.trans hl3)) rfl hf10 (fun b11 of12 vs hc15 hrep => ?_)
  obtain ⟨_, _, rfl, rfl, ⟨_, _, rfl, rfl, ⟨_, _, rfl, rfl, ⟨_, _, rfl, rfl, ⟨_, _, rfl, rfl, ⟨_, _, rfl, rfl, ⟨_, _, rfl, ⟨v13, rfl, hs16⟩, ⟨_, _, rfl, ⟨v14, rfl, hs17⟩, ⟨_, _, rfl, rfl, rfl⟩⟩⟩⟩⟩⟩⟩⟩⟩ := hrep
  refine o_loadIN (vs := [.int .i64 q9.1, .int .u32 q9.2.1, .int .i64 q9.2.2.1, .int .i64 q9.2.2.2.1, .int .i64 q9.2.2.2.2.1, .int .i64 (q9.2.2.2.2.2.1.getD 0 0), .int .i64 (q9.2.2.2.2.2.1.getD 1 0), .int .i64 (q9.2.2.2.2.2.1.getD 2 0), .int .i64 (q9.2.2.2.2.2.1.getD 3 0), .int .i64 (q9.2.2.2.2.2.1.getD 4 0), .int .i64 (q9.2.2.2.2.2.1.getD 5 0), v13, v14, .string q9.2.2.2.2.2.2.2.2.1, .string q9.2.2.2.2.2.2.2.2.2]) rfl rfl rfl z_agg35 rfl rfl (celn_part 0 rfl hc15) ?_
  refine o_alloc rfl rfl rfl z_zero35 (fun b18 => ?_)
  refine o_store (j := 0) (vs := [.int .i64 q9.1, .int .u32 q9.2.1, .int .i64 q9.2.2.1, .int .i64 q9.2.2.2.1, .int .i64 q9.2.2.2.2.1, .int .i64 (q9.2.2.2.2.2.1.getD 0 0), .int .i64 (q9.2.2.2.2.2.1.getD 1 0), .int .i64 (q9.2.2.2.2.2.1.getD 2 0), .int .i64 (q9.2.2.2.2.2.1.getD 3 0), .int .i64 (q9.2.2.2.2.2.1.getD 4 0), .int .i64 (q9.2.2.2.2.2.1.getD 5 0), v13, v14, .string q9.2.2.2.2.2.2.2.2.1, .string q9.2.2.2.2.2.2.2.2.2]) (cs' := [.int .i64 q9.1, .int .u32 q9.2.1, .int .i64 q9.2.2.1, .int .i64 q9.2.2.2.1, .int .i64 q9.2.2.2.2.1, .int .i64 (q9.2.2.2.2.2.1.getD 0 0), .int .i64 (q9.2.2.2.2.2.1.getD 1 0), .int .i64 (q9.2.2.2.2.2.1.getD 2 0), .int .i64 (q9.2.2.2.2.2.1.getD 3 0), .int .i64 (q9.2.2.2.2.2.1.getD 4 0), .int .i64 (q9.2.2.2.2.2.1.getD 5 0), v13, v14, .string q9.2.2.2.2.2.2.2.2.1, .string q9.2.2.2.2.2.2.2.2.2]) rfl rfl rfl z_size35 rfl rfl rfl (ones_cons rfl (ones_cons rfl (ones_cons rfl (ones_cons rfl (ones_cons rfl (ones_cons rfl (ones_cons rfl (ones_cons rfl (ones_cons rfl (ones_cons rfl (ones_cons rfl (ones_cons hs16.one' (ones_cons hs17.one' (ones_cons rfl (ones_cons rfl ones_nil))))))))))))))) rfl rfl rfl ?_
  refine st_gs [[(b18, .cells #[.int .i64 q9.1, .int .u32 q9.2.1, .int .i64 q9.2.2.1, .int .i64 q9.2.2.2.1, .int .i64 q9.2.2.2.2.1, .int .i64 (q9.2.2.2.2.2.1.getD 0 0), .int .i64 (q9.2.2.2.2.2.1.getD 1 0), .int .i64 (q9.2.2.2.2.2.1.getD 2 0), .int .i64 (q9.2.2.2.2.2.1.getD 3 0), .int .i64 (q9.2.2.2.2.2.1.getD 4 0), .int .i64 (q9.2.2.2.2.2.1.getD 5 0), v13, v14, .string q9.2.2.2.2.2.2.2.2.1, .string q9.2.2.2.2.2.2.2.2.2] 35 (0, 0))], g4] rfl ?_
  refine ZZ 8 [0] rfl rfl ?_
  refine st_if rfl h (fun h => ?_) (fun h => ?_)
  ·refine st_exit rfl ?_
   refine st_ord [1] _ rfl ?_
   exact hk6 _ _ _ ⟨s3.1, g4, h, (Sto.Le.refl _), rfl, rfl, hI5⟩
  ·refine ZZ 8 [0, 0] rfl rfl ?_
   obtain ⟨y19, u20, hy21, h⟩ := h
   refine st_ord [1, 0] _ rfl ?_
   refine st_call (foot := [g4]) rfl rfl rfl rfl rfl rfl (hY (q9.2.1, q9.2.2.2.2) s3.1 _ _ _ _ _ (hle.trans hl3) hy21 ⟨_, _, rfl, hs16, hs17⟩ hI5) ?_
   rintro vτ22 τ22 gsτ22 hl23 ⟨rfl, g24, rfl, hI25⟩
   refine Z 2 rfl ?_
   refine st_if rfl h (fun h => ?_) (fun h => ?_)
   ·refine Z 2 rfl ?_
    refine st_ord [0] _ rfl ?_
    obtain rfl := he3 _ h
    replace h := hA3
    obtain rfl := Eq.symm h
    cases hr0
    exact st_fin (gs' := [g24, []]) Tryd.func80 rfl (by simp) (hl3.trans hl23) ⟨g24, _, rfl, hI25, rfl⟩
   ·refine Z 2 rfl ?_
    refine st_ord [0] _ rfl ?_
    exact hk6 _ _ _ ⟨u20, g24, h, hl23, rfl, rfl, hI25⟩
 ·refine Z 2 rfl ?_
  obtain rfl := he3 _ h
  replace h := hA3
  obtain rfl := Eq.symm h
  cases hr0
  exact st_fin (gs' := [g4, []]) Tryd.func80 rfl (by simp) hl3 ⟨g4, _, rfl, hI5, rfl⟩
theorem event_Delivered_ok {a0 : List (Int × Int × Int × Int × (Int × List Int × List (Int × Int) × List Int × ByteArray × ByteArray))} {v1 : Value} {r : (((S : Type) → ((Int × (Int × List Int × List (Int × Int) × List Int × ByteArray × ByteArray)) → S → Bool × S → Prop) → S → S × Unit → Prop))} (h : event_Delivered a0 r) (σ : Sto) (hs2 : Sl (kP (kI .i64) (kP (kI .u32) (kP (kI .i64) (kP (kI .i64) (kP (kI .i64) (kP (kA .i64 6) (kP (kSl (kP (kI .i64) (kI .i64))) (kP (kSl (kI .i64)) (kP kS kS))))))))) σ v1 a0) :
    Does Tryd.prog 30 [v1] σ [] (fun v τ gs => ∃ (f7 : Nat) (q8 : Array Value), gs = [] ∧ .func (.func f7) #[] q8 = v ∧ IterV Tryd.prog (fun τ x vx => ∃ (v7 : Value) (v8 : Value), vx = [.int .u32 x.1, .agg [.int .i64 x.2.1, .int .i64 (x.2.2.1.getD 0 0), .int .i64 (x.2.2.1.getD 1 0), .int .i64 (x.2.2.1.getD 2 0), .int .i64 (x.2.2.1.getD 3 0), .int .i64 (x.2.2.1.getD 4 0), .int .i64 (x.2.2.1.getD 5 0), v7, v8, .string x.2.2.2.2.2.1, .string x.2.2.2.2.2.2].toArray] ∧ Sl (kP (kI .i64) (kI .i64)) τ v7 x.2.2.2.1 ∧ Sl (kI .i64) τ v8 x.2.2.2.2.1) (.func (.func f7) #[] q8) τ [] (fun (_ : Unit) _ f => f = []) r) := by
 refine call_of Tryd.func30 Tryd.ntmps30 rfl rfl (fun cs fs => ?_)
 refine Z 2 rfl ?_
 refine o_box (cs := [v1]) rfl rfl rfl rfl (oneL_sl hs2) (fun b3 => ?_)
 refine Z 4 rfl ?_
 refine st_freeze (fun τ4 hl5 hg6 => ?_)
 refine Z 3 rfl ?_
 obtain rfl := Eq.symm h
 exact st_ret (gs' := []) Tryd.func30 rfl (List.Sublist.refl _) hl5 ⟨_, _, rfl, rfl, (event_Delivered_1_ok (cel_of hg6 rfl) (hs2.up hl5))⟩
theorem event_Seqs_ok {a0 : List (Int × Int × Int × Int × (Int × List Int × List (Int × Int) × List Int × ByteArray × ByteArray))} {v1 : Value} {r : List Int} (h : event_Seqs a0 r) (σ : Sto) (hs2 : Sl (kP (kI .i64) (kP (kI .u32) (kP (kI .i64) (kP (kI .i64) (kP (kI .i64) (kP (kA .i64 6) (kP (kSl (kP (kI .i64) (kI .i64))) (kP (kSl (kI .i64)) (kP kS kS))))))))) σ v1 a0) :
    Does Tryd.prog 31 [v1] σ [] (fun v τ gs => ∃ (v39 : Value), gs = [] ∧ v39 = v ∧ Sl (kI .u32) τ v39 r) := by
 refine call_of Tryd.func31 Tryd.ntmps31 rfl rfl (fun cs fs => ?_)
 refine Z 6 rfl ?_
 refine o_alloc rfl rfl rfl z_zero61 (fun b3 => ?_)
 refine Z 5 rfl ?_
 obtain ⟨r4, hr5, h⟩ := h
 refine st_call (foot := []) rfl rfl rfl rfl rfl rfl (callV_fn z_en30 (event_Delivered_ok hr5 σ hs2)) ?_
 rintro vτ6 τ6 gsτ6 hl7 ⟨f8, q9, rfl, rfl, hit10⟩
 refine Z 2 rfl ?_
 obtain ⟨t11, w11, hR11, hA11⟩ := h
 refine st_env (ρ' := [(2, .slice none 0 0), (3, .pointer (some ⟨b3, 0, none⟩)), (6, .func (.func f8) #[] q9)]) ⟨rfl, rfl, rfl, trivial⟩ ?_
 refine st_addNil ?_
 refine st_ord [1, 0] _ rfl ?_
 refine st_addNil ?_
 refine st_range (B := event_Seqs_l1) (s0 := []) ranges_fctx rfl hit10 (Sto.Le.refl _) hR11 rfl (fun _ _ _ h => by obtain ⟨_, _, rfl, _⟩ := h; rfl) (fun (s11 : List Int) τ11 gs => τ6.Le τ11 ∧ ∃ (v12 : Value) (g13 : Grp), gs = [[(b3, .cells #[v12] 61 (0, 0))], g13] ∧ Ow (kI .u32) 33 τ11 v12 s11 g13) (fun _ _ _ _ => False) (fun _ _ _ _ hl ⟨hb, v12, g13, hg, ho14⟩ => ⟨hb.trans hl, v12, g13, hg, ho14.up hl⟩) (fun _ _ _ _ _ _ h => h.elim) ⟨Sto.Le.refl _, _, _, rfl, Ow.nil⟩ ?_ ?_ ?_
 ·rintro x11 s11 o11 τ11 gs11 vx11 hl11 h ⟨v15, v16, rfl, hs17, hs18⟩ ⟨hb11, v12, g13, rfl, ho14⟩ l11 rc11 caller11 cs11 fs11
  refine Z 3 rfl ?_
  refine st_begin ?_
  refine ZZ 4 [0] rfl rfl ?_
  refine o_litE (eI .u32) [x11.1] rfl rfl rfl z_slT61 z_zero33 ⟨rfl, ⟨_, rfl, rfl⟩, trivial⟩ rfl rfl rfl rfl (fun v19 g20 ho21 => ?_)
  obtain ⟨hf25, hf26, h⟩ := h
  refine st_ord [2, 0, 0] _ rfl ?_
  refine o_append (dk := (kI .u32)) (xs := s11) (ys := [x11.1]) rfl rfl rfl rfl z_slT61 rfl ho14 rfl (Ow.src (j := 1) ho21 rfl) hf25 hf26 (fun v22 g23 ho24 => ?_)
  refine o_store (j := 2) (vs := [v22]) (cs' := [v22]) rfl rfl rfl z_size61 rfl rfl (oneL_ow ho24) (ones_cons ho24.one' ones_nil) rfl rfl rfl ?_
  refine st_gs [g23, g20, [(b3, .cells #[v22] 61 (0, 0))]] rfl ?_
  refine Z 2 rfl ?_
  refine st_ord [2, 0] _ rfl ?_
  exact st_rend (List.Sublist.refl _) (Sto.Le.refl _) ⟨_, h, hl11, _, _, rfl, ho24⟩
 ·rintro p27 τ28 gs11 f11 ht hl29 ⟨hb, v30, g31, rfl, ho32⟩ rfl
  subst ht
  replace h := hA11
  refine st_ord [1, 1] _ rfl ?_
  refine ZZ 6 [0] rfl rfl ?_
  refine st_ord [1, 0] _ rfl ?_
  refine st_freeze (fun τ33 hl34 hg35 => ?_)
  have hs36 := ho32.freeze hl34 hg35
  refine st_ord [] _ rfl ?_
  obtain rfl := Eq.symm h
  exact st_ret (gs' := []) Tryd.func31 rfl (List.Sublist.refl _) ((hl7.trans hl29).trans hl34) ⟨_, rfl, rfl, hs36⟩
 ·exact fun _ _ _ _ _ _ _ h => h.elim
theorem event_Rejects_1_ok {c0 : List (Int × Int × Int × Int × (Int × List Int × List (Int × Int) × List Int × ByteArray × ByteArray))} {bc0 : Nat} {v1 : Value} {σ0 : Sto} (hc0_0 : Cel σ0 ⟨bc0, 0, none⟩ (v1)) (hs2 : Sl (kP (kI .i64) (kP (kI .u32) (kP (kI .i64) (kP (kI .i64) (kP (kI .i64) (kP (kA .i64 6) (kP (kSl (kP (kI .i64) (kI .i64))) (kP (kSl (kI .i64)) (kP kS kS))))))))) σ0 v1 c0) :
    IterV Tryd.prog (fun _ x vx => vx = [.int .i64 x.1, .int .i64 x.2]) (.func (.func 81) #[] [.pointer (some ⟨bc0, 0, none⟩)].toArray) σ0 [] (fun (_ : Unit) _ f => f = []) (event_Rejects_1 c0) := by
 intro S Y I y hyc hyo hIm hY s s' o hR σ g hle hIg
 obtain ⟨r, hr0⟩ : ∃ r, r = (s', o) := ⟨_, rfl⟩
 rw [← hr0] at hR
 have h := hR
 refine callV_of (caps := [.pointer (some ⟨bc0, 0, none⟩)]) z_en81 ?_
 refine call_of Tryd.func81 Tryd.ntmps81 rfl rfl (fun cs fs => ?_)
 refine st_ord [0] _ rfl ?_
 refine Z 5 rfl ?_
 refine o_loadI (v := v1) rfl rfl rfl z_sc57 rfl (Cel.up hc0_0 hle) ?_
 refine o_lenI rfl rfl rfl z_slT57 rfl (hs2.up hle) ?_
 refine Z 2 rfl ?_
 obtain ⟨e3, hL3, hA3⟩ := h
 refine st_loop hL3 (fun (s3 : S × Int) ρ τ3 gs => σ.Le τ3 ∧ ∃ (g4 : Grp), ESub ρ [(0, y), (5, v1), (6, .int .i64 (c0.length : Int)), (7, .int .i64 s3.2)] ∧ gs = [g4] ∧ I s3.1 τ3 g4) ⟨Sto.Le.refl _, g, rfl, rfl, hIg⟩ ?_
 rintro s3 o3 h he3 ρ3 τ3 gs3 ⟨hl3, g4, hρ, rfl, hI5⟩ hn3
 refine st_es hρ ?_
 refine Z 5 rfl ?_
 refine st_if rfl h (fun h => ?_) (fun h => ?_)
 ·refine Z 6 rfl ?_
  obtain ⟨q6, hf7, h⟩ := h
  refine o_index rfl rfl rfl z_slT57 rfl rfl (hs2.up (hle.trans hl3)) rfl hf7 (fun b8 of9 vs hc12 hrep => ?_)
  obtain ⟨_, _, rfl, rfl, ⟨_, _, rfl, rfl, ⟨_, _, rfl, rfl, ⟨_, _, rfl, rfl, ⟨_, _, rfl, rfl, ⟨_, _, rfl, rfl, ⟨_, _, rfl, ⟨v10, rfl, hs13⟩, ⟨_, _, rfl, ⟨v11, rfl, hs14⟩, ⟨_, _, rfl, rfl, rfl⟩⟩⟩⟩⟩⟩⟩⟩⟩ := hrep
  refine o_loadIN (vs := [.int .i64 q6.1, .int .u32 q6.2.1, .int .i64 q6.2.2.1, .int .i64 q6.2.2.2.1, .int .i64 q6.2.2.2.2.1, .int .i64 (q6.2.2.2.2.2.1.getD 0 0), .int .i64 (q6.2.2.2.2.2.1.getD 1 0), .int .i64 (q6.2.2.2.2.2.1.getD 2 0), .int .i64 (q6.2.2.2.2.2.1.getD 3 0), .int .i64 (q6.2.2.2.2.2.1.getD 4 0), .int .i64 (q6.2.2.2.2.2.1.getD 5 0), v10, v11, .string q6.2.2.2.2.2.2.2.2.1, .string q6.2.2.2.2.2.2.2.2.2]) rfl rfl rfl z_agg35 rfl rfl (celn_part 0 rfl hc12) ?_
  refine o_alloc rfl rfl rfl z_zero35 (fun b15 => ?_)
  refine o_assign rfl rfl rfl rfl ?_
  refine o_store (j := 0) (vs := [.int .i64 q6.1, .int .u32 q6.2.1, .int .i64 q6.2.2.1, .int .i64 q6.2.2.2.1, .int .i64 q6.2.2.2.2.1, .int .i64 (q6.2.2.2.2.2.1.getD 0 0), .int .i64 (q6.2.2.2.2.2.1.getD 1 0), .int .i64 (q6.2.2.2.2.2.1.getD 2 0), .int .i64 (q6.2.2.2.2.2.1.getD 3 0), .int .i64 (q6.2.2.2.2.2.1.getD 4 0), .int .i64 (q6.2.2.2.2.2.1.getD 5 0), v10, v11, .string q6.2.2.2.2.2.2.2.2.1, .string q6.2.2.2.2.2.2.2.2.2]) (cs' := [.int .i64 q6.1, .int .u32 q6.2.1, .int .i64 q6.2.2.1, .int .i64 q6.2.2.2.1, .int .i64 q6.2.2.2.2.1, .int .i64 (q6.2.2.2.2.2.1.getD 0 0), .int .i64 (q6.2.2.2.2.2.1.getD 1 0), .int .i64 (q6.2.2.2.2.2.1.getD 2 0), .int .i64 (q6.2.2.2.2.2.1.getD 3 0), .int .i64 (q6.2.2.2.2.2.1.getD 4 0), .int .i64 (q6.2.2.2.2.2.1.getD 5 0), v10, v11, .string q6.2.2.2.2.2.2.2.2.1, .string q6.2.2.2.2.2.2.2.2.2]) rfl rfl rfl z_size35 rfl rfl rfl (ones_cons rfl (ones_cons rfl (ones_cons rfl (ones_cons rfl (ones_cons rfl (ones_cons rfl (ones_cons rfl (ones_cons rfl (ones_cons rfl (ones_cons rfl (ones_cons rfl (ones_cons hs13.one' (ones_cons hs14.one' (ones_cons rfl (ones_cons rfl ones_nil))))))))))))))) rfl rfl rfl ?_
  refine st_gs [[(b15, .cells #[.int .i64 q6.1, .int .u32 q6.2.1, .int .i64 q6.2.2.1, .int .i64 q6.2.2.2.1, .int .i64 q6.2.2.2.2.1, .int .i64 (q6.2.2.2.2.2.1.getD 0 0), .int .i64 (q6.2.2.2.2.2.1.getD 1 0), .int .i64 (q6.2.2.2.2.2.1.getD 2 0), .int .i64 (q6.2.2.2.2.2.1.getD 3 0), .int .i64 (q6.2.2.2.2.2.1.getD 4 0), .int .i64 (q6.2.2.2.2.2.1.getD 5 0), v10, v11, .string q6.2.2.2.2.2.2.2.2.1, .string q6.2.2.2.2.2.2.2.2.2] 35 (0, 0))], g4] rfl ?_
  refine Z 2 rfl ?_
  refine st_cut (fun ρ τ16 gs => ∃ (s16 : S × Bool) (g17 : Grp), event_Rejects_1_j2 S Y s3 s16 o3 ∧ τ3.Le τ16 ∧ ESub ρ [(0, y), (5, v1), (6, .int .i64 (c0.length : Int)), (7, .int .i64 s3.2), (22, .bool s16.2)] ∧ gs = [g17] ∧ I s16.1 τ16 g17) ?_ (fun hk16 => ?_)
  ·rintro ρ16 τ16 gs16 ⟨s16, g17, h, hl16, hρ, rfl, hI18⟩
   refine st_es hρ ?_
   refine st_if rfl h (fun h => ?_) (fun h => ?_)
   ·refine Z 2 rfl ?_
    obtain rfl := he3 _ h
    replace h := hA3
    obtain rfl := Eq.symm h
    cases hr0
    exact st_fin (gs' := [g17, []]) Tryd.func81 rfl (by simp) (hl3.trans hl16) ⟨g17, _, rfl, hI18, rfl⟩
   ·refine Z 6 rfl ?_
    exact hn3 _ _ _ _ h ⟨(hl3.trans hl16), g17, rfl, rfl, hI18⟩
  refine ZZ 4 [0] rfl rfl ?_
  refine o_mif rfl rfl rfl rfl h (fun h => ?_) (fun h => ?_)
  ·refine ZZ 4 [0] rfl rfl ?_
   obtain ⟨y19, u20, hy21, h⟩ := h
   refine st_ord [1, 0] _ rfl ?_
   refine st_call (foot := [g4]) rfl rfl rfl rfl rfl rfl (hY (s3.2, q6.2.2.2.1) s3.1 _ _ _ _ _ (hle.trans hl3) hy21 rfl hI5) ?_
   rintro vτ22 τ22 gsτ22 hl23 ⟨rfl, g24, rfl, hI25⟩
   refine Z 3 rfl ?_
   refine st_ord [0] _ rfl ?_
   exact hk16 _ _ _ ⟨(u20, (!y19)), g24, h, hl23, rfl, rfl, hI25⟩
  ·refine Z 8 rfl ?_
   refine st_ord [1] _ rfl ?_
   exact hk16 _ _ _ ⟨(s3.1, false), g4, h, (Sto.Le.refl _), rfl, rfl, hI5⟩
 ·refine Z 2 rfl ?_
  obtain rfl := he3 _ h
  replace h := hA3
  obtain rfl := Eq.symm h
  cases hr0
  exact st_fin (gs' := [g4, []]) Tryd.func81 rfl (by simp) hl3 ⟨g4, _, rfl, hI5, rfl⟩
theorem event_Rejects_ok {a0 : List (Int × Int × Int × Int × (Int × List Int × List (Int × Int) × List Int × ByteArray × ByteArray))} {v1 : Value} {r : (((S : Type) → ((Int × Int) → S → Bool × S → Prop) → S → S × Unit → Prop))} (h : event_Rejects a0 r) (σ : Sto) (hs2 : Sl (kP (kI .i64) (kP (kI .u32) (kP (kI .i64) (kP (kI .i64) (kP (kI .i64) (kP (kA .i64 6) (kP (kSl (kP (kI .i64) (kI .i64))) (kP (kSl (kI .i64)) (kP kS kS))))))))) σ v1 a0) :
    Does Tryd.prog 32 [v1] σ [] (fun v τ gs => ∃ (f7 : Nat) (q8 : Array Value), gs = [] ∧ .func (.func f7) #[] q8 = v ∧ IterV Tryd.prog (fun _ x vx => vx = [.int .i64 x.1, .int .i64 x.2]) (.func (.func f7) #[] q8) τ [] (fun (_ : Unit) _ f => f = []) r) := by
 refine call_of Tryd.func32 Tryd.ntmps32 rfl rfl (fun cs fs => ?_)
 refine Z 2 rfl ?_
 refine o_box (cs := [v1]) rfl rfl rfl rfl (oneL_sl hs2) (fun b3 => ?_)
 refine Z 4 rfl ?_
 refine st_freeze (fun τ4 hl5 hg6 => ?_)
 refine Z 3 rfl ?_
 obtain rfl := Eq.symm h
 exact st_ret (gs' := []) Tryd.func32 rfl (List.Sublist.refl _) hl5 ⟨_, _, rfl, rfl, (event_Rejects_1_ok (cel_of hg6 rfl) (hs2.up hl5))⟩
theorem law23_EventLists_ok {a0 : List (Int × Int × Int × Int × (Int × List Int × List (Int × Int) × List Int × ByteArray × ByteArray))} {a1 : Int} {v1 : Value} {r : Bool} (h : law23_EventLists a0 a1 r) (σ : Sto) (hs2 : Sl (kP (kI .i64) (kP (kI .u32) (kP (kI .i64) (kP (kI .i64) (kP (kI .i64) (kP (kA .i64 6) (kP (kSl (kP (kI .i64) (kI .i64))) (kP (kSl (kI .i64)) (kP kS kS))))))))) σ v1 a0) (hT : Tab Tryd.prog σ) :
    Does Tryd.prog 6 [v1, .int .i64 a1] σ [] (fun v τ gs => gs = [] ∧ .bool r = v) := by
 refine call_of Tryd.func6 Tryd.ntmps6 rfl rfl (fun cs fs => ?_)
 refine Z 2 rfl ?_
 refine o_boxC rfl rfl rfl rfl rfl rfl (fun b3 => ?_)
 refine Z 4 rfl ?_
 refine o_alloc rfl rfl rfl z_zero57 (fun b4 => ?_)
 refine Z 2 rfl ?_
 refine st_cut (fun ρ τ5 gs => ∃ (s5 : (List (Int × Int × Int × Int × (Int × List Int × List (Int × Int) × List Int × ByteArray × ByteArray)))) (v6 : Value) (g7 : Grp), law23_EventLists_j1 a1 s5 r ∧ σ.Le τ5 ∧ ESub ρ [(3, .pointer (some ⟨b3, 0, none⟩)), (4, .bool false), (5, .pointer (some ⟨b4, 0, none⟩))] ∧ gs = [[(b3, .cells #[.int .i64 a1] 3 (0, 0))], [(b4, .cells #[v6] 57 (0, 0))], g7] ∧ Ow (kP (kI .i64) (kP (kI .u32) (kP (kI .i64) (kP (kI .i64) (kP (kI .i64) (kP (kA .i64 6) (kP (kSl (kP (kI .i64) (kI .i64))) (kP (kSl (kI .i64)) (kP kS kS))))))))) 35 τ5 v6 s5 g7) ?_ (fun hk5 => ?_)
 ·rintro ρ5 τ5 gs5 ⟨s5, v6, g7, h, hl5, hρ, rfl, ho8⟩
  refine st_es hρ ?_
  refine Z 2 rfl ?_
  refine o_alloc rfl rfl rfl z_zero3 (fun b9 => ?_)
  refine o_alloc rfl rfl rfl z_zero3 (fun b10 => ?_)
  refine o_alloc rfl rfl rfl z_zero4 (fun b11 => ?_)
  refine ZZ 7 [2, 1, 0, 4] rfl rfl ?_
  obtain ⟨r17, hr18, h⟩ := h
  refine st_ord [5, 0, 0, 0, 0, 0] _ rfl ?_
  refine st_freeze (fun τ12 hl13 hg14 => ?_)
  have hs15 := ho8.freeze hl13 hg14
  refine st_call (foot := []) rfl rfl rfl rfl rfl rfl (callV_fn z_en30 (event_Delivered_ok hr18 τ12 hs15)) ?_
  rintro vτ19 τ19 gsτ19 hl20 ⟨f21, q22, rfl, rfl, hit23⟩
  refine Z 16 rfl ?_
  obtain ⟨t24, w24, hR24, hA24⟩ := h
  refine st_env (ρ' := [(3, .pointer (some ⟨b3, 0, none⟩)), (4, .bool false), (5, .pointer (some ⟨b4, 0, none⟩)), (7, .pointer (some ⟨b9, 0, none⟩)), (8, .pointer (some ⟨b10, 0, none⟩)), (9, .pointer (some ⟨b11, 0, none⟩)), (48, .func (.func f21) #[] q22)]) ⟨rfl, rfl, rfl, rfl, rfl, rfl, rfl, trivial⟩ ?_
  refine st_ord [3, 3, 2, 1, 0] _ rfl ?_
  refine st_addNil ?_
  refine st_range (B := law23_EventLists_l2 s5) (s0 := (0, 0, true)) ranges_fctx rfl hit23 (Sto.Le.refl _) hR24 rfl (fun _ _ _ h => by obtain ⟨_, _, rfl, _⟩ := h; rfl) (fun (s24 : Int × Int × Bool) τ24 gs => τ19.Le τ24 ∧ gs = [[(b3, .cells #[.int .i64 a1] 3 (0, 0))], [(b4, .cells #[v6] 57 (0, 0))], [(b9, .cells #[.int .i64 s24.1] 3 (0, 0))], [(b10, .cells #[.int .i64 s24.2.1] 3 (0, 0))], [(b11, .cells #[.bool s24.2.2] 4 (0, 0))]]) (fun _ _ _ _ => False) (fun _ _ _ _ hl ⟨hb, hg⟩ => ⟨hb.trans hl, hg⟩) (fun _ _ _ _ _ _ h => h.elim) ⟨Sto.Le.refl _, rfl⟩ ?_ ?_ ?_
  ·rintro x24 s24 o24 τ24 gs24 vx24 hl24 h ⟨v25, v26, rfl, hs27, hs28⟩ ⟨hb24, rfl⟩ l24 rc24 caller24 cs24 fs24
   refine Z 5 rfl ?_
   refine o_alloc rfl rfl rfl z_zero26 (fun b29 => ?_)
   refine o_store (j := 0) (vs := [.int .i64 x24.2.1, .int .i64 (x24.2.2.1.getD 0 0), .int .i64 (x24.2.2.1.getD 1 0), .int .i64 (x24.2.2.1.getD 2 0), .int .i64 (x24.2.2.1.getD 3 0), .int .i64 (x24.2.2.1.getD 4 0), .int .i64 (x24.2.2.1.getD 5 0), v25, v26, .string x24.2.2.2.2.2.1, .string x24.2.2.2.2.2.2]) (cs' := [.int .i64 x24.2.1, .int .i64 (x24.2.2.1.getD 0 0), .int .i64 (x24.2.2.1.getD 1 0), .int .i64 (x24.2.2.1.getD 2 0), .int .i64 (x24.2.2.1.getD 3 0), .int .i64 (x24.2.2.1.getD 4 0), .int .i64 (x24.2.2.1.getD 5 0), v25, v26, .string x24.2.2.2.2.2.1, .string x24.2.2.2.2.2.2]) rfl rfl rfl z_size26 rfl rfl rfl (ones_cons rfl (ones_cons rfl (ones_cons rfl (ones_cons rfl (ones_cons rfl (ones_cons rfl (ones_cons rfl (ones_cons hs27.one' (ones_cons hs28.one' (ones_cons rfl (ones_cons rfl ones_nil))))))))))) rfl rfl rfl ?_
   refine st_gs [[(b29, .cells #[.int .i64 x24.2.1, .int .i64 (x24.2.2.1.getD 0 0), .int .i64 (x24.2.2.1.getD 1 0), .int .i64 (x24.2.2.1.getD 2 0), .int .i64 (x24.2.2.1.getD 3 0), .int .i64 (x24.2.2.1.getD 4 0), .int .i64 (x24.2.2.1.getD 5 0), v25, v26, .string x24.2.2.2.2.2.1, .string x24.2.2.2.2.2.2] 26 (0, 0))], [(b3, .cells #[.int .i64 a1] 3 (0, 0))], [(b4, .cells #[v6] 57 (0, 0))], [(b9, .cells #[.int .i64 s24.1] 3 (0, 0))], [(b10, .cells #[.int .i64 s24.2.1] 3 (0, 0))], [(b11, .cells #[.bool s24.2.2] 4 (0, 0))]] rfl ?_
   refine st_end ?_
   refine st_begin ?_
   refine Z 2 rfl ?_
   refine st_cut (fun ρ τ30 gs => ∃ (s30 : Int), law23_EventLists_j3 s5 x24 s24 s30 o24 ∧ τ24.Le τ30 ∧ ESub ρ [(3, .pointer (some ⟨b3, 0, none⟩)), (4, .bool false), (5, .pointer (some ⟨b4, 0, none⟩)), (7, .pointer (some ⟨b9, 0, none⟩)), (8, .pointer (some ⟨b10, 0, none⟩)), (9, .pointer (some ⟨b11, 0, none⟩)), (49, .int .u32 x24.1), (50, .agg #[.int .i64 x24.2.1, .int .i64 (x24.2.2.1.getD 0 0), .int .i64 (x24.2.2.1.getD 1 0), .int .i64 (x24.2.2.1.getD 2 0), .int .i64 (x24.2.2.1.getD 3 0), .int .i64 (x24.2.2.1.getD 4 0), .int .i64 (x24.2.2.1.getD 5 0), v25, v26, .string x24.2.2.2.2.2.1, .string x24.2.2.2.2.2.2]), (11, .int .u32 x24.1), (12, .pointer (some ⟨b29, 0, none⟩))] ∧ gs = [[(b3, .cells #[.int .i64 a1] 3 (0, 0))], [(b4, .cells #[v6] 57 (0, 0))], [(b9, .cells #[.int .i64 s30] 3 (0, 0))], [(b10, .cells #[.int .i64 s24.2.1] 3 (0, 0))], [(b11, .cells #[.bool s24.2.2] 4 (0, 0))], [(b29, .cells #[.int .i64 x24.2.1, .int .i64 (x24.2.2.1.getD 0 0), .int .i64 (x24.2.2.1.getD 1 0), .int .i64 (x24.2.2.1.getD 2 0), .int .i64 (x24.2.2.1.getD 3 0), .int .i64 (x24.2.2.1.getD 4 0), .int .i64 (x24.2.2.1.getD 5 0), v25, v26, .string x24.2.2.2.2.2.1, .string x24.2.2.2.2.2.2] 26 (0, 0))]]) ?_ (fun hk30 => ?_)
   ·rintro ρ30 τ30 gs30 ⟨s30, h, hl30, hρ, rfl⟩
    refine st_es hρ ?_
    refine st_seq ?_
    obtain ⟨q33, hf34, q45, hf46, r56, hr57, h⟩ := h
    let cc31 : Prop := s24.2.2 = true
    let cc32 : Prop := (s24.2.2 && (decide (s30 < (s5.length : Int)))) = true
    let cc44 : Prop := ((s24.2.2 && (decide (s30 < (s5.length : Int)))) && (decide (x24.1 = q33.2.1))) = true
    refine st_draw 25 (dl [.v (.bool s24.2.2), .v (.bool s24.2.2), .g cc31 (.int .i64 s30), .g cc31 (v6), .g cc31 (.int .i64 (s5.length : Int)), .g cc31 (.bool (decide (s30 < (s5.length : Int)))), .v (.bool (s24.2.2 && (decide (s30 < (s5.length : Int))))), .v (.bool (s24.2.2 && (decide (s30 < (s5.length : Int))))), .g cc32 (.int .u32 x24.1), .g cc32 (v6), .g cc32 (.int .i64 s30), .h cc32 fun τ v => ∃ (b35 : Nat) (of36 : Nat) (vsb35 : List Value), (.pointer (some ⟨b35, of36, none⟩) : Value) = v ∧ CelN τ ⟨b35, of36, none⟩ vsb35 ∧ (kP (kI .i64) (kP (kI .u32) (kP (kI .i64) (kP (kI .i64) (kP (kI .i64) (kP (kA .i64 6) (kP (kSl (kP (kI .i64) (kI .i64))) (kP (kSl (kI .i64)) (kP kS kS))))))))).rep τ vsb35 q33, .h cc32 fun τ v => ∃ (b35 : Nat) (of36 : Nat) (vsb35 : List Value), (.pointer (some ⟨b35, of36 + 1, none⟩) : Value) = v ∧ CelN τ ⟨b35, of36, none⟩ vsb35 ∧ (kP (kI .i64) (kP (kI .u32) (kP (kI .i64) (kP (kI .i64) (kP (kI .i64) (kP (kA .i64 6) (kP (kSl (kP (kI .i64) (kI .i64))) (kP (kSl (kI .i64)) (kP kS kS))))))))).rep τ vsb35 q33, .g cc32 (.int .u32 q33.2.1), .g cc32 (.bool (decide (x24.1 = q33.2.1))), .v (.bool ((s24.2.2 && (decide (s30 < (s5.length : Int)))) && (decide (x24.1 = q33.2.1)))), .v (.bool ((s24.2.2 && (decide (s30 < (s5.length : Int)))) && (decide (x24.1 = q33.2.1)))), .g cc44 (.agg #[.int .i64 x24.2.1, .int .i64 (x24.2.2.1.getD 0 0), .int .i64 (x24.2.2.1.getD 1 0), .int .i64 (x24.2.2.1.getD 2 0), .int .i64 (x24.2.2.1.getD 3 0), .int .i64 (x24.2.2.1.getD 4 0), .int .i64 (x24.2.2.1.getD 5 0), v25, v26, .string x24.2.2.2.2.2.1, .string x24.2.2.2.2.2.2]), .g cc44 (v6), .g cc44 (.int .i64 s30), .h cc44 fun τ v => ∃ (b47 : Nat) (of48 : Nat) (vsb47 : List Value), (.pointer (some ⟨b47, of48, none⟩) : Value) = v ∧ CelN τ ⟨b47, of48, none⟩ vsb47 ∧ (kP (kI .i64) (kP (kI .u32) (kP (kI .i64) (kP (kI .i64) (kP (kI .i64) (kP (kA .i64 6) (kP (kSl (kP (kI .i64) (kI .i64))) (kP (kSl (kI .i64)) (kP kS kS))))))))).rep τ vsb47 q45, .h cc44 fun τ v => ∃ (b47 : Nat) (of48 : Nat) (vsb47 : List Value), (.pointer (some ⟨b47, of48 + 4, none⟩) : Value) = v ∧ CelN τ ⟨b47, of48, none⟩ vsb47 ∧ (kP (kI .i64) (kP (kI .u32) (kP (kI .i64) (kP (kI .i64) (kP (kI .i64) (kP (kA .i64 6) (kP (kSl (kP (kI .i64) (kI .i64))) (kP (kSl (kI .i64)) (kP kS kS))))))))).rep τ vsb47 q45, .h cc44 fun τ v => ∃ (v49 : Value) (v50 : Value), (.agg #[.int .i64 q45.2.2.2.2.1, .int .i64 (q45.2.2.2.2.2.1.getD 0 0), .int .i64 (q45.2.2.2.2.2.1.getD 1 0), .int .i64 (q45.2.2.2.2.2.1.getD 2 0), .int .i64 (q45.2.2.2.2.2.1.getD 3 0), .int .i64 (q45.2.2.2.2.2.1.getD 4 0), .int .i64 (q45.2.2.2.2.2.1.getD 5 0), v49, v50, .string q45.2.2.2.2.2.2.2.2.1, .string q45.2.2.2.2.2.2.2.2.2] : Value) = v ∧ Sl (kP (kI .i64) (kI .i64)) τ v49 q45.2.2.2.2.2.2.1 ∧ Sl (kI .i64) τ v50 q45.2.2.2.2.2.2.2.1, .g cc44 (.bool r56), .v (.bool (((s24.2.2 && (decide (s30 < (s5.length : Int)))) && (decide (x24.1 = q33.2.1))) && r56))]) (fun _ _ => []) z_mix rfl (dl_mono (by exact ⟨fun _ _ _ hl ⟨b35, of36, vsb35, hv, hc39, hrepb35⟩ => ⟨b35, of36, vsb35, hv, hc39.up hl, Kd.mono _ hl hrepb35⟩, ⟨fun _ _ _ hl ⟨b35, of36, vsb35, hv, hc39, hrepb35⟩ => ⟨b35, of36, vsb35, hv, hc39.up hl, Kd.mono _ hl hrepb35⟩, ⟨fun _ _ _ hl ⟨b47, of48, vsb47, hv, hc51, hrepb47⟩ => ⟨b47, of48, vsb47, hv, hc51.up hl, Kd.mono _ hl hrepb47⟩, ⟨fun _ _ _ hl ⟨b47, of48, vsb47, hv, hc51, hrepb47⟩ => ⟨b47, of48, vsb47, hv, hc51.up hl, Kd.mono _ hl hrepb47⟩, ⟨fun _ _ _ hl ⟨v49, v50, hv, hs54, hs55⟩ => ⟨v49, v50, hv, hs54.up hl, hs55.up hl⟩, trivial⟩⟩⟩⟩⟩)) (allB_cons (allB_cons (allB_cons (allB_cons (allB_cons (allB_cons (allB_cons (allB_cons (allB_cons (allB_cons (allB_cons (allB_cons (allB_cons (allB_cons (allB_cons (allB_cons (allB_cons (allB_cons (allB_cons (allB_cons (allB_cons (allB_cons (allB_cons (allB_cons (allB_cons allB_nil ?_) (p1 dA)) ?_) ?_) ?_) (p1 (dG [2, 4]))) (p1 dK)) (p1 dA)) (p1 (dG []))) ?_) ?_) ?_) ?_) ?_) (p1 (dG [8, 13]))) (p1 dK)) (p1 dA)) ?_) ?_) ?_) ?_) ?_) ?_) ?_) (p1 dK)) ?_
    ·intro ρ' τ pool rs hl hd hout hk
     refine o_load (j := 4) (v := .bool s24.2.2) rfl rfl rfl z_sc4 ((hout 9 rfl).trans rfl) rfl rfl ?_
     exact st_addNil (hk _ _ (Sto.Le.refl _) rfl)
    ·intro ρ' τ pool rs hl hd hout hk
     obtain ⟨_, e1, rfl⟩ := hd 1 rfl
     by_cases hG : s24.2.2 = true
     ·have hC := hG
      refine o_load (j := 2) (v := .int .i64 s30) rfl (wants_of rfl e1 hG) rfl z_sc3 ((hout 7 rfl).trans rfl) rfl rfl ?_
      exact st_addNil (hk _ _ (Sto.Le.refl _) ⟨fun _ => rfl, fun hn => absurd hC hn⟩)
     ·refine st_pass rfl rfl rfl e1 (beq_off hG) rfl ?_
      exact st_addNil (hk _ _ (Sto.Le.refl _) ⟨fun h => absurd h hG, fun _ => rfl⟩)
    ·intro ρ' τ pool rs hl hd hout hk
     obtain ⟨_, e1, rfl⟩ := hd 1 rfl
     by_cases hG : s24.2.2 = true
     ·have hC := hG
      refine o_load (j := 1) (v := v6) rfl (wants_of rfl e1 hG) rfl z_sc57 ((hout 5 rfl).trans rfl) rfl rfl ?_
      exact st_addNil (hk _ _ (Sto.Le.refl _) ⟨fun _ => rfl, fun hn => absurd hC hn⟩)
     ·refine st_pass rfl rfl rfl e1 (beq_off hG) rfl ?_
      exact st_addNil (hk _ _ (Sto.Le.refl _) ⟨fun h => absurd h hG, fun _ => rfl⟩)
    ·intro ρ' τ pool rs hl hd hout hk
     obtain ⟨_, e1, rfl⟩ := hd 1 rfl
     obtain ⟨w3, e3, t3⟩ := hd 3 rfl
     by_cases hG : s24.2.2 = true
     ·have hC := hG
      obtain ⟨rfl⟩ := t3.1 hC
      refine o_lenI rfl (wants_of rfl e1 hG) rfl z_slT57 e3 (hs15.up (((hl20.trans hl24).trans hl30).trans hl)) ?_
      exact st_addNil (hk _ _ (Sto.Le.refl _) ⟨fun _ => rfl, fun hn => absurd hC hn⟩)
     ·refine st_pass rfl rfl rfl e1 (beq_off hG) rfl ?_
      exact st_addNil (hk _ _ (Sto.Le.refl _) ⟨fun h => absurd h hG, fun _ => rfl⟩)
    ·intro ρ' τ pool rs hl hd hout hk
     obtain ⟨_, e7, rfl⟩ := hd 7 rfl
     by_cases hG : (s24.2.2 && (decide (s30 < (s5.length : Int)))) = true
     ·have hC := hG
      refine o_load (j := 1) (v := v6) rfl (wants_of rfl e7 hG) rfl z_sc57 ((hout 5 rfl).trans rfl) rfl rfl ?_
      exact st_addNil (hk _ _ (Sto.Le.refl _) ⟨fun _ => rfl, fun hn => absurd hC hn⟩)
     ·refine st_pass rfl rfl rfl e7 (beq_off hG) rfl ?_
      exact st_addNil (hk _ _ (Sto.Le.refl _) ⟨fun h => absurd h hG, fun _ => rfl⟩)
    ·intro ρ' τ pool rs hl hd hout hk
     obtain ⟨_, e7, rfl⟩ := hd 7 rfl
     by_cases hG : (s24.2.2 && (decide (s30 < (s5.length : Int)))) = true
     ·have hC := hG
      refine o_load (j := 2) (v := .int .i64 s30) rfl (wants_of rfl e7 hG) rfl z_sc3 ((hout 7 rfl).trans rfl) rfl rfl ?_
      exact st_addNil (hk _ _ (Sto.Le.refl _) ⟨fun _ => rfl, fun hn => absurd hC hn⟩)
     ·refine st_pass rfl rfl rfl e7 (beq_off hG) rfl ?_
      exact st_addNil (hk _ _ (Sto.Le.refl _) ⟨fun h => absurd h hG, fun _ => rfl⟩)
    ·intro ρ' τ pool rs hl hd hout hk
     obtain ⟨_, e7, rfl⟩ := hd 7 rfl
     obtain ⟨w9, e9, t9⟩ := hd 9 rfl
     obtain ⟨w10, e10, t10⟩ := hd 10 rfl
     by_cases hG : (s24.2.2 && (decide (s30 < (s5.length : Int)))) = true
     ·have hC := hG
      replace hf34 := hf34 hC
      obtain ⟨rfl⟩ := t9.1 hC
      obtain ⟨rfl⟩ := t10.1 hC
      refine o_index rfl (wants_of rfl e7 hG) rfl z_slT57 rfl e9 (hs15.up (((hl20.trans hl24).trans hl30).trans hl)) e10 hf34 (fun b35 of36 vsb35 hc39 hrepb35 => ?_)
      exact st_addNil (hk _ _ (Sto.Le.refl _) ⟨fun _ => ⟨b35, of36, _, rfl, hc39, hrepb35⟩, fun hn => absurd hC hn⟩)
     ·refine st_pass rfl rfl rfl e7 (beq_off hG) rfl ?_
      exact st_addNil (hk _ _ (Sto.Le.refl _) ⟨fun h => absurd h hG, fun _ => rfl⟩)
    ·intro ρ' τ pool rs hl hd hout hk
     obtain ⟨_, e7, rfl⟩ := hd 7 rfl
     obtain ⟨w11, e11, t11⟩ := hd 11 rfl
     by_cases hG : (s24.2.2 && (decide (s30 < (s5.length : Int)))) = true
     ·have hC := hG
      obtain ⟨b35, of36, vsb35, rfl, hc39, hrepb35⟩ := t11.1 hC
      have hrepb35 := hrepb35
      obtain ⟨_, _, rfl, rfl, ⟨_, _, rfl, rfl, ⟨_, _, rfl, rfl, ⟨_, _, rfl, rfl, ⟨_, _, rfl, rfl, ⟨_, _, rfl, rfl, ⟨_, _, rfl, ⟨v37, rfl, hs42⟩, ⟨_, _, rfl, ⟨v38, rfl, hs43⟩, ⟨_, _, rfl, rfl, rfl⟩⟩⟩⟩⟩⟩⟩⟩⟩ := hrepb35
      refine o_fieldAddr rfl (wants_of rfl e7 hG) rfl z_field35_1 e11 ?_
      exact st_addNil (hk _ _ (Sto.Le.refl _) ⟨fun _ => ⟨b35, of36, _, rfl, hc39, hrepb35⟩, fun hn => absurd hC hn⟩)
     ·refine st_pass rfl rfl rfl e7 (beq_off hG) rfl ?_
      exact st_addNil (hk _ _ (Sto.Le.refl _) ⟨fun h => absurd h hG, fun _ => rfl⟩)
    ·intro ρ' τ pool rs hl hd hout hk
     obtain ⟨_, e7, rfl⟩ := hd 7 rfl
     obtain ⟨w12, e12, t12⟩ := hd 12 rfl
     by_cases hG : (s24.2.2 && (decide (s30 < (s5.length : Int)))) = true
     ·have hC := hG
      obtain ⟨b35, of36, vsb35, rfl, hc39, hrepb35⟩ := t12.1 hC
      have hrepb35 := hrepb35
      obtain ⟨_, _, rfl, rfl, ⟨_, _, rfl, rfl, ⟨_, _, rfl, rfl, ⟨_, _, rfl, rfl, ⟨_, _, rfl, rfl, ⟨_, _, rfl, rfl, ⟨_, _, rfl, ⟨v37, rfl, hs42⟩, ⟨_, _, rfl, ⟨v38, rfl, hs43⟩, ⟨_, _, rfl, rfl, rfl⟩⟩⟩⟩⟩⟩⟩⟩⟩ := hrepb35
      refine o_loadI (v := .int .u32 q33.2.1) rfl (wants_of rfl e7 hG) rfl z_sc33 e12 (hc39 1 _ rfl) ?_
      exact st_addNil (hk _ _ (Sto.Le.refl _) ⟨fun _ => rfl, fun hn => absurd hC hn⟩)
     ·refine st_pass rfl rfl rfl e7 (beq_off hG) rfl ?_
      exact st_addNil (hk _ _ (Sto.Le.refl _) ⟨fun h => absurd h hG, fun _ => rfl⟩)
    ·intro ρ' τ pool rs hl hd hout hk
     obtain ⟨_, e16, rfl⟩ := hd 16 rfl
     by_cases hG : ((s24.2.2 && (decide (s30 < (s5.length : Int)))) && (decide (x24.1 = q33.2.1))) = true
     ·have hC := hG
      refine o_loadN (j := 5) (vs := [.int .i64 x24.2.1, .int .i64 (x24.2.2.1.getD 0 0), .int .i64 (x24.2.2.1.getD 1 0), .int .i64 (x24.2.2.1.getD 2 0), .int .i64 (x24.2.2.1.getD 3 0), .int .i64 (x24.2.2.1.getD 4 0), .int .i64 (x24.2.2.1.getD 5 0), v25, v26, .string x24.2.2.2.2.2.1, .string x24.2.2.2.2.2.2]) rfl (wants_of rfl e16 hG) rfl z_agg26 ((hout 12 rfl).trans rfl) rfl rfl ?_
      exact st_addNil (hk _ _ (Sto.Le.refl _) ⟨fun _ => rfl, fun hn => absurd hC hn⟩)
     ·refine st_pass rfl rfl rfl e16 (beq_off hG) rfl ?_
      exact st_addNil (hk _ _ (Sto.Le.refl _) ⟨fun h => absurd h hG, fun _ => rfl⟩)
    ·intro ρ' τ pool rs hl hd hout hk
     obtain ⟨_, e16, rfl⟩ := hd 16 rfl
     by_cases hG : ((s24.2.2 && (decide (s30 < (s5.length : Int)))) && (decide (x24.1 = q33.2.1))) = true
     ·have hC := hG
      refine o_load (j := 1) (v := v6) rfl (wants_of rfl e16 hG) rfl z_sc57 ((hout 5 rfl).trans rfl) rfl rfl ?_
      exact st_addNil (hk _ _ (Sto.Le.refl _) ⟨fun _ => rfl, fun hn => absurd hC hn⟩)
     ·refine st_pass rfl rfl rfl e16 (beq_off hG) rfl ?_
      exact st_addNil (hk _ _ (Sto.Le.refl _) ⟨fun h => absurd h hG, fun _ => rfl⟩)
    ·intro ρ' τ pool rs hl hd hout hk
     obtain ⟨_, e16, rfl⟩ := hd 16 rfl
     by_cases hG : ((s24.2.2 && (decide (s30 < (s5.length : Int)))) && (decide (x24.1 = q33.2.1))) = true
     ·have hC := hG
      refine o_load (j := 2) (v := .int .i64 s30) rfl (wants_of rfl e16 hG) rfl z_sc3 ((hout 7 rfl).trans rfl) rfl rfl ?_
      exact st_addNil (hk _ _ (Sto.Le.refl _) ⟨fun _ => rfl, fun hn => absurd hC hn⟩)
     ·refine st_pass rfl rfl rfl e16 (beq_off hG) rfl ?_
      exact st_addNil (hk _ _ (Sto.Le.refl _) ⟨fun h => absurd h hG, fun _ => rfl⟩)
    ·intro ρ' τ pool rs hl hd hout hk
     obtain ⟨_, e16, rfl⟩ := hd 16 rfl
     obtain ⟨w18, e18, t18⟩ := hd 18 rfl
     obtain ⟨w19, e19, t19⟩ := hd 19 rfl
     by_cases hG : ((s24.2.2 && (decide (s30 < (s5.length : Int)))) && (decide (x24.1 = q33.2.1))) = true
     ·have hC := hG
      replace hf46 := hf46 hC
      obtain ⟨rfl⟩ := t18.1 hC
      obtain ⟨rfl⟩ := t19.1 hC
      refine o_index rfl (wants_of rfl e16 hG) rfl z_slT57 rfl e18 (hs15.up (((hl20.trans hl24).trans hl30).trans hl)) e19 hf46 (fun b47 of48 vsb47 hc51 hrepb47 => ?_)
      exact st_addNil (hk _ _ (Sto.Le.refl _) ⟨fun _ => ⟨b47, of48, _, rfl, hc51, hrepb47⟩, fun hn => absurd hC hn⟩)
     ·refine st_pass rfl rfl rfl e16 (beq_off hG) rfl ?_
      exact st_addNil (hk _ _ (Sto.Le.refl _) ⟨fun h => absurd h hG, fun _ => rfl⟩)
    ·intro ρ' τ pool rs hl hd hout hk
     obtain ⟨_, e16, rfl⟩ := hd 16 rfl
     obtain ⟨w20, e20, t20⟩ := hd 20 rfl
     by_cases hG : ((s24.2.2 && (decide (s30 < (s5.length : Int)))) && (decide (x24.1 = q33.2.1))) = true
     ·have hC := hG
      obtain ⟨b47, of48, vsb47, rfl, hc51, hrepb47⟩ := t20.1 hC
      have hrepb47 := hrepb47
      obtain ⟨_, _, rfl, rfl, ⟨_, _, rfl, rfl, ⟨_, _, rfl, rfl, ⟨_, _, rfl, rfl, ⟨_, _, rfl, rfl, ⟨_, _, rfl, rfl, ⟨_, _, rfl, ⟨v49, rfl, hs54⟩, ⟨_, _, rfl, ⟨v50, rfl, hs55⟩, ⟨_, _, rfl, rfl, rfl⟩⟩⟩⟩⟩⟩⟩⟩⟩ := hrepb47
      refine o_fieldAddr rfl (wants_of rfl e16 hG) rfl z_field35_4 e20 ?_
      exact st_addNil (hk _ _ (Sto.Le.refl _) ⟨fun _ => ⟨b47, of48, _, rfl, hc51, hrepb47⟩, fun hn => absurd hC hn⟩)
     ·refine st_pass rfl rfl rfl e16 (beq_off hG) rfl ?_
      exact st_addNil (hk _ _ (Sto.Le.refl _) ⟨fun h => absurd h hG, fun _ => rfl⟩)
    ·intro ρ' τ pool rs hl hd hout hk
     obtain ⟨_, e16, rfl⟩ := hd 16 rfl
     obtain ⟨w21, e21, t21⟩ := hd 21 rfl
     by_cases hG : ((s24.2.2 && (decide (s30 < (s5.length : Int)))) && (decide (x24.1 = q33.2.1))) = true
     ·have hC := hG
      obtain ⟨b47, of48, vsb47, rfl, hc51, hrepb47⟩ := t21.1 hC
      have hrepb47 := hrepb47
      obtain ⟨_, _, rfl, rfl, ⟨_, _, rfl, rfl, ⟨_, _, rfl, rfl, ⟨_, _, rfl, rfl, ⟨_, _, rfl, rfl, ⟨_, _, rfl, rfl, ⟨_, _, rfl, ⟨v49, rfl, hs54⟩, ⟨_, _, rfl, ⟨v50, rfl, hs55⟩, ⟨_, _, rfl, rfl, rfl⟩⟩⟩⟩⟩⟩⟩⟩⟩ := hrepb47
      refine o_loadIN (vs := [.int .i64 q45.2.2.2.2.1, .int .i64 (q45.2.2.2.2.2.1.getD 0 0), .int .i64 (q45.2.2.2.2.2.1.getD 1 0), .int .i64 (q45.2.2.2.2.2.1.getD 2 0), .int .i64 (q45.2.2.2.2.2.1.getD 3 0), .int .i64 (q45.2.2.2.2.2.1.getD 4 0), .int .i64 (q45.2.2.2.2.2.1.getD 5 0), v49, v50, .string q45.2.2.2.2.2.2.2.2.1, .string q45.2.2.2.2.2.2.2.2.2]) rfl (wants_of rfl e16 hG) rfl z_agg26 e21 rfl (celn_part 4 rfl hc51) ?_
      exact st_addNil (hk _ _ (Sto.Le.refl _) ⟨fun _ => ⟨v49, v50, rfl, hs54, hs55⟩, fun hn => absurd hC hn⟩)
     ·refine st_pass rfl rfl rfl e16 (beq_off hG) rfl ?_
      exact st_addNil (hk _ _ (Sto.Le.refl _) ⟨fun h => absurd h hG, fun _ => rfl⟩)
    ·intro ρ' τ pool rs hl hd hout hk
     obtain ⟨_, e16, rfl⟩ := hd 16 rfl
     obtain ⟨w17, e17, t17⟩ := hd 17 rfl
     obtain ⟨w22, e22, t22⟩ := hd 22 rfl
     by_cases hG : ((s24.2.2 && (decide (s30 < (s5.length : Int)))) && (decide (x24.1 = q33.2.1))) = true
     ·have hC := hG
      replace hr57 := hr57 hC
      obtain ⟨rfl⟩ := t17.1 hC
      obtain ⟨v49, v50, rfl, hs54, hs55⟩ := t22.1 hC
      refine st_call (foot := []) rfl (wants_of rfl e16 hG) rfl rfl (evs_cons e17 (evs_cons e22 rfl)) rfl (callV_fn z_en15 (msg_Same_ok hr57 τ (hs27.up (hl30.trans hl)) (hs28.up (hl30.trans hl)) hs54 hs55)) ?_
      rintro vτ58 τ58 gsτ58 hl59 ⟨rfl, rfl⟩
      exact st_addNil (hk _ _ hl59 ⟨fun _ => rfl, fun hn => absurd hC hn⟩)
     ·refine st_pass rfl rfl rfl e16 (beq_off hG) rfl ?_
      exact st_addNil (hk _ _ (Sto.Le.refl _) ⟨fun h => absurd h hG, fun _ => rfl⟩)
    intro ρ' τ60 vals hl60 hv hout
    refine st_ord [0, 0, 0, 0, 0, 0] _ rfl ?_
    refine st_env (ρ' := [(89, .bool (((s24.2.2 && (decide (s30 < (s5.length : Int)))) && (decide (x24.1 = q33.2.1))) && r56)), (3, .pointer (some ⟨b3, 0, none⟩)), (4, .bool false), (5, .pointer (some ⟨b4, 0, none⟩)), (7, .pointer (some ⟨b9, 0, none⟩)), (8, .pointer (some ⟨b10, 0, none⟩)), (9, .pointer (some ⟨b11, 0, none⟩)), (49, .int .u32 x24.1), (50, .agg #[.int .i64 x24.2.1, .int .i64 (x24.2.2.1.getD 0 0), .int .i64 (x24.2.2.1.getD 1 0), .int .i64 (x24.2.2.1.getD 2 0), .int .i64 (x24.2.2.1.getD 3 0), .int .i64 (x24.2.2.1.getD 4 0), .int .i64 (x24.2.2.1.getD 5 0), v25, v26, .string x24.2.2.2.2.2.1, .string x24.2.2.2.2.2.2]), (11, .int .u32 x24.1), (12, .pointer (some ⟨b29, 0, none⟩))]) ⟨(lv1 hv 24 rfl rfl), (hout 3 rfl).trans rfl, (hout 4 rfl).trans rfl, (hout 5 rfl).trans rfl, (hout 7 rfl).trans rfl, (hout 8 rfl).trans rfl, (hout 9 rfl).trans rfl, (hout 49 rfl).trans rfl, (hout 50 rfl).trans rfl, (hout 11 rfl).trans rfl, (hout 12 rfl).trans rfl, trivial⟩ ?_
    refine ZZ 14 [4, 2, 2, 3, 3] rfl rfl ?_
    refine st_ord [0, 0, 0, 0, 0] _ rfl ?_
    exact st_rend (List.Sublist.refl _) (hl30.trans hl60) ⟨_, h, ((hl24.trans hl30).trans hl60), rfl⟩
   obtain ⟨e61, hL61, hA61⟩ := h
   refine st_ord [1, 1, 1, 1, 1, 0] _ rfl ?_
   refine st_loop hL61 (fun (s61 : Int) ρ τ61 gs => τ24.Le τ61 ∧ ESub ρ [(3, .pointer (some ⟨b3, 0, none⟩)), (4, .bool false), (5, .pointer (some ⟨b4, 0, none⟩)), (7, .pointer (some ⟨b9, 0, none⟩)), (8, .pointer (some ⟨b10, 0, none⟩)), (9, .pointer (some ⟨b11, 0, none⟩)), (49, .int .u32 x24.1), (50, .agg #[.int .i64 x24.2.1, .int .i64 (x24.2.2.1.getD 0 0), .int .i64 (x24.2.2.1.getD 1 0), .int .i64 (x24.2.2.1.getD 2 0), .int .i64 (x24.2.2.1.getD 3 0), .int .i64 (x24.2.2.1.getD 4 0), .int .i64 (x24.2.2.1.getD 5 0), v25, v26, .string x24.2.2.2.2.2.1, .string x24.2.2.2.2.2.2]), (11, .int .u32 x24.1), (12, .pointer (some ⟨b29, 0, none⟩))] ∧ gs = [[(b3, .cells #[.int .i64 a1] 3 (0, 0))], [(b4, .cells #[v6] 57 (0, 0))], [(b9, .cells #[.int .i64 s61] 3 (0, 0))], [(b10, .cells #[.int .i64 s24.2.1] 3 (0, 0))], [(b11, .cells #[.bool s24.2.2] 4 (0, 0))], [(b29, .cells #[.int .i64 x24.2.1, .int .i64 (x24.2.2.1.getD 0 0), .int .i64 (x24.2.2.1.getD 1 0), .int .i64 (x24.2.2.1.getD 2 0), .int .i64 (x24.2.2.1.getD 3 0), .int .i64 (x24.2.2.1.getD 4 0), .int .i64 (x24.2.2.1.getD 5 0), v25, v26, .string x24.2.2.2.2.2.1, .string x24.2.2.2.2.2.2] 26 (0, 0))]]) ⟨Sto.Le.refl _, rfl, rfl⟩ ?_
   rintro s61 o61 h he61 ρ61 τ61 gs61 ⟨hl61, hρ, rfl⟩ hn61
   refine st_es hρ ?_
   refine Z 2 rfl ?_
   refine st_cut (fun ρ τ62 gs => ∃ (s62 : Bool), law23_EventLists_j5 s61 s62 o61 ∧ τ61.Le τ62 ∧ ESub ρ [(3, .pointer (some ⟨b3, 0, none⟩)), (4, .bool false), (5, .pointer (some ⟨b4, 0, none⟩)), (7, .pointer (some ⟨b9, 0, none⟩)), (8, .pointer (some ⟨b10, 0, none⟩)), (9, .pointer (some ⟨b11, 0, none⟩)), (49, .int .u32 x24.1), (50, .agg #[.int .i64 x24.2.1, .int .i64 (x24.2.2.1.getD 0 0), .int .i64 (x24.2.2.1.getD 1 0), .int .i64 (x24.2.2.1.getD 2 0), .int .i64 (x24.2.2.1.getD 3 0), .int .i64 (x24.2.2.1.getD 4 0), .int .i64 (x24.2.2.1.getD 5 0), v25, v26, .string x24.2.2.2.2.2.1, .string x24.2.2.2.2.2.2]), (11, .int .u32 x24.1), (12, .pointer (some ⟨b29, 0, none⟩)), (62, .bool s62)] ∧ gs = [[(b3, .cells #[.int .i64 a1] 3 (0, 0))], [(b4, .cells #[v6] 57 (0, 0))], [(b9, .cells #[.int .i64 s61] 3 (0, 0))], [(b10, .cells #[.int .i64 s24.2.1] 3 (0, 0))], [(b11, .cells #[.bool s24.2.2] 4 (0, 0))], [(b29, .cells #[.int .i64 x24.2.1, .int .i64 (x24.2.2.1.getD 0 0), .int .i64 (x24.2.2.1.getD 1 0), .int .i64 (x24.2.2.1.getD 2 0), .int .i64 (x24.2.2.1.getD 3 0), .int .i64 (x24.2.2.1.getD 4 0), .int .i64 (x24.2.2.1.getD 5 0), v25, v26, .string x24.2.2.2.2.2.1, .string x24.2.2.2.2.2.2] 26 (0, 0))]]) ?_ (fun hk62 => ?_)
   ·rintro ρ62 τ62 gs62 ⟨s62, h, hl62, hρ, rfl⟩
    refine st_es hρ ?_
    refine st_if rfl h (fun h => ?_) (fun h => ?_)
    ·refine ZZ 8 [2, 2] rfl rfl ?_
     exact hn61 _ _ _ _ h ⟨(hl61.trans hl62), rfl, rfl⟩
    ·refine st_exit rfl ?_
     obtain rfl := he61 _ h
     replace h := hA61
     exact hk30 _ _ _ ⟨s61, h, (hl61.trans hl62), rfl, rfl⟩
   refine ZZ 3 [2, 1] rfl rfl ?_
   refine o_lenI rfl rfl rfl z_slT57 rfl (hs15.up ((hl20.trans hl24).trans hl61)) ?_
   refine o_ibin (v := .bool (decide (s61 < (s5.length : Int)))) rfl rfl rfl rfl rfl rfl ?_
   refine o_mif rfl rfl rfl rfl h (fun h => ?_) (fun h => ?_)
   ·refine ZZ 2 [1, 2] rfl rfl ?_
    obtain ⟨q63, hf64, h⟩ := h
    refine o_index rfl rfl rfl z_slT57 rfl rfl (hs15.up ((hl20.trans hl24).trans hl61)) rfl hf64 (fun b65 of66 vs hc69 hrep => ?_)
    obtain ⟨_, _, rfl, rfl, ⟨_, _, rfl, rfl, ⟨_, _, rfl, rfl, ⟨_, _, rfl, rfl, ⟨_, _, rfl, rfl, ⟨_, _, rfl, rfl, ⟨_, _, rfl, ⟨v67, rfl, hs70⟩, ⟨_, _, rfl, ⟨v68, rfl, hs71⟩, ⟨_, _, rfl, rfl, rfl⟩⟩⟩⟩⟩⟩⟩⟩⟩ := hrep
    refine o_fieldAddr rfl rfl rfl z_field35_0 rfl ?_
    refine o_loadI (v := .int .i64 q63.1) rfl rfl rfl z_sc3 rfl (hc69 0 _ rfl) ?_
    refine Z 3 rfl ?_
    exact hk62 _ _ _ ⟨(!(decide (q63.1 = 1))), h, (Sto.Le.refl _), rfl, rfl⟩
   ·refine Z 8 rfl ?_
    exact hk62 _ _ _ ⟨false, h, (Sto.Le.refl _), rfl, rfl⟩
  ·rintro p73 τ74 gs24 f24 ht hl75 ⟨hb, rfl⟩ rfl
   subst ht
   replace h := hA24
   refine st_ord [1, 1, 1, 1, 1] _ rfl ?_
   refine ZZ 4 [1] rfl rfl ?_
   obtain ⟨r76, hr77, h⟩ := h
   refine st_call (foot := []) rfl rfl rfl rfl rfl rfl (callV_fn z_en31 (event_Seqs_ok hr77 τ74 (hs15.up (hl20.trans hl75)))) ?_
   rintro vτ78 τ78 gsτ78 hl79 ⟨v80, rfl, rfl, hs81⟩
   refine Z 8 rfl ?_
   refine st_cut (fun ρ τ82 gs => ∃ (s82 : Int × Int × Bool), law23_EventLists_j6 a1 s5 p73 r76 s82 r ∧ τ78.Le τ82 ∧ ESub ρ [(3, .pointer (some ⟨b3, 0, none⟩)), (4, .bool false), (5, .pointer (some ⟨b4, 0, none⟩)), (8, .pointer (some ⟨b10, 0, none⟩)), (9, .pointer (some ⟨b11, 0, none⟩)), (13, v80), (14, .int .i64 s82.1), (15, .int .i64 s82.2.1)] ∧ gs = [[(b3, .cells #[.int .i64 a1] 3 (0, 0))], [(b4, .cells #[v6] 57 (0, 0))], [(b10, .cells #[.int .i64 p73.2.1] 3 (0, 0))], [(b11, .cells #[.bool s82.2.2] 4 (0, 0))]]) ?_ (fun hk82 => ?_)
   ·rintro ρ82 τ82 gs82 ⟨s82, h, hl82, hρ, rfl⟩
    refine st_es hρ ?_
    refine Z 2 rfl ?_
    refine o_alloc rfl rfl rfl z_zero3 (fun b83 => ?_)
    refine o_alloc rfl rfl rfl z_zero3 (fun b84 => ?_)
    refine ZZ 6 [1, 0, 3] rfl rfl ?_
    obtain ⟨r85, hr86, h⟩ := h
    refine st_call (foot := []) rfl rfl rfl rfl rfl rfl (callV_fn z_en32 (event_Rejects_ok hr86 τ82 (hs15.up (((hl20.trans hl75).trans hl79).trans hl82)))) ?_
    rintro vτ87 τ87 gsτ87 hl88 ⟨f89, q90, rfl, rfl, hit91⟩
    refine Z 16 rfl ?_
    obtain ⟨t92, w92, hR92, hA92⟩ := h
    refine st_env (ρ' := [(3, .pointer (some ⟨b3, 0, none⟩)), (4, .bool false), (5, .pointer (some ⟨b4, 0, none⟩)), (8, .pointer (some ⟨b10, 0, none⟩)), (9, .pointer (some ⟨b11, 0, none⟩)), (13, v80), (14, .int .i64 s82.1), (15, .int .i64 s82.2.1), (17, .pointer (some ⟨b83, 0, none⟩)), (18, .pointer (some ⟨b84, 0, none⟩)), (141, .func (.func f89) #[] q90)]) ⟨rfl, rfl, rfl, rfl, rfl, rfl, rfl, rfl, rfl, rfl, rfl, trivial⟩ ?_
    refine st_ord [2, 2, 2, 2, 1, 0] _ rfl ?_
    refine st_addNil ?_
    refine st_range (B := law23_EventLists_l7 s5) (s0 := (s82.2.2, 0, (-1))) ranges_fctx rfl hit91 (Sto.Le.refl _) hR92 rfl (fun _ _ _ h => by cases h; rfl) (fun (s92 : Bool × Int × Int) τ92 gs => τ87.Le τ92 ∧ gs = [[(b3, .cells #[.int .i64 a1] 3 (0, 0))], [(b4, .cells #[v6] 57 (0, 0))], [(b10, .cells #[.int .i64 p73.2.1] 3 (0, 0))], [(b11, .cells #[.bool s92.1] 4 (0, 0))], [(b83, .cells #[.int .i64 s92.2.1] 3 (0, 0))], [(b84, .cells #[.int .i64 s92.2.2] 3 (0, 0))]]) (fun _ _ _ _ => False) (fun _ _ _ _ hl ⟨hb, hg⟩ => ⟨hb.trans hl, hg⟩) (fun _ _ _ _ _ _ h => h.elim) ⟨Sto.Le.refl _, rfl⟩ ?_ ?_ ?_
    ·rintro x92 s92 o92 τ92 gs92 vx92 hl92 h rfl ⟨hb92, rfl⟩ l92 rc92 caller92 cs92 fs92
     refine Z 7 rfl ?_
     refine st_begin ?_
     refine Z 2 rfl ?_
     refine st_cut (fun ρ τ93 gs => ∃ (s93 : Bool), law23_EventLists_j8 x92 s92 s93 o92 ∧ τ92.Le τ93 ∧ ESub ρ [(3, .pointer (some ⟨b3, 0, none⟩)), (4, .bool false), (5, .pointer (some ⟨b4, 0, none⟩)), (8, .pointer (some ⟨b10, 0, none⟩)), (9, .pointer (some ⟨b11, 0, none⟩)), (13, v80), (14, .int .i64 s82.1), (15, .int .i64 s82.2.1), (17, .pointer (some ⟨b83, 0, none⟩)), (18, .pointer (some ⟨b84, 0, none⟩)), (142, .int .i64 x92.1), (143, .int .i64 x92.2), (20, .int .i64 x92.1), (21, .int .i64 x92.2)] ∧ gs = [[(b3, .cells #[.int .i64 a1] 3 (0, 0))], [(b4, .cells #[v6] 57 (0, 0))], [(b10, .cells #[.int .i64 p73.2.1] 3 (0, 0))], [(b11, .cells #[.bool s93] 4 (0, 0))], [(b83, .cells #[.int .i64 s92.2.1] 3 (0, 0))], [(b84, .cells #[.int .i64 s92.2.2] 3 (0, 0))]]) ?_ (fun hk93 => ?_)
     ·rintro ρ93 τ93 gs93 ⟨s93, h, hl93, hρ, rfl⟩
      refine st_es hρ ?_
      refine ZZ 11 [5, 4, 4] rfl rfl ?_
      exact st_rend (List.Sublist.refl _) hl93 ⟨_, h, (hl92.trans hl93), rfl⟩
     refine ZZ 2 [3] rfl rfl ?_
     refine o_mif rfl rfl rfl rfl h (fun h => ?_) (fun h => ?_)
     ·refine ZZ 4 [5] rfl rfl ?_
      refine o_mif rfl rfl rfl rfl h (fun h => ?_) (fun h => ?_)
      ·refine ZZ 2 [1] rfl rfl ?_
       refine o_lenI rfl rfl rfl z_slT57 rfl (hs15.up (((((hl20.trans hl75).trans hl79).trans hl82).trans hl88).trans hl92)) ?_
       refine Z 2 rfl ?_
       refine o_mif rfl rfl rfl rfl h (fun h => ?_) (fun h => ?_)
       ·refine ZZ 2 [1] rfl rfl ?_
        obtain ⟨q94, hf95, h⟩ := h
        refine o_index rfl rfl rfl z_slT57 rfl rfl (hs15.up (((((hl20.trans hl75).trans hl79).trans hl82).trans hl88).trans hl92)) rfl hf95 (fun b96 of97 vs hc100 hrep => ?_)
        obtain ⟨_, _, rfl, rfl, ⟨_, _, rfl, rfl, ⟨_, _, rfl, rfl, ⟨_, _, rfl, rfl, ⟨_, _, rfl, rfl, ⟨_, _, rfl, rfl, ⟨_, _, rfl, ⟨v98, rfl, hs101⟩, ⟨_, _, rfl, ⟨v99, rfl, hs102⟩, ⟨_, _, rfl, rfl, rfl⟩⟩⟩⟩⟩⟩⟩⟩⟩ := hrep
        refine o_fieldAddr rfl rfl rfl z_field35_0 rfl ?_
        refine o_loadI (v := .int .i64 q94.1) rfl rfl rfl z_sc3 rfl (hc100 0 _ rfl) ?_
        refine Z 2 rfl ?_
        refine o_mif rfl rfl rfl rfl h (fun h => ?_) (fun h => ?_)
        ·refine ZZ 2 [1] rfl rfl ?_
         obtain ⟨q103, hf104, h⟩ := h
         refine o_index rfl rfl rfl z_slT57 rfl rfl (hs15.up (((((hl20.trans hl75).trans hl79).trans hl82).trans hl88).trans hl92)) rfl hf104 (fun b105 of106 vs hc109 hrep => ?_)
         obtain ⟨_, _, rfl, rfl, ⟨_, _, rfl, rfl, ⟨_, _, rfl, rfl, ⟨_, _, rfl, rfl, ⟨_, _, rfl, rfl, ⟨_, _, rfl, rfl, ⟨_, _, rfl, ⟨v107, rfl, hs110⟩, ⟨_, _, rfl, ⟨v108, rfl, hs111⟩, ⟨_, _, rfl, rfl, rfl⟩⟩⟩⟩⟩⟩⟩⟩⟩ := hrep
         refine o_fieldAddr rfl rfl rfl z_field35_3 rfl ?_
         refine o_loadI (v := .int .i64 q103.2.2.2.1) rfl rfl rfl z_sc28 rfl (hc109 3 _ rfl) ?_
         refine ZZ 5 [3] rfl rfl ?_
         exact hk93 _ _ _ ⟨(decide (q103.2.2.2.1 = x92.2)), h, (Sto.Le.refl _), rfl, rfl⟩
        ·refine ZZ 10 [3] rfl rfl ?_
         exact hk93 _ _ _ ⟨false, h, (Sto.Le.refl _), rfl, rfl⟩
       ·refine ZZ 18 [3] rfl rfl ?_
        exact hk93 _ _ _ ⟨false, h, (Sto.Le.refl _), rfl, rfl⟩
      ·refine ZZ 24 [3] rfl rfl ?_
       exact hk93 _ _ _ ⟨false, h, (Sto.Le.refl _), rfl, rfl⟩
     ·refine ZZ 29 [3] rfl rfl ?_
      exact hk93 _ _ _ ⟨false, h, (Sto.Le.refl _), rfl, rfl⟩
    ·rintro p112 τ113 gs92 f92 ht hl114 ⟨hb, rfl⟩ rfl
     subst ht
     replace h := hA92
     refine st_ord [1, 1, 1, 1, 1, 1] _ rfl ?_
     refine Z 3 rfl ?_
     refine o_alloc rfl rfl rfl z_zero3 (fun b115 => ?_)
     refine o_alloc rfl rfl rfl z_zero3 (fun b116 => ?_)
     refine ZZ 6 [1, 0, 3] rfl rfl ?_
     obtain ⟨r117, hr118, h⟩ := h
     refine st_call (foot := []) rfl rfl rfl rfl rfl rfl (callV_fn z_en32 (event_Rejects_ok hr118 τ113 (hs15.up (((((hl20.trans hl75).trans hl79).trans hl82).trans hl88).trans hl114)))) ?_
     rintro vτ119 τ119 gsτ119 hl120 ⟨f121, q122, rfl, rfl, hit123⟩
     refine Z 11 rfl ?_
     refine st_cut (fun ρ τ124 gs => ∃ (s124 : Int), law23_EventLists_j9 a1 s5 p73 r76 s82 p112 s124 r ∧ τ119.Le τ124 ∧ ESub ρ [(3, .pointer (some ⟨b3, 0, none⟩)), (4, .bool false), (5, .pointer (some ⟨b4, 0, none⟩)), (8, .pointer (some ⟨b10, 0, none⟩)), (9, .pointer (some ⟨b11, 0, none⟩)), (13, v80), (14, .int .i64 s82.1), (15, .int .i64 s82.2.1), (17, .pointer (some ⟨b83, 0, none⟩)), (22, .pointer (some ⟨b115, 0, none⟩)), (23, .pointer (some ⟨b116, 0, none⟩))] ∧ gs = [[(b3, .cells #[.int .i64 a1] 3 (0, 0))], [(b4, .cells #[v6] 57 (0, 0))], [(b10, .cells #[.int .i64 p73.2.1] 3 (0, 0))], [(b11, .cells #[.bool p112.1] 4 (0, 0))], [(b83, .cells #[.int .i64 p112.2.1] 3 (0, 0))], [(b115, .cells #[.int .i64 s124] 3 (0, 0))], [(b116, .cells #[.int .i64 0] 3 (0, 0))]]) ?_ (fun hk124 => ?_)
     ·rintro ρ124 τ124 gs124 ⟨s124, h, hl124, hρ, rfl⟩
      refine st_es hρ ?_
      refine ZZ 3 [1] rfl rfl ?_
      obtain ⟨r125, hr126, h⟩ := h
      refine st_call (foot := []) rfl rfl rfl rfl rfl rfl (callV_fn z_en30 (event_Delivered_ok hr126 τ124 (hs15.up (((((((hl20.trans hl75).trans hl79).trans hl82).trans hl88).trans hl114).trans hl120).trans hl124)))) ?_
      rintro vτ127 τ127 gsτ127 hl128 ⟨f129, q130, rfl, rfl, hit131⟩
      refine Z 11 rfl ?_
      refine st_cut (fun ρ τ132 gs => ∃ (s132 : Int), law23_EventLists_j10 a1 p73 r76 s82 p112 s124 s132 r ∧ τ127.Le τ132 ∧ ESub ρ [(3, .pointer (some ⟨b3, 0, none⟩)), (4, .bool false), (8, .pointer (some ⟨b10, 0, none⟩)), (9, .pointer (some ⟨b11, 0, none⟩)), (13, v80), (14, .int .i64 s82.1), (15, .int .i64 s82.2.1), (17, .pointer (some ⟨b83, 0, none⟩)), (22, .pointer (some ⟨b115, 0, none⟩)), (23, .pointer (some ⟨b116, 0, none⟩))] ∧ gs = [[(b3, .cells #[.int .i64 a1] 3 (0, 0))], [(b10, .cells #[.int .i64 p73.2.1] 3 (0, 0))], [(b11, .cells #[.bool p112.1] 4 (0, 0))], [(b83, .cells #[.int .i64 p112.2.1] 3 (0, 0))], [(b115, .cells #[.int .i64 s124] 3 (0, 0))], [(b116, .cells #[.int .i64 s132] 3 (0, 0))]]) ?_ (fun hk132 => ?_)
      ·rintro ρ132 τ132 gs132 ⟨s132, h, hl132, hρ, rfl⟩
       refine st_es hρ ?_
       refine st_seq ?_
       refine st_cut (fun ρ τ133 gs => ∃ (s133 : Bool), law23_EventLists_j11 s133 r ∧ τ132.Le τ133 ∧ ESub ρ [(4, .bool s133)] ∧ gs = []) ?_ (fun hk133 => ?_)
       ·rintro ρ133 τ133 gs133 ⟨s133, h, hl133, hρ, rfl⟩
        refine st_es hρ ?_
        obtain rfl := Eq.symm h
        exact st_ret (gs' := []) Tryd.func6 rfl (List.Sublist.refl _) ((((((((((((hl5.trans hl13).trans hl20).trans hl75).trans hl79).trans hl82).trans hl88).trans hl114).trans hl120).trans hl124).trans hl128).trans hl132).trans hl133) ⟨rfl, rfl⟩
       refine st_region ?_
       obtain ⟨r134, hr135, h⟩ := h
       refine st_call (foot := []) rfl rfl rfl rfl rfl rfl (callV_fn z_en21 (law23_known_ok hr135 τ132 (hT.up (((((((((((hl5.trans hl13).trans hl20).trans hl75).trans hl79).trans hl82).trans hl88).trans hl114).trans hl120).trans hl124).trans hl128).trans hl132)))) ?_
       rintro vτ136 τ136 gsτ136 hl137 ⟨rfl, rfl⟩
       refine o_mif rfl rfl rfl rfl h (fun h => ?_) (fun h => ?_)
       ·refine ZZ 2 [2] rfl rfl ?_
        refine o_mif rfl rfl rfl rfl h (fun h => ?_) (fun h => ?_)
        ·refine ZZ 4 [1] rfl rfl ?_
         refine o_mif rfl rfl rfl rfl h (fun h => ?_) (fun h => ?_)
         ·refine o_move rfl rfl rfl rfl ?_
          refine o_lenI rfl rfl rfl z_slT61 rfl (hs81.up (((((((hl82.trans hl88).trans hl114).trans hl120).trans hl124).trans hl128).trans hl132).trans hl137)) ?_
          refine ZZ 3 [1] rfl rfl ?_
          refine o_mif rfl rfl rfl rfl h (fun h => ?_) (fun h => ?_)
          ·refine ZZ 4 [3] rfl rfl ?_
           refine o_mif rfl rfl rfl rfl h (fun h => ?_) (fun h => ?_)
           ·refine ZZ 3 [4] rfl rfl ?_
            refine o_mif rfl rfl rfl rfl h (fun h => ?_) (fun h => ?_)
            ·refine ZZ 9 [5, 1] rfl rfl ?_
             refine o_mif rfl rfl rfl rfl h (fun h => ?_) (fun h => ?_)
             ·refine Z 7 rfl ?_
              refine st_ord [] _ rfl ?_
              exact hk133 _ _ _ ⟨true, h, hl137, rfl, rfl⟩
             ·refine ZZ 7 [5, 0] rfl rfl ?_
              refine st_ord [] _ rfl ?_
              exact hk133 _ _ _ ⟨(decide (s132 = a1)), h, hl137, rfl, rfl⟩
            ·refine ZZ 5 [4, 0] rfl rfl ?_
             refine o_mif rfl rfl rfl rfl h (fun h => ?_) (fun h => ?_)
             ·refine ZZ 3 [5, 1] rfl rfl ?_
              refine o_mif rfl rfl rfl rfl h (fun h => ?_) (fun h => ?_)
              ·refine Z 7 rfl ?_
               refine st_ord [] _ rfl ?_
               exact hk133 _ _ _ ⟨true, h, hl137, rfl, rfl⟩
              ·refine ZZ 7 [5, 0] rfl rfl ?_
               refine st_ord [] _ rfl ?_
               exact hk133 _ _ _ ⟨(decide (s132 = a1)), h, hl137, rfl, rfl⟩
             ·refine Z 11 rfl ?_
              refine st_ord [] _ rfl ?_
              exact hk133 _ _ _ ⟨false, h, hl137, rfl, rfl⟩
           ·refine Z 21 rfl ?_
            refine st_ord [] _ rfl ?_
            exact hk133 _ _ _ ⟨false, h, hl137, rfl, rfl⟩
          ·refine Z 26 rfl ?_
           refine st_ord [] _ rfl ?_
           exact hk133 _ _ _ ⟨false, h, hl137, rfl, rfl⟩
         ·refine Z 32 rfl ?_
          refine st_ord [] _ rfl ?_
          exact hk133 _ _ _ ⟨false, h, hl137, rfl, rfl⟩
        ·refine Z 37 rfl ?_
         refine st_ord [] _ rfl ?_
         exact hk133 _ _ _ ⟨false, h, hl137, rfl, rfl⟩
       ·refine Z 40 rfl ?_
        refine st_ord [] _ rfl ?_
        exact hk133 _ _ _ ⟨false, h, hl137, rfl, rfl⟩
      refine Z 5 rfl ?_
      obtain ⟨t138, w138, hR138, hA138⟩ := h
      refine st_env (ρ' := [(3, .pointer (some ⟨b3, 0, none⟩)), (4, .bool false), (8, .pointer (some ⟨b10, 0, none⟩)), (9, .pointer (some ⟨b11, 0, none⟩)), (13, v80), (14, .int .i64 s82.1), (15, .int .i64 s82.2.1), (17, .pointer (some ⟨b83, 0, none⟩)), (22, .pointer (some ⟨b115, 0, none⟩)), (23, .pointer (some ⟨b116, 0, none⟩)), (192, .func (.func f129) #[] q130)]) ⟨rfl, rfl, rfl, rfl, rfl, rfl, rfl, rfl, rfl, rfl, rfl, trivial⟩ ?_
      refine st_ord [0, 1, 1, 1, 1, 1] _ rfl ?_
      refine st_addNil ?_
      refine st_range (B := law23_EventLists_l12 a1) (s0 := 0) ranges_fctx rfl hit131 (Sto.Le.refl _) hR138 rfl (fun _ _ _ h => by obtain ⟨_, _, rfl, _⟩ := h; rfl) (fun (s138 : Int) τ138 gs => τ127.Le τ138 ∧ gs = [[(b3, .cells #[.int .i64 a1] 3 (0, 0))], [(b10, .cells #[.int .i64 p73.2.1] 3 (0, 0))], [(b11, .cells #[.bool p112.1] 4 (0, 0))], [(b83, .cells #[.int .i64 p112.2.1] 3 (0, 0))], [(b115, .cells #[.int .i64 s124] 3 (0, 0))], [(b116, .cells #[.int .i64 s138] 3 (0, 0))]]) (fun (p143 : Int) cd τ144 gs => cd = .exit 12 ∧ τ127.Le τ144 ∧ gs = [[(b3, .cells #[.int .i64 a1] 3 (0, 0))], [(b10, .cells #[.int .i64 p73.2.1] 3 (0, 0))], [(b11, .cells #[.bool p112.1] 4 (0, 0))], [(b83, .cells #[.int .i64 p112.2.1] 3 (0, 0))], [(b115, .cells #[.int .i64 s124] 3 (0, 0))], [(b116, .cells #[.int .i64 p143] 3 (0, 0))]]) (fun _ _ _ _ hl ⟨hb, hg⟩ => ⟨hb.trans hl, hg⟩) (fun _ _ _ _ _ hl ⟨hc, hb, hg⟩ => ⟨hc, hb.trans hl, hg⟩) ⟨Sto.Le.refl _, rfl⟩ ?_ ?_ ?_
      ·rintro x138 s138 o138 τ138 gs138 vx138 hl138 h ⟨v139, v140, rfl, hs141, hs142⟩ ⟨hb138, rfl⟩ l138 rc138 caller138 cs138 fs138
       refine st_skip ?_
       refine st_begin ?_
       refine ZZ 8 [5, 0] rfl rfl ?_
       refine st_if rfl h (fun h => ?_) (fun h => ?_)
       ·exact st_rexit rfl (List.Sublist.refl _) (Sto.Le.refl _) ⟨_, h, rfl, hl138, rfl⟩
       ·refine ZZ 7 [5, 5] rfl rfl ?_
        exact st_rend (List.Sublist.refl _) (Sto.Le.refl _) ⟨_, h, hl138, rfl⟩
      ·rintro p146 τ147 gs138 f138 ht hl148 ⟨hb, rfl⟩ rfl
       subst ht
       replace h := hA138
       refine st_ord [1, 1, 1, 1, 1, 1] _ rfl ?_
       refine st_inBlock ?_
       exact hk132 _ _ _ ⟨p146, h, hl148, rfl, rfl⟩
      ·rintro p143 cd138 τ144 gs138 f138 ht hl145 ⟨rfl, hb, rfl⟩ rfl
       subst ht
       replace h := hA138
       refine st_ord [1, 1, 1, 1, 1, 1] _ rfl ?_
       refine st_exit rfl ?_
       exact hk132 _ _ _ ⟨p143, h, hl145, rfl, rfl⟩
     refine Z 5 rfl ?_
     obtain ⟨t149, w149, hR149, hA149⟩ := h
     refine st_env (ρ' := [(3, .pointer (some ⟨b3, 0, none⟩)), (4, .bool false), (5, .pointer (some ⟨b4, 0, none⟩)), (8, .pointer (some ⟨b10, 0, none⟩)), (9, .pointer (some ⟨b11, 0, none⟩)), (13, v80), (14, .int .i64 s82.1), (15, .int .i64 s82.2.1), (17, .pointer (some ⟨b83, 0, none⟩)), (22, .pointer (some ⟨b115, 0, none⟩)), (23, .pointer (some ⟨b116, 0, none⟩)), (180, .func (.func f121) #[] q122)]) ⟨rfl, rfl, rfl, rfl, rfl, rfl, rfl, rfl, rfl, rfl, rfl, rfl, trivial⟩ ?_
     refine st_ord [2, 2, 2, 2, 2, 1, 0] _ rfl ?_
     refine st_addNil ?_
     refine st_range (B := law23_EventLists_l13 a1) (s0 := 0) ranges_fctx rfl hit123 (Sto.Le.refl _) hR149 rfl (fun _ _ _ h => by cases h; rfl) (fun (s149 : Int) τ149 gs => τ119.Le τ149 ∧ gs = [[(b3, .cells #[.int .i64 a1] 3 (0, 0))], [(b4, .cells #[v6] 57 (0, 0))], [(b10, .cells #[.int .i64 p73.2.1] 3 (0, 0))], [(b11, .cells #[.bool p112.1] 4 (0, 0))], [(b83, .cells #[.int .i64 p112.2.1] 3 (0, 0))], [(b115, .cells #[.int .i64 s149] 3 (0, 0))], [(b116, .cells #[.int .i64 0] 3 (0, 0))]]) (fun (p150 : Int) cd τ151 gs => cd = .exit 10 ∧ τ119.Le τ151 ∧ gs = [[(b3, .cells #[.int .i64 a1] 3 (0, 0))], [(b4, .cells #[v6] 57 (0, 0))], [(b10, .cells #[.int .i64 p73.2.1] 3 (0, 0))], [(b11, .cells #[.bool p112.1] 4 (0, 0))], [(b83, .cells #[.int .i64 p112.2.1] 3 (0, 0))], [(b115, .cells #[.int .i64 p150] 3 (0, 0))], [(b116, .cells #[.int .i64 0] 3 (0, 0))]]) (fun _ _ _ _ hl ⟨hb, hg⟩ => ⟨hb.trans hl, hg⟩) (fun _ _ _ _ _ hl ⟨hc, hb, hg⟩ => ⟨hc, hb.trans hl, hg⟩) ⟨Sto.Le.refl _, rfl⟩ ?_ ?_ ?_
     ·rintro x149 s149 o149 τ149 gs149 vx149 hl149 h rfl ⟨hb149, rfl⟩ l149 rc149 caller149 cs149 fs149
      refine st_skip ?_
      refine st_begin ?_
      refine ZZ 8 [5, 0] rfl rfl ?_
      refine st_if rfl h (fun h => ?_) (fun h => ?_)
      ·exact st_rexit rfl (List.Sublist.refl _) (Sto.Le.refl _) ⟨_, h, rfl, hl149, rfl⟩
      ·refine ZZ 7 [5, 5] rfl rfl ?_
       exact st_rend (List.Sublist.refl _) (Sto.Le.refl _) ⟨_, h, hl149, rfl⟩
     ·rintro p153 τ154 gs149 f149 ht hl155 ⟨hb, rfl⟩ rfl
      subst ht
      replace h := hA149
      refine st_ord [1, 1, 1, 1, 1, 1, 1] _ rfl ?_
      refine st_inBlock ?_
      exact hk124 _ _ _ ⟨p153, h, hl155, rfl, rfl⟩
     ·rintro p150 cd149 τ151 gs149 f149 ht hl152 ⟨rfl, hb, rfl⟩ rfl
      subst ht
      replace h := hA149
      refine st_ord [1, 1, 1, 1, 1, 1, 1] _ rfl ?_
      refine st_exit rfl ?_
      exact hk124 _ _ _ ⟨p150, h, hl152, rfl, rfl⟩
    ·exact fun _ _ _ _ _ _ _ h => h.elim
   refine Z 4 rfl ?_
   obtain ⟨e156, hL156, hA156⟩ := h
   refine st_ord [0, 0, 1, 1] _ rfl ?_
   refine st_loop hL156 (fun (s156 : Int × Int × Int × Bool) ρ τ156 gs => τ78.Le τ156 ∧ ESub ρ [(3, .pointer (some ⟨b3, 0, none⟩)), (4, .bool false), (5, .pointer (some ⟨b4, 0, none⟩)), (8, .pointer (some ⟨b10, 0, none⟩)), (9, .pointer (some ⟨b11, 0, none⟩)), (13, v80), (14, .int .i64 s156.1), (15, .int .i64 s156.2.1), (16, .int .i64 s156.2.2.1)] ∧ gs = [[(b3, .cells #[.int .i64 a1] 3 (0, 0))], [(b4, .cells #[v6] 57 (0, 0))], [(b10, .cells #[.int .i64 p73.2.1] 3 (0, 0))], [(b11, .cells #[.bool s156.2.2.2] 4 (0, 0))]]) ⟨Sto.Le.refl _, rfl, rfl⟩ ?_
   rintro s156 o156 h he156 ρ156 τ156 gs156 ⟨hl156, hρ, rfl⟩ hn156
   refine st_es hρ ?_
   refine ZZ 5 [1] rfl rfl ?_
   refine o_lenI rfl rfl rfl z_slT57 rfl (hs15.up (((hl20.trans hl75).trans hl79).trans hl156)) ?_
   refine Z 2 rfl ?_
   refine st_if rfl h (fun h => ?_) (fun h => ?_)
   ·refine Z 2 rfl ?_
    refine st_cut (fun ρ τ157 gs => ∃ (s157 : Int × Int × Bool), law23_EventLists_j15 s156 s157 o156 ∧ τ156.Le τ157 ∧ ESub ρ [(3, .pointer (some ⟨b3, 0, none⟩)), (4, .bool false), (5, .pointer (some ⟨b4, 0, none⟩)), (8, .pointer (some ⟨b10, 0, none⟩)), (9, .pointer (some ⟨b11, 0, none⟩)), (13, v80), (14, .int .i64 s157.1), (15, .int .i64 s157.2.1), (16, .int .i64 s156.2.2.1)] ∧ gs = [[(b3, .cells #[.int .i64 a1] 3 (0, 0))], [(b4, .cells #[v6] 57 (0, 0))], [(b10, .cells #[.int .i64 p73.2.1] 3 (0, 0))], [(b11, .cells #[.bool s157.2.2] 4 (0, 0))]]) ?_ (fun hk157 => ?_)
    ·rintro ρ157 τ157 gs157 ⟨s157, h, hl157, hρ, rfl⟩
     refine st_es hρ ?_
     refine Z 5 rfl ?_
     exact hn156 _ _ _ _ h ⟨(hl156.trans hl157), rfl, rfl⟩
    refine Z 2 rfl ?_
    refine st_cut (fun ρ τ158 gs => ∃ (s158 : Int × Bool), law23_EventLists_j16 s5 s156 s158 o156 ∧ τ156.Le τ158 ∧ ESub ρ [(3, .pointer (some ⟨b3, 0, none⟩)), (4, .bool false), (5, .pointer (some ⟨b4, 0, none⟩)), (8, .pointer (some ⟨b10, 0, none⟩)), (9, .pointer (some ⟨b11, 0, none⟩)), (13, v80), (14, .int .i64 s158.1), (15, .int .i64 s156.2.1), (16, .int .i64 s156.2.2.1)] ∧ gs = [[(b3, .cells #[.int .i64 a1] 3 (0, 0))], [(b4, .cells #[v6] 57 (0, 0))], [(b10, .cells #[.int .i64 p73.2.1] 3 (0, 0))], [(b11, .cells #[.bool s158.2] 4 (0, 0))]]) ?_ (fun hk158 => ?_)
    ·rintro ρ158 τ158 gs158 ⟨s158, h, hl158, hρ, rfl⟩
     refine st_es hρ ?_
     refine ZZ 4 [1] rfl rfl ?_
     obtain ⟨q159, hf160, h⟩ := h
     refine o_index rfl rfl rfl z_slT57 rfl rfl (hs15.up ((((hl20.trans hl75).trans hl79).trans hl156).trans hl158)) rfl hf160 (fun b161 of162 vs hc165 hrep => ?_)
     obtain ⟨_, _, rfl, rfl, ⟨_, _, rfl, rfl, ⟨_, _, rfl, rfl, ⟨_, _, rfl, rfl, ⟨_, _, rfl, rfl, ⟨_, _, rfl, rfl, ⟨_, _, rfl, ⟨v163, rfl, hs166⟩, ⟨_, _, rfl, ⟨v164, rfl, hs167⟩, ⟨_, _, rfl, rfl, rfl⟩⟩⟩⟩⟩⟩⟩⟩⟩ := hrep
     refine o_fieldAddr rfl rfl rfl z_field35_0 rfl ?_
     refine o_loadI (v := .int .i64 q159.1) rfl rfl rfl z_sc3 rfl (hc165 0 _ rfl) ?_
     refine Z 2 rfl ?_
     refine st_if rfl h (fun h => ?_) (fun h => ?_)
     ·refine Z 6 rfl ?_
      exact hk157 _ _ _ ⟨(s158.1, (IntKind.i64.wrap (s156.2.1 + 1)), s158.2), h, hl158, rfl, rfl⟩
     ·refine Z 2 rfl ?_
      exact hk157 _ _ _ ⟨(s158.1, s156.2.1, s158.2), h, hl158, rfl, rfl⟩
    refine ZZ 4 [1] rfl rfl ?_
    obtain ⟨q168, hf169, h⟩ := h
    refine o_index rfl rfl rfl z_slT57 rfl rfl (hs15.up (((hl20.trans hl75).trans hl79).trans hl156)) rfl hf169 (fun b170 of171 vs hc174 hrep => ?_)
    obtain ⟨_, _, rfl, rfl, ⟨_, _, rfl, rfl, ⟨_, _, rfl, rfl, ⟨_, _, rfl, rfl, ⟨_, _, rfl, rfl, ⟨_, _, rfl, rfl, ⟨_, _, rfl, ⟨v172, rfl, hs175⟩, ⟨_, _, rfl, ⟨v173, rfl, hs176⟩, ⟨_, _, rfl, rfl, rfl⟩⟩⟩⟩⟩⟩⟩⟩⟩ := hrep
    refine o_fieldAddr rfl rfl rfl z_field35_0 rfl ?_
    refine o_loadI (v := .int .i64 q168.1) rfl rfl rfl z_sc3 rfl (hc174 0 _ rfl) ?_
    refine Z 2 rfl ?_
    refine st_if rfl h (fun h => ?_) (fun h => ?_)
    ·refine st_seq ?_
     obtain ⟨q179, hf180, q184, hf185, h⟩ := h
     let cc177 : Prop := s156.2.2.2 = true
     let cc178 : Prop := (s156.2.2.2 && (decide (s156.1 < (r76.length : Int)))) = true
     refine st_draw 19 (dl [.v (.bool s156.2.2.2), .v (.bool s156.2.2.2), .g cc177 (.int .i64 s156.1), .g cc177 (v80), .g cc177 (.int .i64 (r76.length : Int)), .g cc177 (.bool (decide (s156.1 < (r76.length : Int)))), .v (.bool (s156.2.2.2 && (decide (s156.1 < (r76.length : Int))))), .v (.bool (s156.2.2.2 && (decide (s156.1 < (r76.length : Int))))), .g cc178 (v80), .g cc178 (.int .i64 s156.1), .h cc178 fun τ v => ∃ (b181 : Nat) (of182 : Nat) (vsb181 : List Value), (.pointer (some ⟨b181, of182, none⟩) : Value) = v ∧ CelN τ ⟨b181, of182, none⟩ vsb181 ∧ (kI .u32).rep τ vsb181 q179, .g cc178 (.int .u32 q179), .g cc178 (v6), .g cc178 (.int .i64 s156.2.2.1), .h cc178 fun τ v => ∃ (b186 : Nat) (of187 : Nat) (vsb186 : List Value), (.pointer (some ⟨b186, of187, none⟩) : Value) = v ∧ CelN τ ⟨b186, of187, none⟩ vsb186 ∧ (kP (kI .i64) (kP (kI .u32) (kP (kI .i64) (kP (kI .i64) (kP (kI .i64) (kP (kA .i64 6) (kP (kSl (kP (kI .i64) (kI .i64))) (kP (kSl (kI .i64)) (kP kS kS))))))))).rep τ vsb186 q184, .h cc178 fun τ v => ∃ (b186 : Nat) (of187 : Nat) (vsb186 : List Value), (.pointer (some ⟨b186, of187 + 1, none⟩) : Value) = v ∧ CelN τ ⟨b186, of187, none⟩ vsb186 ∧ (kP (kI .i64) (kP (kI .u32) (kP (kI .i64) (kP (kI .i64) (kP (kI .i64) (kP (kA .i64 6) (kP (kSl (kP (kI .i64) (kI .i64))) (kP (kSl (kI .i64)) (kP kS kS))))))))).rep τ vsb186 q184, .g cc178 (.int .u32 q184.2.1), .g cc178 (.bool (decide (q179 = q184.2.1))), .v (.bool ((s156.2.2.2 && (decide (s156.1 < (r76.length : Int)))) && (decide (q179 = q184.2.1))))]) (fun _ _ => []) z_mix rfl (dl_mono ⟨fun _ _ _ hl ⟨b181, of182, vsb181, hv, hc183, hrepb181⟩ => ⟨b181, of182, vsb181, hv, hc183.up hl, Kd.mono _ hl hrepb181⟩, ⟨fun _ _ _ hl ⟨b186, of187, vsb186, hv, hc190, hrepb186⟩ => ⟨b186, of187, vsb186, hv, hc190.up hl, Kd.mono _ hl hrepb186⟩, ⟨fun _ _ _ hl ⟨b186, of187, vsb186, hv, hc190, hrepb186⟩ => ⟨b186, of187, vsb186, hv, hc190.up hl, Kd.mono _ hl hrepb186⟩, trivial⟩⟩⟩) (allB_cons (allB_cons (allB_cons (allB_cons (allB_cons (allB_cons (allB_cons (allB_cons (allB_cons (allB_cons (allB_cons (allB_cons (allB_cons (allB_cons (allB_cons (allB_cons (allB_cons (allB_cons (allB_cons allB_nil ?_) (p1 dA)) (p1 (dG []))) (p1 (dG []))) ?_) (p1 (dG [2, 4]))) (p1 dK)) (p1 dA)) (p1 (dG []))) (p1 (dG []))) ?_) ?_) ?_) (p1 (dG []))) ?_) ?_) ?_) (p1 (dG [11, 16]))) (p1 dK)) ?_
     ·intro ρ' τ pool rs hl hd hout hk
      refine o_load (j := 3) (v := .bool s156.2.2.2) rfl rfl rfl z_sc4 ((hout 9 rfl).trans rfl) rfl rfl ?_
      exact st_addNil (hk _ _ (Sto.Le.refl _) rfl)
     ·intro ρ' τ pool rs hl hd hout hk
      obtain ⟨_, e1, rfl⟩ := hd 1 rfl
      obtain ⟨w3, e3, t3⟩ := hd 3 rfl
      by_cases hG : s156.2.2.2 = true
      ·have hC := hG
       obtain ⟨rfl⟩ := t3.1 hC
       refine o_lenI rfl (wants_of rfl e1 hG) rfl z_slT61 e3 (hs81.up (hl156.trans hl)) ?_
       exact st_addNil (hk _ _ (Sto.Le.refl _) ⟨fun _ => rfl, fun hn => absurd hC hn⟩)
      ·refine st_pass rfl rfl rfl e1 (beq_off hG) rfl ?_
       exact st_addNil (hk _ _ (Sto.Le.refl _) ⟨fun h => absurd h hG, fun _ => rfl⟩)
     ·intro ρ' τ pool rs hl hd hout hk
      obtain ⟨_, e7, rfl⟩ := hd 7 rfl
      obtain ⟨w8, e8, t8⟩ := hd 8 rfl
      obtain ⟨w9, e9, t9⟩ := hd 9 rfl
      by_cases hG : (s156.2.2.2 && (decide (s156.1 < (r76.length : Int)))) = true
      ·have hC := hG
       replace hf180 := hf180 hC
       obtain ⟨rfl⟩ := t8.1 hC
       obtain ⟨rfl⟩ := t9.1 hC
       refine o_index rfl (wants_of rfl e7 hG) rfl z_slT61 rfl e8 (hs81.up (hl156.trans hl)) e9 hf180 (fun b181 of182 vsb181 hc183 hrepb181 => ?_)
       exact st_addNil (hk _ _ (Sto.Le.refl _) ⟨fun _ => ⟨b181, of182, _, rfl, hc183, hrepb181⟩, fun hn => absurd hC hn⟩)
      ·refine st_pass rfl rfl rfl e7 (beq_off hG) rfl ?_
       exact st_addNil (hk _ _ (Sto.Le.refl _) ⟨fun h => absurd h hG, fun _ => rfl⟩)
     ·intro ρ' τ pool rs hl hd hout hk
      obtain ⟨_, e7, rfl⟩ := hd 7 rfl
      obtain ⟨w10, e10, t10⟩ := hd 10 rfl
      by_cases hG : (s156.2.2.2 && (decide (s156.1 < (r76.length : Int)))) = true
      ·have hC := hG
       obtain ⟨b181, of182, vsb181, rfl, hc183, hrepb181⟩ := t10.1 hC
       have hrepb181 := hrepb181
       obtain rfl := hrepb181
       refine o_loadI (v := .int .u32 q179) rfl (wants_of rfl e7 hG) rfl z_sc33 e10 (hc183 0 _ rfl) ?_
       exact st_addNil (hk _ _ (Sto.Le.refl _) ⟨fun _ => rfl, fun hn => absurd hC hn⟩)
      ·refine st_pass rfl rfl rfl e7 (beq_off hG) rfl ?_
       exact st_addNil (hk _ _ (Sto.Le.refl _) ⟨fun h => absurd h hG, fun _ => rfl⟩)
     ·intro ρ' τ pool rs hl hd hout hk
      obtain ⟨_, e7, rfl⟩ := hd 7 rfl
      by_cases hG : (s156.2.2.2 && (decide (s156.1 < (r76.length : Int)))) = true
      ·have hC := hG
       refine o_load (j := 1) (v := v6) rfl (wants_of rfl e7 hG) rfl z_sc57 ((hout 5 rfl).trans rfl) rfl rfl ?_
       exact st_addNil (hk _ _ (Sto.Le.refl _) ⟨fun _ => rfl, fun hn => absurd hC hn⟩)
      ·refine st_pass rfl rfl rfl e7 (beq_off hG) rfl ?_
       exact st_addNil (hk _ _ (Sto.Le.refl _) ⟨fun h => absurd h hG, fun _ => rfl⟩)
     ·intro ρ' τ pool rs hl hd hout hk
      obtain ⟨_, e7, rfl⟩ := hd 7 rfl
      obtain ⟨w12, e12, t12⟩ := hd 12 rfl
      obtain ⟨w13, e13, t13⟩ := hd 13 rfl
      by_cases hG : (s156.2.2.2 && (decide (s156.1 < (r76.length : Int)))) = true
      ·have hC := hG
       replace hf185 := hf185 hC
       obtain ⟨rfl⟩ := t12.1 hC
       obtain ⟨rfl⟩ := t13.1 hC
       refine o_index rfl (wants_of rfl e7 hG) rfl z_slT57 rfl e12 (hs15.up ((((hl20.trans hl75).trans hl79).trans hl156).trans hl)) e13 hf185 (fun b186 of187 vsb186 hc190 hrepb186 => ?_)
       exact st_addNil (hk _ _ (Sto.Le.refl _) ⟨fun _ => ⟨b186, of187, _, rfl, hc190, hrepb186⟩, fun hn => absurd hC hn⟩)
      ·refine st_pass rfl rfl rfl e7 (beq_off hG) rfl ?_
       exact st_addNil (hk _ _ (Sto.Le.refl _) ⟨fun h => absurd h hG, fun _ => rfl⟩)
     ·intro ρ' τ pool rs hl hd hout hk
      obtain ⟨_, e7, rfl⟩ := hd 7 rfl
      obtain ⟨w14, e14, t14⟩ := hd 14 rfl
      by_cases hG : (s156.2.2.2 && (decide (s156.1 < (r76.length : Int)))) = true
      ·have hC := hG
       obtain ⟨b186, of187, vsb186, rfl, hc190, hrepb186⟩ := t14.1 hC
       have hrepb186 := hrepb186
       obtain ⟨_, _, rfl, rfl, ⟨_, _, rfl, rfl, ⟨_, _, rfl, rfl, ⟨_, _, rfl, rfl, ⟨_, _, rfl, rfl, ⟨_, _, rfl, rfl, ⟨_, _, rfl, ⟨v188, rfl, hs193⟩, ⟨_, _, rfl, ⟨v189, rfl, hs194⟩, ⟨_, _, rfl, rfl, rfl⟩⟩⟩⟩⟩⟩⟩⟩⟩ := hrepb186
       refine o_fieldAddr rfl (wants_of rfl e7 hG) rfl z_field35_1 e14 ?_
       exact st_addNil (hk _ _ (Sto.Le.refl _) ⟨fun _ => ⟨b186, of187, _, rfl, hc190, hrepb186⟩, fun hn => absurd hC hn⟩)
      ·refine st_pass rfl rfl rfl e7 (beq_off hG) rfl ?_
       exact st_addNil (hk _ _ (Sto.Le.refl _) ⟨fun h => absurd h hG, fun _ => rfl⟩)
     ·intro ρ' τ pool rs hl hd hout hk
      obtain ⟨_, e7, rfl⟩ := hd 7 rfl
      obtain ⟨w15, e15, t15⟩ := hd 15 rfl
      by_cases hG : (s156.2.2.2 && (decide (s156.1 < (r76.length : Int)))) = true
      ·have hC := hG
       obtain ⟨b186, of187, vsb186, rfl, hc190, hrepb186⟩ := t15.1 hC
       have hrepb186 := hrepb186
       obtain ⟨_, _, rfl, rfl, ⟨_, _, rfl, rfl, ⟨_, _, rfl, rfl, ⟨_, _, rfl, rfl, ⟨_, _, rfl, rfl, ⟨_, _, rfl, rfl, ⟨_, _, rfl, ⟨v188, rfl, hs193⟩, ⟨_, _, rfl, ⟨v189, rfl, hs194⟩, ⟨_, _, rfl, rfl, rfl⟩⟩⟩⟩⟩⟩⟩⟩⟩ := hrepb186
       refine o_loadI (v := .int .u32 q184.2.1) rfl (wants_of rfl e7 hG) rfl z_sc33 e15 (hc190 1 _ rfl) ?_
       exact st_addNil (hk _ _ (Sto.Le.refl _) ⟨fun _ => rfl, fun hn => absurd hC hn⟩)
      ·refine st_pass rfl rfl rfl e7 (beq_off hG) rfl ?_
       exact st_addNil (hk _ _ (Sto.Le.refl _) ⟨fun h => absurd h hG, fun _ => rfl⟩)
     intro ρ' τ195 vals hl195 hv hout
     refine st_ord [0, 0, 0, 0] _ rfl ?_
     refine st_env (ρ' := [(126, .bool ((s156.2.2.2 && (decide (s156.1 < (r76.length : Int)))) && (decide (q179 = q184.2.1)))), (3, .pointer (some ⟨b3, 0, none⟩)), (4, .bool false), (5, .pointer (some ⟨b4, 0, none⟩)), (8, .pointer (some ⟨b10, 0, none⟩)), (9, .pointer (some ⟨b11, 0, none⟩)), (13, v80), (14, .int .i64 s156.1), (15, .int .i64 s156.2.1), (16, .int .i64 s156.2.2.1)]) ⟨(lv1 hv 18 rfl rfl), (hout 3 rfl).trans rfl, (hout 4 rfl).trans rfl, (hout 5 rfl).trans rfl, (hout 8 rfl).trans rfl, (hout 9 rfl).trans rfl, (hout 13 rfl).trans rfl, (hout 14 rfl).trans rfl, (hout 15 rfl).trans rfl, (hout 16 rfl).trans rfl, trivial⟩ ?_
     refine ZZ 7 [3] rfl rfl ?_
     exact hk158 _ _ _ ⟨((IntKind.i64.wrap (s156.1 + 1)), ((s156.2.2.2 && (decide (s156.1 < (r76.length : Int)))) && (decide (q179 = q184.2.1)))), h, hl195, rfl, rfl⟩
    ·refine st_skip ?_
     exact hk158 _ _ _ ⟨(s156.1, s156.2.2.2), h, (Sto.Le.refl _), rfl, rfl⟩
   ·refine st_exit rfl ?_
    obtain rfl := he156 _ h
    replace h := hA156
    exact hk82 _ _ _ ⟨(s156.1, s156.2.1, s156.2.2.2), h, hl156, rfl, rfl⟩
  ·exact fun _ _ _ _ _ _ _ h => h.elim
 refine Z 4 rfl ?_
 obtain ⟨e197, hL197, hA197⟩ := h
 refine st_addNil ?_
 refine st_ord [2, 1, 0] _ rfl ?_
 refine st_loop hL197 (fun (s197 : Int × (List (Int × Int × Int × Int × (Int × List Int × List (Int × Int) × List Int × ByteArray × ByteArray)))) ρ τ197 gs => σ.Le τ197 ∧ ∃ (v198 : Value) (g199 : Grp), ESub ρ [(0, v1), (3, .pointer (some ⟨b3, 0, none⟩)), (4, .bool false), (5, .pointer (some ⟨b4, 0, none⟩)), (6, .int .i64 s197.1)] ∧ gs = [[(b3, .cells #[.int .i64 a1] 3 (0, 0))], [(b4, .cells #[v198] 57 (0, 0))], g199] ∧ Ow (kP (kI .i64) (kP (kI .u32) (kP (kI .i64) (kP (kI .i64) (kP (kI .i64) (kP (kA .i64 6) (kP (kSl (kP (kI .i64) (kI .i64))) (kP (kSl (kI .i64)) (kP kS kS))))))))) 35 τ197 v198 s197.2 g199) ⟨Sto.Le.refl _, _, _, rfl, rfl, Ow.nil⟩ ?_
 rintro s197 o197 h he197 ρ197 τ197 gs197 ⟨hl197, v198, g199, hρ, rfl, ho200⟩ hn197
 refine st_es hρ ?_
 refine Z 2 rfl ?_
 refine st_cut (fun ρ τ201 gs => ∃ (s201 : Bool), law23_EventLists_j18 a0 s197 s201 o197 ∧ τ197.Le τ201 ∧ ESub ρ [(0, v1), (3, .pointer (some ⟨b3, 0, none⟩)), (4, .bool false), (5, .pointer (some ⟨b4, 0, none⟩)), (6, .int .i64 s197.1), (33, .bool s201)] ∧ gs = [[(b3, .cells #[.int .i64 a1] 3 (0, 0))], [(b4, .cells #[v198] 57 (0, 0))], g199]) ?_ (fun hk201 => ?_)
 ·rintro ρ201 τ201 gs201 ⟨s201, h, hl201, hρ, rfl⟩
  refine st_es hρ ?_
  refine st_if rfl h (fun h => ?_) (fun h => ?_)
  ·refine Z 3 rfl ?_
   obtain ⟨q202, hf203, r213, hr214, hf231, hf232, h⟩ := h
   refine st_d41 [[(b3, .cells #[.int .i64 a1] 3 (0, 0))]] [[(b4, .cells #[v198] 57 (0, 0))], g199] 8 2 [some (0, 0), none, none, none, none, none, none, some (0, 1)] [none, none, none, none, none, none, none, none] [[none, some 36, some 43]] [.v (v198), .v (v1), .v (.int .i64 s197.1), .t fun τ v => ∃ (b204 : Nat) (of205 : Nat) (vsb204 : List Value), (.pointer (some ⟨b204, of205, none⟩) : Value) = v ∧ CelN τ ⟨b204, of205, none⟩ vsb204 ∧ (kP (kI .i64) (kP (kI .u32) (kP (kI .i64) (kP (kI .i64) (kP (kI .i64) (kP (kA .i64 6) (kP (kSl (kP (kI .i64) (kI .i64))) (kP (kSl (kI .i64)) (kP kS kS))))))))).rep τ vsb204 q202, .t fun τ v => ∃ (v206 : Value) (v207 : Value), (.agg #[.int .i64 q202.1, .int .u32 q202.2.1, .int .i64 q202.2.2.1, .int .i64 q202.2.2.2.1, .int .i64 q202.2.2.2.2.1, .int .i64 (q202.2.2.2.2.2.1.getD 0 0), .int .i64 (q202.2.2.2.2.2.1.getD 1 0), .int .i64 (q202.2.2.2.2.2.1.getD 2 0), .int .i64 (q202.2.2.2.2.2.1.getD 3 0), .int .i64 (q202.2.2.2.2.2.1.getD 4 0), .int .i64 (q202.2.2.2.2.2.1.getD 5 0), v206, v207, .string q202.2.2.2.2.2.2.2.2.1, .string q202.2.2.2.2.2.2.2.2.2] : Value) = v ∧ Sl (kP (kI .i64) (kI .i64)) τ v206 q202.2.2.2.2.2.2.1 ∧ Sl (kI .i64) τ v207 q202.2.2.2.2.2.2.2.1, .t fun τ v => ∃ (v217 : Value) (v218 : Value), (.agg #[.int .i64 r213.1, .int .u32 r213.2.1, .int .i64 r213.2.2.1, .int .i64 r213.2.2.2.1, .int .i64 r213.2.2.2.2.1, .int .i64 (r213.2.2.2.2.2.1.getD 0 0), .int .i64 (r213.2.2.2.2.2.1.getD 1 0), .int .i64 (r213.2.2.2.2.2.1.getD 2 0), .int .i64 (r213.2.2.2.2.2.1.getD 3 0), .int .i64 (r213.2.2.2.2.2.1.getD 4 0), .int .i64 (r213.2.2.2.2.2.1.getD 5 0), v217, v218, .string r213.2.2.2.2.2.2.2.2.1, .string r213.2.2.2.2.2.2.2.2.2] : Value) = v ∧ Sl (kP (kI .i64) (kI .i64)) τ v217 r213.2.2.2.2.2.2.1 ∧ Sl (kI .i64) τ v218 r213.2.2.2.2.2.2.2.1, .t fun τ v => ∃ (v221 : Value), (v221 : Value) = v ∧ Sl (kP (kI .i64) (kP (kI .u32) (kP (kI .i64) (kP (kI .i64) (kP (kI .i64) (kP (kA .i64 6) (kP (kSl (kP (kI .i64) (kI .i64))) (kP (kSl (kI .i64)) (kP kS kS))))))))) τ v221 [r213], .t fun _ _ => True] [[fun τ u F => F = [[(b4, .cells #[v198] 57 (0, 0))], g199], fun τ u F => F = [[(b4, .cells #[v198] 57 (0, 0))], g199], fun τ u F => ∃ (v233 : Value) (g234 : Grp), F = [g234, [(b4, .cells #[v198] 57 (0, 0))]] ∧ v233 = u ∧ Ow (kP (kI .i64) (kP (kI .u32) (kP (kI .i64) (kP (kI .i64) (kP (kI .i64) (kP (kA .i64 6) (kP (kSl (kP (kI .i64) (kI .i64))) (kP (kSl (kI .i64)) (kP kS kS))))))))) 35 τ v233 (s197.2 ++ [r213]) g234]] rfl z_mix rfl ⟨fun _ _ _ hl ⟨b204, of205, vsb204, hv, hc208, hrepb204⟩ => ⟨b204, of205, vsb204, hv, hc208.up hl, Kd.mono _ hl hrepb204⟩, ⟨fun _ _ _ hl ⟨v206, v207, hv, hs211, hs212⟩ => ⟨v206, v207, hv, hs211.up hl, hs212.up hl⟩, ⟨fun _ _ _ hl ⟨v217, v218, hv, hs219, hs220⟩ => ⟨v217, v218, hv, hs219.up hl, hs220.up hl⟩, ⟨fun _ _ _ hl ⟨v221, hv, hs227⟩ => ⟨v221, hv, hs227.up hl⟩, ⟨fun _ _ _ _ _ => trivial, trivial⟩⟩⟩⟩⟩ ⟨⟨fun _ _ _ _ hl h => h, ⟨fun _ _ _ _ hl h => h, ⟨fun _ _ _ _ hl h => (let ⟨v233, g234, hF, hU, ho235⟩ := h; ⟨v233, g234, hF, hU, ho235.up hl⟩), trivial⟩⟩⟩, trivial⟩ rfl rfl ?_ (allB_cons (allB_cons (allB_cons (allB_cons (allB_cons (allB_cons (allB_cons (allB_cons allB_nil ?_) (p4 dA)) (p4 dA)) ?_) ?_) ?_) ?_) ?_) ?_
   ·exact rfl
   ·intro ρ' τ u Fv pool rs hl hI hu hd hout hw hk
    have hI0 := hI
    obtain rfl := hI
    refine st_gs [[(b3, .cells #[.int .i64 a1] 3 (0, 0))], [(b4, .cells #[v198] 57 (0, 0))], g199, pool] rfl ?_
    refine o_load (j := 1) (v := v198) rfl rfl rfl z_sc57 ((hout 5 rfl).trans rfl) rfl rfl ?_
    exact hk _ _ [[(b4, .cells #[v198] 57 (0, 0))], g199] (Sto.Le.refl _) rfl (by exact hI0)
   ·intro ρ' τ pool rs hl hd hout hw hk
    obtain ⟨_, e1, rfl⟩ := hd 1 rfl _ rfl
    obtain ⟨_, e2, rfl⟩ := hd 2 rfl _ rfl
    refine o_index rfl rfl rfl z_slT57 rfl e1 (hs2.up ((hl197.trans hl201).trans hl)) e2 hf203 (fun b204 of205 vsb204 hc208 hrepb204 => ?_)
    exact hk _ _ (Sto.Le.refl _) ⟨b204, of205, _, rfl, hc208, hrepb204⟩
   ·intro ρ' τ pool rs hl hd hout hw hk
    obtain ⟨_, e3, b204, of205, vsb204, rfl, hc208, hrepb204⟩ := hd 3 rfl _ rfl
    have hrepb204 := hrepb204
    obtain ⟨_, _, rfl, rfl, ⟨_, _, rfl, rfl, ⟨_, _, rfl, rfl, ⟨_, _, rfl, rfl, ⟨_, _, rfl, rfl, ⟨_, _, rfl, rfl, ⟨_, _, rfl, ⟨v206, rfl, hs211⟩, ⟨_, _, rfl, ⟨v207, rfl, hs212⟩, ⟨_, _, rfl, rfl, rfl⟩⟩⟩⟩⟩⟩⟩⟩⟩ := hrepb204
    refine o_loadIN (vs := [.int .i64 q202.1, .int .u32 q202.2.1, .int .i64 q202.2.2.1, .int .i64 q202.2.2.2.1, .int .i64 q202.2.2.2.2.1, .int .i64 (q202.2.2.2.2.2.1.getD 0 0), .int .i64 (q202.2.2.2.2.2.1.getD 1 0), .int .i64 (q202.2.2.2.2.2.1.getD 2 0), .int .i64 (q202.2.2.2.2.2.1.getD 3 0), .int .i64 (q202.2.2.2.2.2.1.getD 4 0), .int .i64 (q202.2.2.2.2.2.1.getD 5 0), v206, v207, .string q202.2.2.2.2.2.2.2.2.1, .string q202.2.2.2.2.2.2.2.2.2]) rfl rfl rfl z_agg35 e3 rfl (celn_part 0 rfl hc208) ?_
    exact hk _ _ (Sto.Le.refl _) ⟨v206, v207, rfl, hs211, hs212⟩
   ·intro ρ' τ pool rs hl hd hout hw hk
    obtain ⟨_, e4, v206, v207, rfl, hs211, hs212⟩ := hd 4 rfl _ rfl
    refine st_call (foot := []) rfl rfl rfl rfl (evs_cons e4 rfl) rfl (callV_fn z_en24 (law23_Cut_ok hr214 τ hs211 hs212)) ?_
    rintro vτ215 τ215 gsτ215 hl216 ⟨v217, v218, rfl, rfl, hs219, hs220⟩
    exact hk _ _ hl216 ⟨v217, v218, rfl, hs219, hs220⟩
   ·intro ρ' τ pool rs hl hd hout hw hk
    obtain ⟨_, e5, v217, v218, rfl, hs219, hs220⟩ := hd 5 rfl _ rfl
    refine o_lit (dk := (kP (kI .i64) (kP (kI .u32) (kP (kI .i64) (kP (kI .i64) (kP (kI .i64) (kP (kA .i64 6) (kP (kSl (kP (kI .i64) (kI .i64))) (kP (kSl (kI .i64)) (kP kS kS)))))))))) (xs := [r213]) (ps := [(0, [.int .i64 r213.1, .int .u32 r213.2.1, .int .i64 r213.2.2.1, .int .i64 r213.2.2.2.1, .int .i64 r213.2.2.2.2.1, .int .i64 (r213.2.2.2.2.2.1.getD 0 0), .int .i64 (r213.2.2.2.2.2.1.getD 1 0), .int .i64 (r213.2.2.2.2.2.1.getD 2 0), .int .i64 (r213.2.2.2.2.2.1.getD 3 0), .int .i64 (r213.2.2.2.2.2.1.getD 4 0), .int .i64 (r213.2.2.2.2.2.1.getD 5 0), v217, v218, .string r213.2.2.2.2.2.2.2.2.1, .string r213.2.2.2.2.2.2.2.2.2])]) (cs := [.int .i64 r213.1, .int .u32 r213.2.1, .int .i64 r213.2.2.1, .int .i64 r213.2.2.2.1, .int .i64 r213.2.2.2.2.1, .int .i64 (r213.2.2.2.2.2.1.getD 0 0), .int .i64 (r213.2.2.2.2.2.1.getD 1 0), .int .i64 (r213.2.2.2.2.2.1.getD 2 0), .int .i64 (r213.2.2.2.2.2.1.getD 3 0), .int .i64 (r213.2.2.2.2.2.1.getD 4 0), .int .i64 (r213.2.2.2.2.2.1.getD 5 0), v217, v218, .string r213.2.2.2.2.2.2.2.2.1, .string r213.2.2.2.2.2.2.2.2.2]) rfl rfl rfl z_slT57 z_zero35 ⟨rfl, ⟨_, e5, rfl⟩, trivial⟩ rfl rfl rfl rfl (Kd.Many.cons (d := (kP (kI .i64) (kP (kI .u32) (kP (kI .i64) (kP (kI .i64) (kP (kI .i64) (kP (kA .i64 6) (kP (kSl (kP (kI .i64) (kI .i64))) (kP (kSl (kI .i64)) (kP kS kS)))))))))) (x := r213) (a := [.int .i64 r213.1, .int .u32 r213.2.1, .int .i64 r213.2.2.1, .int .i64 r213.2.2.2.1, .int .i64 r213.2.2.2.2.1, .int .i64 (r213.2.2.2.2.2.1.getD 0 0), .int .i64 (r213.2.2.2.2.2.1.getD 1 0), .int .i64 (r213.2.2.2.2.2.1.getD 2 0), .int .i64 (r213.2.2.2.2.2.1.getD 3 0), .int .i64 (r213.2.2.2.2.2.1.getD 4 0), .int .i64 (r213.2.2.2.2.2.1.getD 5 0), v217, v218, .string r213.2.2.2.2.2.2.2.2.1, .string r213.2.2.2.2.2.2.2.2.2]) ⟨[.int .i64 r213.1], _, rfl, rfl, ⟨[.int .u32 r213.2.1], _, rfl, rfl, ⟨[.int .i64 r213.2.2.1], _, rfl, rfl, ⟨[.int .i64 r213.2.2.2.1], _, rfl, rfl, ⟨[.int .i64 r213.2.2.2.2.1], _, rfl, rfl, ⟨[.int .i64 (r213.2.2.2.2.2.1.getD 0 0), .int .i64 (r213.2.2.2.2.2.1.getD 1 0), .int .i64 (r213.2.2.2.2.2.1.getD 2 0), .int .i64 (r213.2.2.2.2.2.1.getD 3 0), .int .i64 (r213.2.2.2.2.2.1.getD 4 0), .int .i64 (r213.2.2.2.2.2.1.getD 5 0)], _, rfl, rfl, ⟨[v217], _, rfl, ⟨_, rfl, hs219⟩, ⟨[v218], _, rfl, ⟨_, rfl, hs220⟩, ⟨[.string r213.2.2.2.2.2.2.2.2.1], _, rfl, rfl, rfl⟩⟩⟩⟩⟩⟩⟩⟩⟩ Kd.Many.nil) (fun v221 g222 ho223 => ?_)
    refine st_freeze (fun τ224 hl225 hg226 => ?_)
    have hs227 := ho223.freeze hl225 hg226
    exact hk _ _ hl225 ⟨v221, rfl, hs227⟩
   ·intro ρ' τ u Fv pool rs hl hI hu hd hout hw hk
    obtain ⟨_, e0, rfl⟩ := hd 0 rfl _ rfl
    obtain ⟨_, e6, v221, rfl, hs227⟩ := hd 6 rfl _ rfl
    have hI0 := hI
    obtain rfl := hI
    refine st_gs [[(b3, .cells #[.int .i64 a1] 3 (0, 0))], [(b4, .cells #[v198] 57 (0, 0))], g199, pool] rfl ?_
    refine st_ord [2, 0, 0, 0] _ rfl ?_
    refine o_append (dk := (kP (kI .i64) (kP (kI .u32) (kP (kI .i64) (kP (kI .i64) (kP (kI .i64) (kP (kA .i64 6) (kP (kSl (kP (kI .i64) (kI .i64))) (kP (kSl (kI .i64)) (kP kS kS)))))))))) (xs := s197.2) (ys := [r213]) rfl rfl rfl rfl z_slT57 e0 (ho200.up (hl201.trans hl)) e6 (Sl.src hs227) hf231 hf232 (fun v228 g229 ho230 => ?_)
    refine st_ord [1, 0, 0, 0] _ rfl ?_
    exact hk _ _ [g229, [(b4, .cells #[v198] 57 (0, 0))]] (Sto.Le.refl _) trivial (by exact ⟨v228, g229, rfl, rfl, ho230⟩)
   intro ρ' τ236 vals u Fv hl236 hI hu hv hout
   obtain ⟨v233, g234, rfl, rfl, ho235⟩ := hI
   refine st_gs [[(b3, .cells #[.int .i64 a1] 3 (0, 0))], g234, [(b4, .cells #[v198] 57 (0, 0))]] rfl ?_
   refine st_env (ρ' := [(0, v1), (3, .pointer (some ⟨b3, 0, none⟩)), (4, .bool false), (5, .pointer (some ⟨b4, 0, none⟩)), (6, .int .i64 s197.1), (43, v233)]) ⟨(hout 0 rfl).trans rfl, (hout 3 rfl).trans rfl, (hout 4 rfl).trans rfl, (hout 5 rfl).trans rfl, (hout 6 rfl).trans rfl, (by exact hu _ rfl), trivial⟩ ?_
   refine o_store (j := 2) (vs := [v233]) (cs' := [v233]) rfl rfl rfl z_size57 rfl rfl (oneL_ow ho235) (ones_cons ho235.one' ones_nil) rfl rfl rfl ?_
   refine st_gs [[(b3, .cells #[.int .i64 a1] 3 (0, 0))], g234, [(b4, .cells #[v233] 57 (0, 0))]] rfl ?_
   refine Z 7 rfl ?_
   refine st_ord [0, 1, 0] _ rfl ?_
   exact hn197 _ _ _ _ h ⟨((hl197.trans hl201).trans hl236), _, _, rfl, rfl, ho235⟩
  ·refine st_exit rfl ?_
   obtain rfl := he197 _ h
   replace h := hA197
   exact hk5 _ _ _ ⟨s197.2, _, _, h, (hl197.trans hl201), rfl, rfl, (ho200.up hl201)⟩
 refine Z 3 rfl ?_
 refine o_lenI rfl rfl rfl z_slT57 rfl (hs2.up hl197) ?_
 refine o_ibin (v := .bool (decide (s197.1 < (a0.length : Int)))) rfl rfl rfl rfl rfl rfl ?_
 refine o_mif rfl rfl rfl rfl h (fun h => ?_) (fun h => ?_)
 ·refine Z 4 rfl ?_
  exact hk201 _ _ _ ⟨(decide (s197.1 < 40)), h, (Sto.Le.refl _), rfl, rfl⟩
 ·refine Z 4 rfl ?_
  exact hk201 _ _ _ ⟨false, h, (Sto.Le.refl _), rfl, rfl⟩
end Go.Rel
