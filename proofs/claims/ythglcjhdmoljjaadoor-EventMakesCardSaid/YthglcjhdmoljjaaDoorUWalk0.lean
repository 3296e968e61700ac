import Derived.Test.YthglcjhdmoljjaaDoorURel
import Derived.Test.YthglcjhdmoljjaaDoorUFacts
/-! The walks. -/
set_option linter.unusedVariables false
set_option linter.unusedSimpArgs false
set_option maxRecDepth 4000
set_option maxHeartbeats 4000000
namespace Go.Rel
open Go Go.Eng Go.Proofs
theorem law17_Cut_ok {a0 : Int × List Int × List (Int × Int) × List Int × ByteArray × ByteArray} {v1 : Value} {v2 : Value} {r : (Int × List Int × List (Int × Int) × List Int × ByteArray × ByteArray)} (h : law17_Cut a0 r) (σ : Sto) (hs3 : Sl (kP (kI .i64) (kI .i64)) σ v1 a0.2.2.1) (hs4 : Sl (kI .i64) σ v2 a0.2.2.2.1) :
    Does Tryd.prog 7 [.agg [.int .i64 a0.1, .int .i64 (a0.2.1.getD 0 0), .int .i64 (a0.2.1.getD 1 0), .int .i64 (a0.2.1.getD 2 0), .int .i64 (a0.2.1.getD 3 0), .int .i64 (a0.2.1.getD 4 0), .int .i64 (a0.2.1.getD 5 0), v1, v2, .string a0.2.2.2.2.1, .string a0.2.2.2.2.2].toArray] σ [] (fun v τ gs => ∃ (v23 : Value) (v24 : Value), gs = [] ∧ .agg [.int .i64 r.1, .int .i64 (r.2.1.getD 0 0), .int .i64 (r.2.1.getD 1 0), .int .i64 (r.2.1.getD 2 0), .int .i64 (r.2.1.getD 3 0), .int .i64 (r.2.1.getD 4 0), .int .i64 (r.2.1.getD 5 0), v23, v24, .string r.2.2.2.2.1, .string r.2.2.2.2.2].toArray = v ∧ Sl (kP (kI .i64) (kI .i64)) τ v23 r.2.2.1 ∧ Sl (kI .i64) τ v24 r.2.2.2.1) := by
 refine call_of Tryd.func7 Tryd.ntmps7 rfl rfl (fun cs fs => ?_)
 refine Z 2 rfl ?_
 refine o_box (cs := [.int .i64 a0.1, .int .i64 (a0.2.1.getD 0 0), .int .i64 (a0.2.1.getD 1 0), .int .i64 (a0.2.1.getD 2 0), .int .i64 (a0.2.1.getD 3 0), .int .i64 (a0.2.1.getD 4 0), .int .i64 (a0.2.1.getD 5 0), v1, v2, .string a0.2.2.2.2.1, .string a0.2.2.2.2.2]) rfl rfl rfl rfl rfl (fun b5 => ?_)
 refine o_alloc rfl rfl rfl z_zero27 (fun b6 => ?_)
 refine Z 2 rfl ?_
 obtain ⟨hf7, hf8, hf11, hf12, h⟩ := h
 refine st_d41 [[(b6, .cells #[.int .i64 0, .int .i64 0, .int .i64 0, .int .i64 0, .int .i64 0, .int .i64 0, .int .i64 0, .slice none 0 0, .slice none 0 0, .string (bstr []), .string (bstr [])] 27 (0, 0))]] [[(b5, .cells #[.int .i64 a0.1, .int .i64 (a0.2.1.getD 0 0), .int .i64 (a0.2.1.getD 1 0), .int .i64 (a0.2.1.getD 2 0), .int .i64 (a0.2.1.getD 3 0), .int .i64 (a0.2.1.getD 4 0), .int .i64 (a0.2.1.getD 5 0), v1, v2, .string a0.2.2.2.2.1, .string a0.2.2.2.2.2] 27 (0, 0))]] 16 1 [none, none, none, none, none, none, none, none, none, none, none, none, none, none, none, some (0, 0)] [none, some (0, 0), none, some (0, 0), none, none, none, none, some (0, 0), none, some (0, 0), none, none, none, none, none] [[none, none]] [.v (.pointer (some ⟨b5, 7, none⟩)), .v (v1), .v (.pointer (some ⟨b5, 7, none⟩)), .v (v1), .v (.int .i64 (a0.2.2.1.length : Int)), .v (.int .i64 (min (a0.2.2.1.length : Int) 40)), .t fun τ v => ∃ (v9 : Value), (v9 : Value) = v ∧ Sl (kP (kI .i64) (kI .i64)) τ v9 ((a0.2.2.1.drop (0 : Int).toNat).take (((min (a0.2.2.1.length : Int) 40) : Int) - 0).toNat), .v (.pointer (some ⟨b5, 8, none⟩)), .v (v2), .v (.pointer (some ⟨b5, 8, none⟩)), .v (v2), .v (.int .i64 (a0.2.2.2.1.length : Int)), .v (.int .i64 (min (a0.2.2.2.1.length : Int) 40)), .t fun τ v => ∃ (v13 : Value), (v13 : Value) = v ∧ Sl (kI .i64) τ v13 ((a0.2.2.2.1.drop (0 : Int).toNat).take (((min (a0.2.2.2.1.length : Int) 40) : Int) - 0).toNat), .v (.pointer (some ⟨b5, 7, none⟩)), .t fun _ _ => True] [[fun τ u F => F = [[(b5, .cells #[.int .i64 a0.1, .int .i64 (a0.2.1.getD 0 0), .int .i64 (a0.2.1.getD 1 0), .int .i64 (a0.2.1.getD 2 0), .int .i64 (a0.2.1.getD 3 0), .int .i64 (a0.2.1.getD 4 0), .int .i64 (a0.2.1.getD 5 0), v1, v2, .string a0.2.2.2.2.1, .string a0.2.2.2.2.2] 27 (0, 0))]], fun τ u F => ∃ (v15 : Value), F = [[(b5, .cells #[.int .i64 a0.1, .int .i64 (a0.2.1.getD 0 0), .int .i64 (a0.2.1.getD 1 0), .int .i64 (a0.2.1.getD 2 0), .int .i64 (a0.2.1.getD 3 0), .int .i64 (a0.2.1.getD 4 0), .int .i64 (a0.2.1.getD 5 0), v15, v2, .string a0.2.2.2.2.1, .string a0.2.2.2.2.2] 27 (0, 0))]] ∧ Sl (kP (kI .i64) (kI .i64)) τ v15 ((a0.2.2.1.drop (0 : Int).toNat).take (((min (a0.2.2.1.length : Int) 40) : Int) - 0).toNat)]] rfl z_mix rfl ⟨fun _ _ _ hl ⟨v9, hv, hs10⟩ => ⟨v9, hv, hs10.up hl⟩, ⟨fun _ _ _ hl ⟨v13, hv, hs14⟩ => ⟨v13, hv, hs14.up hl⟩, ⟨fun _ _ _ _ _ => trivial, trivial⟩⟩⟩ ⟨⟨fun _ _ _ _ hl h => h, ⟨fun _ _ _ _ hl h => (let ⟨v15, hF, hs16⟩ := h; ⟨v15, hF, hs16.up hl⟩), trivial⟩⟩, trivial⟩ rfl rfl ?_ (allB_cons (allB_cons (allB_cons (allB_cons (allB_cons (allB_cons (allB_cons (allB_cons (allB_cons (allB_cons (allB_cons (allB_cons (allB_cons (allB_cons (allB_cons (allB_cons allB_nil (p4 dA)) ?_) (p4 dA)) ?_) ?_) (p4 dA)) ?_) (p4 dA)) ?_) (p4 dA)) ?_) ?_) (p4 dA)) ?_) (p4 dA)) ?_) ?_
 ·exact rfl
 ·intro ρ' τ u Fv pool rs hl hI hu hd hout hw hk
  obtain ⟨_, e0, rfl⟩ := hd 0 rfl _ rfl
  have hI0 := hI
  obtain rfl := hI
  refine st_gs [[(b6, .cells #[.int .i64 0, .int .i64 0, .int .i64 0, .int .i64 0, .int .i64 0, .int .i64 0, .int .i64 0, .slice none 0 0, .slice none 0 0, .string (bstr []), .string (bstr [])] 27 (0, 0))], [(b5, .cells #[.int .i64 a0.1, .int .i64 (a0.2.1.getD 0 0), .int .i64 (a0.2.1.getD 1 0), .int .i64 (a0.2.1.getD 2 0), .int .i64 (a0.2.1.getD 3 0), .int .i64 (a0.2.1.getD 4 0), .int .i64 (a0.2.1.getD 5 0), v1, v2, .string a0.2.2.2.2.1, .string a0.2.2.2.2.2] 27 (0, 0))], pool] rfl ?_
  refine o_load (j := 1) (v := v1) rfl rfl rfl z_sc24 e0 rfl rfl ?_
  exact hk _ _ (Sto.Le.refl _) rfl
 ·intro ρ' τ u Fv pool rs hl hI hu hd hout hw hk
  obtain ⟨_, e2, rfl⟩ := hd 2 rfl _ rfl
  have hI0 := hI
  obtain rfl := hI
  refine st_gs [[(b6, .cells #[.int .i64 0, .int .i64 0, .int .i64 0, .int .i64 0, .int .i64 0, .int .i64 0, .int .i64 0, .slice none 0 0, .slice none 0 0, .string (bstr []), .string (bstr [])] 27 (0, 0))], [(b5, .cells #[.int .i64 a0.1, .int .i64 (a0.2.1.getD 0 0), .int .i64 (a0.2.1.getD 1 0), .int .i64 (a0.2.1.getD 2 0), .int .i64 (a0.2.1.getD 3 0), .int .i64 (a0.2.1.getD 4 0), .int .i64 (a0.2.1.getD 5 0), v1, v2, .string a0.2.2.2.2.1, .string a0.2.2.2.2.2] 27 (0, 0))], pool] rfl ?_
  refine o_load (j := 1) (v := v1) rfl rfl rfl z_sc24 e2 rfl rfl ?_
  exact hk _ _ (Sto.Le.refl _) rfl
 ·intro ρ' τ pool rs hl hd hout hw hk
  obtain ⟨_, e3, rfl⟩ := hd 3 rfl _ rfl
  refine o_lenI rfl rfl rfl z_slT24 e3 (hs3.up hl) ?_
  exact hk _ _ (Sto.Le.refl _) rfl
 ·intro ρ' τ pool rs hl hd hout hw hk
  obtain ⟨_, e1, rfl⟩ := hd 1 rfl _ rfl
  obtain ⟨_, e5, rfl⟩ := hd 5 rfl _ rfl
  refine o_slice (L := 0) (H := (min (a0.2.2.1.length : Int) 40)) rfl rfl rfl z_slT24 rfl e1 (hs3.up hl) rfl ⟨_, e5⟩ (by decide) hf7 hf8 trivial (by simp) (fun v9 hs10 => ?_)
  exact hk _ _ (Sto.Le.refl _) ⟨v9, rfl, hs10⟩
 ·intro ρ' τ u Fv pool rs hl hI hu hd hout hw hk
  obtain ⟨_, e7, rfl⟩ := hd 7 rfl _ rfl
  have hI0 := hI
  obtain rfl := hI
  refine st_gs [[(b6, .cells #[.int .i64 0, .int .i64 0, .int .i64 0, .int .i64 0, .int .i64 0, .int .i64 0, .int .i64 0, .slice none 0 0, .slice none 0 0, .string (bstr []), .string (bstr [])] 27 (0, 0))], [(b5, .cells #[.int .i64 a0.1, .int .i64 (a0.2.1.getD 0 0), .int .i64 (a0.2.1.getD 1 0), .int .i64 (a0.2.1.getD 2 0), .int .i64 (a0.2.1.getD 3 0), .int .i64 (a0.2.1.getD 4 0), .int .i64 (a0.2.1.getD 5 0), v1, v2, .string a0.2.2.2.2.1, .string a0.2.2.2.2.2] 27 (0, 0))], pool] rfl ?_
  refine o_load (j := 1) (v := v2) rfl rfl rfl z_sc25 e7 rfl rfl ?_
  exact hk _ _ (Sto.Le.refl _) rfl
 ·intro ρ' τ u Fv pool rs hl hI hu hd hout hw hk
  obtain ⟨_, e9, rfl⟩ := hd 9 rfl _ rfl
  have hI0 := hI
  obtain rfl := hI
  refine st_gs [[(b6, .cells #[.int .i64 0, .int .i64 0, .int .i64 0, .int .i64 0, .int .i64 0, .int .i64 0, .int .i64 0, .slice none 0 0, .slice none 0 0, .string (bstr []), .string (bstr [])] 27 (0, 0))], [(b5, .cells #[.int .i64 a0.1, .int .i64 (a0.2.1.getD 0 0), .int .i64 (a0.2.1.getD 1 0), .int .i64 (a0.2.1.getD 2 0), .int .i64 (a0.2.1.getD 3 0), .int .i64 (a0.2.1.getD 4 0), .int .i64 (a0.2.1.getD 5 0), v1, v2, .string a0.2.2.2.2.1, .string a0.2.2.2.2.2] 27 (0, 0))], pool] rfl ?_
  refine o_load (j := 1) (v := v2) rfl rfl rfl z_sc25 e9 rfl rfl ?_
  exact hk _ _ (Sto.Le.refl _) rfl
 ·intro ρ' τ pool rs hl hd hout hw hk
  obtain ⟨_, e10, rfl⟩ := hd 10 rfl _ rfl
  refine o_lenI rfl rfl rfl z_slT25 e10 (hs4.up hl) ?_
  exact hk _ _ (Sto.Le.refl _) rfl
 ·intro ρ' τ pool rs hl hd hout hw hk
  obtain ⟨_, e8, rfl⟩ := hd 8 rfl _ rfl
  obtain ⟨_, e12, rfl⟩ := hd 12 rfl _ rfl
  refine o_slice (L := 0) (H := (min (a0.2.2.2.1.length : Int) 40)) rfl rfl rfl z_slT25 rfl e8 (hs4.up hl) rfl ⟨_, e12⟩ (by decide) hf11 hf12 trivial (by simp) (fun v13 hs14 => ?_)
  exact hk _ _ (Sto.Le.refl _) ⟨v13, rfl, hs14⟩
 ·intro ρ' τ u Fv pool rs hl hI hu hd hout hw hk
  obtain ⟨_, e6, v9, rfl, hs10⟩ := hd 6 rfl _ rfl
  obtain ⟨_, e14, rfl⟩ := hd 14 rfl _ rfl
  have hI0 := hI
  obtain rfl := hI
  refine st_gs [[(b6, .cells #[.int .i64 0, .int .i64 0, .int .i64 0, .int .i64 0, .int .i64 0, .int .i64 0, .int .i64 0, .slice none 0 0, .slice none 0 0, .string (bstr []), .string (bstr [])] 27 (0, 0))], [(b5, .cells #[.int .i64 a0.1, .int .i64 (a0.2.1.getD 0 0), .int .i64 (a0.2.1.getD 1 0), .int .i64 (a0.2.1.getD 2 0), .int .i64 (a0.2.1.getD 3 0), .int .i64 (a0.2.1.getD 4 0), .int .i64 (a0.2.1.getD 5 0), v1, v2, .string a0.2.2.2.2.1, .string a0.2.2.2.2.2] 27 (0, 0))], pool] rfl ?_
  refine o_store (j := 1) (vs := [v9]) (cs' := [.int .i64 a0.1, .int .i64 (a0.2.1.getD 0 0), .int .i64 (a0.2.1.getD 1 0), .int .i64 (a0.2.1.getD 2 0), .int .i64 (a0.2.1.getD 3 0), .int .i64 (a0.2.1.getD 4 0), .int .i64 (a0.2.1.getD 5 0), v9, v2, .string a0.2.2.2.2.1, .string a0.2.2.2.2.2]) rfl rfl rfl z_size24 e14 e6 (oneL_sl hs10) (ones_cons hs10.one' ones_nil) rfl rfl rfl ?_
  refine st_gs [[(b6, .cells #[.int .i64 0, .int .i64 0, .int .i64 0, .int .i64 0, .int .i64 0, .int .i64 0, .int .i64 0, .slice none 0 0, .slice none 0 0, .string (bstr []), .string (bstr [])] 27 (0, 0))], [(b5, .cells #[.int .i64 a0.1, .int .i64 (a0.2.1.getD 0 0), .int .i64 (a0.2.1.getD 1 0), .int .i64 (a0.2.1.getD 2 0), .int .i64 (a0.2.1.getD 3 0), .int .i64 (a0.2.1.getD 4 0), .int .i64 (a0.2.1.getD 5 0), v9, v2, .string a0.2.2.2.2.1, .string a0.2.2.2.2.2] 27 (0, 0))], pool] rfl ?_
  exact hk _ _ [[(b5, .cells #[.int .i64 a0.1, .int .i64 (a0.2.1.getD 0 0), .int .i64 (a0.2.1.getD 1 0), .int .i64 (a0.2.1.getD 2 0), .int .i64 (a0.2.1.getD 3 0), .int .i64 (a0.2.1.getD 4 0), .int .i64 (a0.2.1.getD 5 0), v9, v2, .string a0.2.2.2.2.1, .string a0.2.2.2.2.2] 27 (0, 0))]] (Sto.Le.refl _) trivial (by exact ⟨v9, rfl, hs10⟩)
 intro ρ' τ17 vals u Fv hl17 hI hu hv hout
 obtain ⟨l13, v13, t13, hs14⟩ := hv 13 (by decide)
 replace l13 := l13 _ rfl
 replace l13 : Eng.look ρ' 16 = some (v13) := l13.trans (congrArg some (Eq.symm t13))
 obtain ⟨v15, rfl, hs16⟩ := hI
 refine st_gs [[(b6, .cells #[.int .i64 0, .int .i64 0, .int .i64 0, .int .i64 0, .int .i64 0, .int .i64 0, .int .i64 0, .slice none 0 0, .slice none 0 0, .string (bstr []), .string (bstr [])] 27 (0, 0))], [(b5, .cells #[.int .i64 a0.1, .int .i64 (a0.2.1.getD 0 0), .int .i64 (a0.2.1.getD 1 0), .int .i64 (a0.2.1.getD 2 0), .int .i64 (a0.2.1.getD 3 0), .int .i64 (a0.2.1.getD 4 0), .int .i64 (a0.2.1.getD 5 0), v15, v2, .string a0.2.2.2.2.1, .string a0.2.2.2.2.2] 27 (0, 0))]] rfl ?_
 refine st_env (ρ' := [(16, v13), (1, .pointer (some ⟨b5, 0, none⟩)), (2, .pointer (some ⟨b6, 0, none⟩))]) ⟨l13, (hout 1 rfl).trans rfl, (hout 2 rfl).trans rfl, trivial⟩ ?_
 refine o_fieldAddr rfl rfl rfl z_field27_3 rfl ?_
 refine o_store (j := 1) (vs := [v13]) (cs' := [.int .i64 a0.1, .int .i64 (a0.2.1.getD 0 0), .int .i64 (a0.2.1.getD 1 0), .int .i64 (a0.2.1.getD 2 0), .int .i64 (a0.2.1.getD 3 0), .int .i64 (a0.2.1.getD 4 0), .int .i64 (a0.2.1.getD 5 0), v15, v13, .string a0.2.2.2.2.1, .string a0.2.2.2.2.2]) rfl rfl rfl z_size25 rfl rfl (oneL_sl hs14) (ones_cons hs14.one' ones_nil) rfl rfl rfl ?_
 refine st_gs [[(b6, .cells #[.int .i64 0, .int .i64 0, .int .i64 0, .int .i64 0, .int .i64 0, .int .i64 0, .int .i64 0, .slice none 0 0, .slice none 0 0, .string (bstr []), .string (bstr [])] 27 (0, 0))], [(b5, .cells #[.int .i64 a0.1, .int .i64 (a0.2.1.getD 0 0), .int .i64 (a0.2.1.getD 1 0), .int .i64 (a0.2.1.getD 2 0), .int .i64 (a0.2.1.getD 3 0), .int .i64 (a0.2.1.getD 4 0), .int .i64 (a0.2.1.getD 5 0), v15, v13, .string a0.2.2.2.2.1, .string a0.2.2.2.2.2] 27 (0, 0))]] rfl ?_
 refine Z 2 rfl ?_
 obtain ⟨hf18, hf19, hf20, hf21, h⟩ := h
 refine st_d41 [[(b6, .cells #[.int .i64 0, .int .i64 0, .int .i64 0, .int .i64 0, .int .i64 0, .int .i64 0, .int .i64 0, .slice none 0 0, .slice none 0 0, .string (bstr []), .string (bstr [])] 27 (0, 0))]] [[(b5, .cells #[.int .i64 a0.1, .int .i64 (a0.2.1.getD 0 0), .int .i64 (a0.2.1.getD 1 0), .int .i64 (a0.2.1.getD 2 0), .int .i64 (a0.2.1.getD 3 0), .int .i64 (a0.2.1.getD 4 0), .int .i64 (a0.2.1.getD 5 0), v15, v13, .string a0.2.2.2.2.1, .string a0.2.2.2.2.2] 27 (0, 0))]] 16 1 [none, none, none, none, none, none, none, none, none, none, none, none, none, none, none, some (0, 0)] [none, some (0, 0), none, some (0, 0), none, none, none, none, some (0, 0), none, some (0, 0), none, none, none, none, none] [[none, none]] [.v (.pointer (some ⟨b5, 9, none⟩)), .v (.string a0.2.2.2.2.1), .v (.pointer (some ⟨b5, 9, none⟩)), .v (.string a0.2.2.2.2.1), .v (.int .i64 (a0.2.2.2.2.1.size : Int)), .v (.int .i64 (min (a0.2.2.2.2.1.size : Int) 80)), .v (.string (a0.2.2.2.2.1.extract 0 (min (a0.2.2.2.2.1.size : Int) 80).toNat)), .v (.pointer (some ⟨b5, 10, none⟩)), .v (.string a0.2.2.2.2.2), .v (.pointer (some ⟨b5, 10, none⟩)), .v (.string a0.2.2.2.2.2), .v (.int .i64 (a0.2.2.2.2.2.size : Int)), .v (.int .i64 (min (a0.2.2.2.2.2.size : Int) 80)), .v (.string (a0.2.2.2.2.2.extract 0 (min (a0.2.2.2.2.2.size : Int) 80).toNat)), .v (.pointer (some ⟨b5, 9, none⟩)), .t fun _ _ => True] [[fun τ u F => F = [[(b5, .cells #[.int .i64 a0.1, .int .i64 (a0.2.1.getD 0 0), .int .i64 (a0.2.1.getD 1 0), .int .i64 (a0.2.1.getD 2 0), .int .i64 (a0.2.1.getD 3 0), .int .i64 (a0.2.1.getD 4 0), .int .i64 (a0.2.1.getD 5 0), v15, v13, .string a0.2.2.2.2.1, .string a0.2.2.2.2.2] 27 (0, 0))]], fun τ u F => F = [[(b5, .cells #[.int .i64 a0.1, .int .i64 (a0.2.1.getD 0 0), .int .i64 (a0.2.1.getD 1 0), .int .i64 (a0.2.1.getD 2 0), .int .i64 (a0.2.1.getD 3 0), .int .i64 (a0.2.1.getD 4 0), .int .i64 (a0.2.1.getD 5 0), v15, v13, .string (a0.2.2.2.2.1.extract 0 (min (a0.2.2.2.2.1.size : Int) 80).toNat), .string a0.2.2.2.2.2] 27 (0, 0))]]]] rfl z_mix rfl ⟨fun _ _ _ _ _ => trivial, trivial⟩ ⟨⟨fun _ _ _ _ hl h => h, ⟨fun _ _ _ _ hl h => h, trivial⟩⟩, trivial⟩ rfl rfl ?_ (allB_cons (allB_cons (allB_cons (allB_cons (allB_cons (allB_cons (allB_cons (allB_cons (allB_cons (allB_cons (allB_cons (allB_cons (allB_cons (allB_cons (allB_cons (allB_cons allB_nil (p4 dA)) ?_) (p4 dA)) ?_) (p4 dA)) (p4 dA)) ?_) (p4 dA)) ?_) (p4 dA)) ?_) (p4 dA)) (p4 dA)) ?_) (p4 dA)) ?_) ?_
 ·exact rfl
 ·intro ρ' τ u Fv pool rs hl hI hu hd hout hw hk
  obtain ⟨_, e0, rfl⟩ := hd 0 rfl _ rfl
  have hI0 := hI
  obtain rfl := hI
  refine st_gs [[(b6, .cells #[.int .i64 0, .int .i64 0, .int .i64 0, .int .i64 0, .int .i64 0, .int .i64 0, .int .i64 0, .slice none 0 0, .slice none 0 0, .string (bstr []), .string (bstr [])] 27 (0, 0))], [(b5, .cells #[.int .i64 a0.1, .int .i64 (a0.2.1.getD 0 0), .int .i64 (a0.2.1.getD 1 0), .int .i64 (a0.2.1.getD 2 0), .int .i64 (a0.2.1.getD 3 0), .int .i64 (a0.2.1.getD 4 0), .int .i64 (a0.2.1.getD 5 0), v15, v13, .string a0.2.2.2.2.1, .string a0.2.2.2.2.2] 27 (0, 0))], pool] rfl ?_
  refine o_load (j := 1) (v := .string a0.2.2.2.2.1) rfl rfl rfl z_sc9 e0 rfl rfl ?_
  exact hk _ _ (Sto.Le.refl _) rfl
 ·intro ρ' τ u Fv pool rs hl hI hu hd hout hw hk
  obtain ⟨_, e2, rfl⟩ := hd 2 rfl _ rfl
  have hI0 := hI
  obtain rfl := hI
  refine st_gs [[(b6, .cells #[.int .i64 0, .int .i64 0, .int .i64 0, .int .i64 0, .int .i64 0, .int .i64 0, .int .i64 0, .slice none 0 0, .slice none 0 0, .string (bstr []), .string (bstr [])] 27 (0, 0))], [(b5, .cells #[.int .i64 a0.1, .int .i64 (a0.2.1.getD 0 0), .int .i64 (a0.2.1.getD 1 0), .int .i64 (a0.2.1.getD 2 0), .int .i64 (a0.2.1.getD 3 0), .int .i64 (a0.2.1.getD 4 0), .int .i64 (a0.2.1.getD 5 0), v15, v13, .string a0.2.2.2.2.1, .string a0.2.2.2.2.2] 27 (0, 0))], pool] rfl ?_
  refine o_load (j := 1) (v := .string a0.2.2.2.2.1) rfl rfl rfl z_sc9 e2 rfl rfl ?_
  exact hk _ _ (Sto.Le.refl _) rfl
 ·intro ρ' τ pool rs hl hd hout hw hk
  obtain ⟨_, e1, rfl⟩ := hd 1 rfl _ rfl
  obtain ⟨_, e5, rfl⟩ := hd 5 rfl _ rfl
  refine o_sliceSh rfl rfl rfl Tryd.underlying9 e1 e5 hf18 hf19 ?_
  exact hk _ _ (Sto.Le.refl _) rfl
 ·intro ρ' τ u Fv pool rs hl hI hu hd hout hw hk
  obtain ⟨_, e7, rfl⟩ := hd 7 rfl _ rfl
  have hI0 := hI
  obtain rfl := hI
  refine st_gs [[(b6, .cells #[.int .i64 0, .int .i64 0, .int .i64 0, .int .i64 0, .int .i64 0, .int .i64 0, .int .i64 0, .slice none 0 0, .slice none 0 0, .string (bstr []), .string (bstr [])] 27 (0, 0))], [(b5, .cells #[.int .i64 a0.1, .int .i64 (a0.2.1.getD 0 0), .int .i64 (a0.2.1.getD 1 0), .int .i64 (a0.2.1.getD 2 0), .int .i64 (a0.2.1.getD 3 0), .int .i64 (a0.2.1.getD 4 0), .int .i64 (a0.2.1.getD 5 0), v15, v13, .string a0.2.2.2.2.1, .string a0.2.2.2.2.2] 27 (0, 0))], pool] rfl ?_
  refine o_load (j := 1) (v := .string a0.2.2.2.2.2) rfl rfl rfl z_sc9 e7 rfl rfl ?_
  exact hk _ _ (Sto.Le.refl _) rfl
 ·intro ρ' τ u Fv pool rs hl hI hu hd hout hw hk
  obtain ⟨_, e9, rfl⟩ := hd 9 rfl _ rfl
  have hI0 := hI
  obtain rfl := hI
  refine st_gs [[(b6, .cells #[.int .i64 0, .int .i64 0, .int .i64 0, .int .i64 0, .int .i64 0, .int .i64 0, .int .i64 0, .slice none 0 0, .slice none 0 0, .string (bstr []), .string (bstr [])] 27 (0, 0))], [(b5, .cells #[.int .i64 a0.1, .int .i64 (a0.2.1.getD 0 0), .int .i64 (a0.2.1.getD 1 0), .int .i64 (a0.2.1.getD 2 0), .int .i64 (a0.2.1.getD 3 0), .int .i64 (a0.2.1.getD 4 0), .int .i64 (a0.2.1.getD 5 0), v15, v13, .string a0.2.2.2.2.1, .string a0.2.2.2.2.2] 27 (0, 0))], pool] rfl ?_
  refine o_load (j := 1) (v := .string a0.2.2.2.2.2) rfl rfl rfl z_sc9 e9 rfl rfl ?_
  exact hk _ _ (Sto.Le.refl _) rfl
 ·intro ρ' τ pool rs hl hd hout hw hk
  obtain ⟨_, e8, rfl⟩ := hd 8 rfl _ rfl
  obtain ⟨_, e12, rfl⟩ := hd 12 rfl _ rfl
  refine o_sliceSh rfl rfl rfl Tryd.underlying9 e8 e12 hf20 hf21 ?_
  exact hk _ _ (Sto.Le.refl _) rfl
 ·intro ρ' τ u Fv pool rs hl hI hu hd hout hw hk
  obtain ⟨_, e6, rfl⟩ := hd 6 rfl _ rfl
  obtain ⟨_, e14, rfl⟩ := hd 14 rfl _ rfl
  have hI0 := hI
  obtain rfl := hI
  refine st_gs [[(b6, .cells #[.int .i64 0, .int .i64 0, .int .i64 0, .int .i64 0, .int .i64 0, .int .i64 0, .int .i64 0, .slice none 0 0, .slice none 0 0, .string (bstr []), .string (bstr [])] 27 (0, 0))], [(b5, .cells #[.int .i64 a0.1, .int .i64 (a0.2.1.getD 0 0), .int .i64 (a0.2.1.getD 1 0), .int .i64 (a0.2.1.getD 2 0), .int .i64 (a0.2.1.getD 3 0), .int .i64 (a0.2.1.getD 4 0), .int .i64 (a0.2.1.getD 5 0), v15, v13, .string a0.2.2.2.2.1, .string a0.2.2.2.2.2] 27 (0, 0))], pool] rfl ?_
  refine o_store (j := 1) (vs := [.string (a0.2.2.2.2.1.extract 0 (min (a0.2.2.2.2.1.size : Int) 80).toNat)]) (cs' := [.int .i64 a0.1, .int .i64 (a0.2.1.getD 0 0), .int .i64 (a0.2.1.getD 1 0), .int .i64 (a0.2.1.getD 2 0), .int .i64 (a0.2.1.getD 3 0), .int .i64 (a0.2.1.getD 4 0), .int .i64 (a0.2.1.getD 5 0), v15, v13, .string (a0.2.2.2.2.1.extract 0 (min (a0.2.2.2.2.1.size : Int) 80).toNat), .string a0.2.2.2.2.2]) rfl rfl rfl z_size9 e14 e6 rfl (ones_cons rfl ones_nil) rfl rfl rfl ?_
  refine st_gs [[(b6, .cells #[.int .i64 0, .int .i64 0, .int .i64 0, .int .i64 0, .int .i64 0, .int .i64 0, .int .i64 0, .slice none 0 0, .slice none 0 0, .string (bstr []), .string (bstr [])] 27 (0, 0))], [(b5, .cells #[.int .i64 a0.1, .int .i64 (a0.2.1.getD 0 0), .int .i64 (a0.2.1.getD 1 0), .int .i64 (a0.2.1.getD 2 0), .int .i64 (a0.2.1.getD 3 0), .int .i64 (a0.2.1.getD 4 0), .int .i64 (a0.2.1.getD 5 0), v15, v13, .string (a0.2.2.2.2.1.extract 0 (min (a0.2.2.2.2.1.size : Int) 80).toNat), .string a0.2.2.2.2.2] 27 (0, 0))], pool] rfl ?_
  exact hk _ _ [[(b5, .cells #[.int .i64 a0.1, .int .i64 (a0.2.1.getD 0 0), .int .i64 (a0.2.1.getD 1 0), .int .i64 (a0.2.1.getD 2 0), .int .i64 (a0.2.1.getD 3 0), .int .i64 (a0.2.1.getD 4 0), .int .i64 (a0.2.1.getD 5 0), v15, v13, .string (a0.2.2.2.2.1.extract 0 (min (a0.2.2.2.2.1.size : Int) 80).toNat), .string a0.2.2.2.2.2] 27 (0, 0))]] (Sto.Le.refl _) trivial (by exact rfl)
 intro ρ' τ22 vals u Fv hl22 hI hu hv hout
 obtain rfl := hI
 refine st_gs [[(b6, .cells #[.int .i64 0, .int .i64 0, .int .i64 0, .int .i64 0, .int .i64 0, .int .i64 0, .int .i64 0, .slice none 0 0, .slice none 0 0, .string (bstr []), .string (bstr [])] 27 (0, 0))], [(b5, .cells #[.int .i64 a0.1, .int .i64 (a0.2.1.getD 0 0), .int .i64 (a0.2.1.getD 1 0), .int .i64 (a0.2.1.getD 2 0), .int .i64 (a0.2.1.getD 3 0), .int .i64 (a0.2.1.getD 4 0), .int .i64 (a0.2.1.getD 5 0), v15, v13, .string (a0.2.2.2.2.1.extract 0 (min (a0.2.2.2.2.1.size : Int) 80).toNat), .string a0.2.2.2.2.2] 27 (0, 0))]] rfl ?_
 refine st_env (ρ' := [(32, .string (a0.2.2.2.2.2.extract 0 (min (a0.2.2.2.2.2.size : Int) 80).toNat)), (1, .pointer (some ⟨b5, 0, none⟩)), (2, .pointer (some ⟨b6, 0, none⟩))]) ⟨(lv4 hv 13 rfl rfl rfl), (hout 1 rfl).trans rfl, (hout 2 rfl).trans rfl, trivial⟩ ?_
 refine ZZ 6 [1, 1] rfl rfl ?_
 refine o_store (j := 0) (vs := [.int .i64 a0.1, .int .i64 (a0.2.1.getD 0 0), .int .i64 (a0.2.1.getD 1 0), .int .i64 (a0.2.1.getD 2 0), .int .i64 (a0.2.1.getD 3 0), .int .i64 (a0.2.1.getD 4 0), .int .i64 (a0.2.1.getD 5 0), v15, v13, .string (a0.2.2.2.2.1.extract 0 (min (a0.2.2.2.2.1.size : Int) 80).toNat), .string (a0.2.2.2.2.2.extract 0 (min (a0.2.2.2.2.2.size : Int) 80).toNat)]) (cs' := [.int .i64 a0.1, .int .i64 (a0.2.1.getD 0 0), .int .i64 (a0.2.1.getD 1 0), .int .i64 (a0.2.1.getD 2 0), .int .i64 (a0.2.1.getD 3 0), .int .i64 (a0.2.1.getD 4 0), .int .i64 (a0.2.1.getD 5 0), v15, v13, .string (a0.2.2.2.2.1.extract 0 (min (a0.2.2.2.2.1.size : Int) 80).toNat), .string (a0.2.2.2.2.2.extract 0 (min (a0.2.2.2.2.2.size : Int) 80).toNat)]) rfl rfl rfl z_size27 rfl rfl rfl (ones_cons rfl (ones_cons rfl (ones_cons rfl (ones_cons rfl (ones_cons rfl (ones_cons rfl (ones_cons rfl (ones_cons (hs16.up hl22).one' (ones_cons (hs14.up hl22).one' (ones_cons rfl (ones_cons rfl ones_nil))))))))))) rfl rfl rfl ?_
 refine st_gs [[(b6, .cells #[.int .i64 a0.1, .int .i64 (a0.2.1.getD 0 0), .int .i64 (a0.2.1.getD 1 0), .int .i64 (a0.2.1.getD 2 0), .int .i64 (a0.2.1.getD 3 0), .int .i64 (a0.2.1.getD 4 0), .int .i64 (a0.2.1.getD 5 0), v15, v13, .string (a0.2.2.2.2.1.extract 0 (min (a0.2.2.2.2.1.size : Int) 80).toNat), .string (a0.2.2.2.2.2.extract 0 (min (a0.2.2.2.2.2.size : Int) 80).toNat)] 27 (0, 0))], [(b5, .cells #[.int .i64 a0.1, .int .i64 (a0.2.1.getD 0 0), .int .i64 (a0.2.1.getD 1 0), .int .i64 (a0.2.1.getD 2 0), .int .i64 (a0.2.1.getD 3 0), .int .i64 (a0.2.1.getD 4 0), .int .i64 (a0.2.1.getD 5 0), v15, v13, .string (a0.2.2.2.2.1.extract 0 (min (a0.2.2.2.2.1.size : Int) 80).toNat), .string (a0.2.2.2.2.2.extract 0 (min (a0.2.2.2.2.2.size : Int) 80).toNat)] 27 (0, 0))]] rfl ?_
 refine st_end ?_
 obtain rfl := Eq.symm h
 exact st_retC (gs' := []) [.agg #[.int .i64 a0.1, .int .i64 (a0.2.1.getD 0 0), .int .i64 (a0.2.1.getD 1 0), .int .i64 (a0.2.1.getD 2 0), .int .i64 (a0.2.1.getD 3 0), .int .i64 (a0.2.1.getD 4 0), .int .i64 (a0.2.1.getD 5 0), v15, v13, .string (a0.2.2.2.2.1.extract 0 (min (a0.2.2.2.2.1.size : Int) 80).toNat), .string (a0.2.2.2.2.2.extract 0 (min (a0.2.2.2.2.2.size : Int) 80).toNat)]] Tryd.func7 ⟨⟨_, _, _, _, rfl, mem_flat 0 rfl, fun w hw => cellOfN (vs := [.int .i64 a0.1, .int .i64 (a0.2.1.getD 0 0), .int .i64 (a0.2.1.getD 1 0), .int .i64 (a0.2.1.getD 2 0), .int .i64 (a0.2.1.getD 3 0), .int .i64 (a0.2.1.getD 4 0), .int .i64 (a0.2.1.getD 5 0), v15, v13, .string (a0.2.2.2.2.1.extract 0 (min (a0.2.2.2.2.1.size : Int) 80).toNat), .string (a0.2.2.2.2.2.extract 0 (min (a0.2.2.2.2.2.size : Int) 80).toNat)]) z_agg27 rfl w hw⟩, trivial⟩ (by simp) (hl17.trans hl22) ⟨_, _, rfl, rfl, (hs16.up hl22), (hs14.up hl22)⟩
theorem slices_Clone_msg_Point_msg_Point_ok {a0 : List (Int × Int)} {v1 : Value} {r : (List (Int × Int))} (h : slices_Clone_msg_Point_msg_Point a0 r) (σ : Sto) (hs2 : Sl (kP (kI .i64) (kI .i64)) σ v1 a0) :
    Does Tryd.prog 36 [v1] σ [] (fun v τ gs => ∃ (v18 : Value), gs = [] ∧ v18 = v ∧ Sl (kP (kI .i64) (kI .i64)) τ v18 r) := by
 refine call_of Tryd.func36 Tryd.ntmps36 rfl rfl (fun cs fs => ?_)
 refine Z 8 rfl ?_
 refine o_slNil rfl rfl rfl Tryd.underlying24 rfl hs2 rfl (fun b3 hb4 => ?_)
 replace h := h b3 hb4
 refine st_end ?_
 refine st_if rfl h (fun h => ?_) (fun h => ?_)
 ·refine Z 4 rfl ?_
  obtain rfl := Eq.symm h
  exact st_ret (gs' := []) Tryd.func36 rfl (List.Sublist.refl _) (Sto.Le.refl _) ⟨_, rfl, rfl, Sl.nil⟩
 ·refine Z 3 rfl ?_
  refine o_lit (dk := (kP (kI .i64) (kI .i64))) (xs := ([] : List (Int × Int))) (ps := []) (cs := []) rfl rfl rfl z_slT24 z_zero42 trivial rfl rfl rfl rfl Kd.Many.nil (fun v5 g6 ho7 => ?_)
  refine o_move rfl rfl rfl rfl ?_
  obtain ⟨hf11, hf12, h⟩ := h
  refine o_append (dk := (kP (kI .i64) (kI .i64))) (xs := ([] : List (Int × Int))) (ys := a0) rfl rfl rfl rfl z_slT24 rfl ho7 rfl (Sl.src hs2) hf11 hf12 (fun v8 g9 ho10 => ?_)
  refine Z 2 rfl ?_
  refine st_freeze (fun τ13 hl14 hg15 => ?_)
  have hs16 := ho10.freeze hl14 hg15
  obtain rfl := Eq.symm h
  exact st_ret (gs' := []) Tryd.func36 rfl (List.Sublist.refl _) hl14 ⟨_, rfl, rfl, hs16⟩
theorem slices_Clone_int_int_ok {a0 : List Int} {v1 : Value} {r : List Int} (h : slices_Clone_int_int a0 r) (σ : Sto) (hs2 : Sl (kI .i64) σ v1 a0) :
    Does Tryd.prog 37 [v1] σ [] (fun v τ gs => ∃ (v18 : Value), gs = [] ∧ v18 = v ∧ Sl (kI .i64) τ v18 r) := by
 refine call_of Tryd.func37 Tryd.ntmps37 rfl rfl (fun cs fs => ?_)
 refine Z 8 rfl ?_
 refine o_slNil rfl rfl rfl Tryd.underlying25 rfl hs2 rfl (fun b3 hb4 => ?_)
 replace h := h b3 hb4
 refine st_end ?_
 refine st_if rfl h (fun h => ?_) (fun h => ?_)
 ·refine Z 4 rfl ?_
  obtain rfl := Eq.symm h
  exact st_ret (gs' := []) Tryd.func37 rfl (List.Sublist.refl _) (Sto.Le.refl _) ⟨_, rfl, rfl, Sl.nil⟩
 ·refine Z 3 rfl ?_
  refine o_lit (dk := (kI .i64)) (xs := ([] : List Int)) (ps := []) (cs := []) rfl rfl rfl z_slT25 z_zero3 trivial rfl rfl rfl rfl Kd.Many.nil (fun v5 g6 ho7 => ?_)
  refine o_move rfl rfl rfl rfl ?_
  obtain ⟨hf11, hf12, h⟩ := h
  refine o_append (dk := (kI .i64)) (xs := ([] : List Int)) (ys := a0) rfl rfl rfl rfl z_slT25 rfl ho7 rfl (Sl.src hs2) hf11 hf12 (fun v8 g9 ho10 => ?_)
  refine Z 2 rfl ?_
  refine st_freeze (fun τ13 hl14 hg15 => ?_)
  have hs16 := ho10.freeze hl14 hg15
  obtain rfl := Eq.symm h
  exact st_ret (gs' := []) Tryd.func37 rfl (List.Sublist.refl _) hl14 ⟨_, rfl, rfl, hs16⟩
theorem msg_Copy_ok {a0 : Int × List Int × List (Int × Int) × List Int × ByteArray × ByteArray} {v1 : Value} {v2 : Value} {r : (Int × List Int × List (Int × Int) × List Int × ByteArray × ByteArray)} (h : msg_Copy a0 r) (σ : Sto) (hs3 : Sl (kP (kI .i64) (kI .i64)) σ v1 a0.2.2.1) (hs4 : Sl (kI .i64) σ v2 a0.2.2.2.1) :
    Does Tryd.prog 10 [.agg [.int .i64 a0.1, .int .i64 (a0.2.1.getD 0 0), .int .i64 (a0.2.1.getD 1 0), .int .i64 (a0.2.1.getD 2 0), .int .i64 (a0.2.1.getD 3 0), .int .i64 (a0.2.1.getD 4 0), .int .i64 (a0.2.1.getD 5 0), v1, v2, .string a0.2.2.2.2.1, .string a0.2.2.2.2.2].toArray] σ [] (fun v τ gs => ∃ (v20 : Value) (v21 : Value), gs = [] ∧ .agg [.int .i64 r.1, .int .i64 (r.2.1.getD 0 0), .int .i64 (r.2.1.getD 1 0), .int .i64 (r.2.1.getD 2 0), .int .i64 (r.2.1.getD 3 0), .int .i64 (r.2.1.getD 4 0), .int .i64 (r.2.1.getD 5 0), v20, v21, .string r.2.2.2.2.1, .string r.2.2.2.2.2].toArray = v ∧ Sl (kP (kI .i64) (kI .i64)) τ v20 r.2.2.1 ∧ Sl (kI .i64) τ v21 r.2.2.2.1) := by
 refine call_of Tryd.func10 Tryd.ntmps10 rfl rfl (fun cs fs => ?_)
 refine Z 2 rfl ?_
 refine o_box (cs := [.int .i64 a0.1, .int .i64 (a0.2.1.getD 0 0), .int .i64 (a0.2.1.getD 1 0), .int .i64 (a0.2.1.getD 2 0), .int .i64 (a0.2.1.getD 3 0), .int .i64 (a0.2.1.getD 4 0), .int .i64 (a0.2.1.getD 5 0), v1, v2, .string a0.2.2.2.2.1, .string a0.2.2.2.2.2]) rfl rfl rfl rfl rfl (fun b5 => ?_)
 refine o_alloc rfl rfl rfl z_zero27 (fun b6 => ?_)
 refine Z 2 rfl ?_
 obtain ⟨r7, hr8, r13, hr14, h⟩ := h
 refine st_draw 7 (dl [.v (.pointer (some ⟨b5, 7, none⟩)), .v (v1), .t fun τ v => ∃ (v11 : Value), (v11 : Value) = v ∧ Sl (kP (kI .i64) (kI .i64)) τ v11 r7, .v (.pointer (some ⟨b5, 8, none⟩)), .v (v2), .t fun τ v => ∃ (v17 : Value), (v17 : Value) = v ∧ Sl (kI .i64) τ v17 r13, .v (.pointer (some ⟨b5, 7, none⟩))]) (fun _ _ => []) z_mix rfl (dl_mono ⟨fun _ _ _ hl ⟨v11, hv, hs12⟩ => ⟨v11, hv, hs12.up hl⟩, ⟨fun _ _ _ hl ⟨v17, hv, hs18⟩ => ⟨v17, hv, hs18.up hl⟩, trivial⟩⟩) (allB_cons (allB_cons (allB_cons (allB_cons (allB_cons (allB_cons (allB_cons allB_nil (p1 dA)) ?_) ?_) (p1 dA)) ?_) ?_) (p1 dA)) ?_
 ·intro ρ' τ pool rs hl hd hout hk
  obtain ⟨_, e0, rfl⟩ := hd 0 rfl
  refine o_load (j := 1) (v := v1) rfl rfl rfl z_sc24 e0 rfl rfl ?_
  exact st_addNil (hk _ _ (Sto.Le.refl _) rfl)
 ·intro ρ' τ pool rs hl hd hout hk
  obtain ⟨_, e1, rfl⟩ := hd 1 rfl
  refine st_call (foot := []) rfl rfl rfl rfl (evs_cons e1 rfl) rfl (callV_fn z_en36 (slices_Clone_msg_Point_msg_Point_ok hr8 τ (hs3.up hl))) ?_
  rintro vτ9 τ9 gsτ9 hl10 ⟨v11, rfl, rfl, hs12⟩
  exact st_addNil (hk _ _ hl10 ⟨v11, rfl, hs12⟩)
 ·intro ρ' τ pool rs hl hd hout hk
  obtain ⟨_, e3, rfl⟩ := hd 3 rfl
  refine o_load (j := 1) (v := v2) rfl rfl rfl z_sc25 e3 rfl rfl ?_
  exact st_addNil (hk _ _ (Sto.Le.refl _) rfl)
 ·intro ρ' τ pool rs hl hd hout hk
  obtain ⟨_, e4, rfl⟩ := hd 4 rfl
  refine st_call (foot := []) rfl rfl rfl rfl (evs_cons e4 rfl) rfl (callV_fn z_en37 (slices_Clone_int_int_ok hr14 τ (hs4.up hl))) ?_
  rintro vτ15 τ15 gsτ15 hl16 ⟨v17, rfl, rfl, hs18⟩
  exact st_addNil (hk _ _ hl16 ⟨v17, rfl, hs18⟩)
 intro ρ' τ19 vals hl19 hv hout
 obtain ⟨l2, v11, t2, hs12⟩ := hv 2 (by decide)
 replace l2 : Eng.look ρ' 5 = some (v11) := l2.trans (congrArg some (Eq.symm t2))
 obtain ⟨l5, v17, t5, hs18⟩ := hv 5 (by decide)
 replace l5 : Eng.look ρ' 8 = some (v17) := l5.trans (congrArg some (Eq.symm t5))
 refine st_ord [0, 0] _ rfl ?_
 refine st_env (ρ' := [(5, v11), (8, v17), (9, .pointer (some ⟨b5, 7, none⟩)), (1, .pointer (some ⟨b5, 0, none⟩)), (2, .pointer (some ⟨b6, 0, none⟩))]) ⟨l2, l5, (lv1 hv 6 rfl rfl), (hout 1 rfl).trans rfl, (hout 2 rfl).trans rfl, trivial⟩ ?_
 refine o_store (j := 1) (vs := [v11]) (cs' := [.int .i64 a0.1, .int .i64 (a0.2.1.getD 0 0), .int .i64 (a0.2.1.getD 1 0), .int .i64 (a0.2.1.getD 2 0), .int .i64 (a0.2.1.getD 3 0), .int .i64 (a0.2.1.getD 4 0), .int .i64 (a0.2.1.getD 5 0), v11, v2, .string a0.2.2.2.2.1, .string a0.2.2.2.2.2]) rfl rfl rfl z_size24 rfl rfl (oneL_sl hs12) (ones_cons hs12.one' ones_nil) rfl rfl rfl ?_
 refine st_gs [[(b6, .cells #[.int .i64 0, .int .i64 0, .int .i64 0, .int .i64 0, .int .i64 0, .int .i64 0, .int .i64 0, .slice none 0 0, .slice none 0 0, .string (bstr []), .string (bstr [])] 27 (0, 0))], [(b5, .cells #[.int .i64 a0.1, .int .i64 (a0.2.1.getD 0 0), .int .i64 (a0.2.1.getD 1 0), .int .i64 (a0.2.1.getD 2 0), .int .i64 (a0.2.1.getD 3 0), .int .i64 (a0.2.1.getD 4 0), .int .i64 (a0.2.1.getD 5 0), v11, v2, .string a0.2.2.2.2.1, .string a0.2.2.2.2.2] 27 (0, 0))]] rfl ?_
 refine o_fieldAddr rfl rfl rfl z_field27_3 rfl ?_
 refine o_store (j := 1) (vs := [v17]) (cs' := [.int .i64 a0.1, .int .i64 (a0.2.1.getD 0 0), .int .i64 (a0.2.1.getD 1 0), .int .i64 (a0.2.1.getD 2 0), .int .i64 (a0.2.1.getD 3 0), .int .i64 (a0.2.1.getD 4 0), .int .i64 (a0.2.1.getD 5 0), v11, v17, .string a0.2.2.2.2.1, .string a0.2.2.2.2.2]) rfl rfl rfl z_size25 rfl rfl (oneL_sl hs18) (ones_cons hs18.one' ones_nil) rfl rfl rfl ?_
 refine st_gs [[(b6, .cells #[.int .i64 0, .int .i64 0, .int .i64 0, .int .i64 0, .int .i64 0, .int .i64 0, .int .i64 0, .slice none 0 0, .slice none 0 0, .string (bstr []), .string (bstr [])] 27 (0, 0))], [(b5, .cells #[.int .i64 a0.1, .int .i64 (a0.2.1.getD 0 0), .int .i64 (a0.2.1.getD 1 0), .int .i64 (a0.2.1.getD 2 0), .int .i64 (a0.2.1.getD 3 0), .int .i64 (a0.2.1.getD 4 0), .int .i64 (a0.2.1.getD 5 0), v11, v17, .string a0.2.2.2.2.1, .string a0.2.2.2.2.2] 27 (0, 0))]] rfl ?_
 refine ZZ 4 [1] rfl rfl ?_
 refine o_store (j := 0) (vs := [.int .i64 a0.1, .int .i64 (a0.2.1.getD 0 0), .int .i64 (a0.2.1.getD 1 0), .int .i64 (a0.2.1.getD 2 0), .int .i64 (a0.2.1.getD 3 0), .int .i64 (a0.2.1.getD 4 0), .int .i64 (a0.2.1.getD 5 0), v11, v17, .string a0.2.2.2.2.1, .string a0.2.2.2.2.2]) (cs' := [.int .i64 a0.1, .int .i64 (a0.2.1.getD 0 0), .int .i64 (a0.2.1.getD 1 0), .int .i64 (a0.2.1.getD 2 0), .int .i64 (a0.2.1.getD 3 0), .int .i64 (a0.2.1.getD 4 0), .int .i64 (a0.2.1.getD 5 0), v11, v17, .string a0.2.2.2.2.1, .string a0.2.2.2.2.2]) rfl rfl rfl z_size27 rfl rfl rfl (ones_cons rfl (ones_cons rfl (ones_cons rfl (ones_cons rfl (ones_cons rfl (ones_cons rfl (ones_cons rfl (ones_cons hs12.one' (ones_cons hs18.one' (ones_cons rfl (ones_cons rfl ones_nil))))))))))) rfl rfl rfl ?_
 refine st_gs [[(b6, .cells #[.int .i64 a0.1, .int .i64 (a0.2.1.getD 0 0), .int .i64 (a0.2.1.getD 1 0), .int .i64 (a0.2.1.getD 2 0), .int .i64 (a0.2.1.getD 3 0), .int .i64 (a0.2.1.getD 4 0), .int .i64 (a0.2.1.getD 5 0), v11, v17, .string a0.2.2.2.2.1, .string a0.2.2.2.2.2] 27 (0, 0))], [(b5, .cells #[.int .i64 a0.1, .int .i64 (a0.2.1.getD 0 0), .int .i64 (a0.2.1.getD 1 0), .int .i64 (a0.2.1.getD 2 0), .int .i64 (a0.2.1.getD 3 0), .int .i64 (a0.2.1.getD 4 0), .int .i64 (a0.2.1.getD 5 0), v11, v17, .string a0.2.2.2.2.1, .string a0.2.2.2.2.2] 27 (0, 0))]] rfl ?_
 refine st_end ?_
 obtain rfl := Eq.symm h
 exact st_retC (gs' := []) [.agg #[.int .i64 a0.1, .int .i64 (a0.2.1.getD 0 0), .int .i64 (a0.2.1.getD 1 0), .int .i64 (a0.2.1.getD 2 0), .int .i64 (a0.2.1.getD 3 0), .int .i64 (a0.2.1.getD 4 0), .int .i64 (a0.2.1.getD 5 0), v11, v17, .string a0.2.2.2.2.1, .string a0.2.2.2.2.2]] Tryd.func10 ⟨⟨_, _, _, _, rfl, mem_flat 0 rfl, fun w hw => cellOfN (vs := [.int .i64 a0.1, .int .i64 (a0.2.1.getD 0 0), .int .i64 (a0.2.1.getD 1 0), .int .i64 (a0.2.1.getD 2 0), .int .i64 (a0.2.1.getD 3 0), .int .i64 (a0.2.1.getD 4 0), .int .i64 (a0.2.1.getD 5 0), v11, v17, .string a0.2.2.2.2.1, .string a0.2.2.2.2.2]) z_agg27 rfl w hw⟩, trivial⟩ (by simp) hl19 ⟨_, _, rfl, rfl, hs12, hs18⟩
theorem event_Delivery_ok {a0 : Int} {a1 : Int} {a2 : Int × List Int × List (Int × Int) × List Int × ByteArray × ByteArray} {v1 : Value} {v2 : Value} {r : (Int × Int × Int × Int × (Int × List Int × List (Int × Int) × List Int × ByteArray × ByteArray))} (h : event_Delivery a0 a1 a2 r) (σ : Sto) (hs3 : Sl (kP (kI .i64) (kI .i64)) σ v1 a2.2.2.1) (hs4 : Sl (kI .i64) σ v2 a2.2.2.2.1) :
    Does Tryd.prog 8 [.int .u32 a0, .int .i64 a1, .agg [.int .i64 a2.1, .int .i64 (a2.2.1.getD 0 0), .int .i64 (a2.2.1.getD 1 0), .int .i64 (a2.2.1.getD 2 0), .int .i64 (a2.2.1.getD 3 0), .int .i64 (a2.2.1.getD 4 0), .int .i64 (a2.2.1.getD 5 0), v1, v2, .string a2.2.2.2.2.1, .string a2.2.2.2.2.2].toArray] σ [] (fun v τ gs => ∃ (v15 : Value) (v16 : Value), gs = [] ∧ .agg [.int .i64 r.1, .int .u32 r.2.1, .int .i64 r.2.2.1, .int .i64 r.2.2.2.1, .int .i64 r.2.2.2.2.1, .int .i64 (r.2.2.2.2.2.1.getD 0 0), .int .i64 (r.2.2.2.2.2.1.getD 1 0), .int .i64 (r.2.2.2.2.2.1.getD 2 0), .int .i64 (r.2.2.2.2.2.1.getD 3 0), .int .i64 (r.2.2.2.2.2.1.getD 4 0), .int .i64 (r.2.2.2.2.2.1.getD 5 0), v15, v16, .string r.2.2.2.2.2.2.2.2.1, .string r.2.2.2.2.2.2.2.2.2].toArray = v ∧ Sl (kP (kI .i64) (kI .i64)) τ v15 r.2.2.2.2.2.2.1 ∧ Sl (kI .i64) τ v16 r.2.2.2.2.2.2.2.1) := by
 refine call_of Tryd.func8 Tryd.ntmps8 rfl rfl (fun cs fs => ?_)
 refine Z 2 rfl ?_
 refine o_box (cs := [.int .i64 a2.1, .int .i64 (a2.2.1.getD 0 0), .int .i64 (a2.2.1.getD 1 0), .int .i64 (a2.2.1.getD 2 0), .int .i64 (a2.2.1.getD 3 0), .int .i64 (a2.2.1.getD 4 0), .int .i64 (a2.2.1.getD 5 0), v1, v2, .string a2.2.2.2.2.1, .string a2.2.2.2.2.2]) rfl rfl rfl rfl rfl (fun b5 => ?_)
 refine o_alloc rfl rfl rfl z_zero31 (fun b6 => ?_)
 refine ZZ 6 [1] rfl rfl ?_
 obtain ⟨r7, hr8, h⟩ := h
 refine st_call (foot := []) rfl rfl rfl rfl rfl rfl (callV_fn z_en10 (msg_Copy_ok hr8 σ hs3 hs4)) ?_
 rintro vτ9 τ9 gsτ9 hl10 ⟨v11, v12, rfl, rfl, hs13, hs14⟩
 refine ZZ 1 [] rfl rfl ?_
 refine o_store (j := 0) (vs := [.int .i64 1, .int .u32 a0, .int .i64 a1, .int .i64 0, .int .i64 r7.1, .int .i64 (r7.2.1.getD 0 0), .int .i64 (r7.2.1.getD 1 0), .int .i64 (r7.2.1.getD 2 0), .int .i64 (r7.2.1.getD 3 0), .int .i64 (r7.2.1.getD 4 0), .int .i64 (r7.2.1.getD 5 0), v11, v12, .string r7.2.2.2.2.1, .string r7.2.2.2.2.2]) (cs' := [.int .i64 1, .int .u32 a0, .int .i64 a1, .int .i64 0, .int .i64 r7.1, .int .i64 (r7.2.1.getD 0 0), .int .i64 (r7.2.1.getD 1 0), .int .i64 (r7.2.1.getD 2 0), .int .i64 (r7.2.1.getD 3 0), .int .i64 (r7.2.1.getD 4 0), .int .i64 (r7.2.1.getD 5 0), v11, v12, .string r7.2.2.2.2.1, .string r7.2.2.2.2.2]) rfl rfl rfl z_size31 rfl rfl rfl (ones_cons rfl (ones_cons rfl (ones_cons rfl (ones_cons rfl (ones_cons rfl (ones_cons rfl (ones_cons rfl (ones_cons rfl (ones_cons rfl (ones_cons rfl (ones_cons rfl (ones_cons hs13.one' (ones_cons hs14.one' (ones_cons rfl (ones_cons rfl ones_nil))))))))))))))) rfl rfl rfl ?_
 refine st_gs [[(b6, .cells #[.int .i64 1, .int .u32 a0, .int .i64 a1, .int .i64 0, .int .i64 r7.1, .int .i64 (r7.2.1.getD 0 0), .int .i64 (r7.2.1.getD 1 0), .int .i64 (r7.2.1.getD 2 0), .int .i64 (r7.2.1.getD 3 0), .int .i64 (r7.2.1.getD 4 0), .int .i64 (r7.2.1.getD 5 0), v11, v12, .string r7.2.2.2.2.1, .string r7.2.2.2.2.2] 31 (0, 0))], [(b5, .cells #[.int .i64 a2.1, .int .i64 (a2.2.1.getD 0 0), .int .i64 (a2.2.1.getD 1 0), .int .i64 (a2.2.1.getD 2 0), .int .i64 (a2.2.1.getD 3 0), .int .i64 (a2.2.1.getD 4 0), .int .i64 (a2.2.1.getD 5 0), v1, v2, .string a2.2.2.2.2.1, .string a2.2.2.2.2.2] 27 (0, 0))]] rfl ?_
 refine st_end ?_
 obtain rfl := Eq.symm h
 exact st_retC (gs' := []) [.agg #[.int .i64 1, .int .u32 a0, .int .i64 a1, .int .i64 0, .int .i64 r7.1, .int .i64 (r7.2.1.getD 0 0), .int .i64 (r7.2.1.getD 1 0), .int .i64 (r7.2.1.getD 2 0), .int .i64 (r7.2.1.getD 3 0), .int .i64 (r7.2.1.getD 4 0), .int .i64 (r7.2.1.getD 5 0), v11, v12, .string r7.2.2.2.2.1, .string r7.2.2.2.2.2]] Tryd.func8 ⟨⟨_, _, _, _, rfl, mem_flat 0 rfl, fun w hw => cellOfN (vs := [.int .i64 1, .int .u32 a0, .int .i64 a1, .int .i64 0, .int .i64 r7.1, .int .i64 (r7.2.1.getD 0 0), .int .i64 (r7.2.1.getD 1 0), .int .i64 (r7.2.1.getD 2 0), .int .i64 (r7.2.1.getD 3 0), .int .i64 (r7.2.1.getD 4 0), .int .i64 (r7.2.1.getD 5 0), v11, v12, .string r7.2.2.2.2.1, .string r7.2.2.2.2.2]) z_agg31 rfl w hw⟩, trivial⟩ (by simp) hl10 ⟨_, _, rfl, rfl, hs13, hs14⟩
theorem slices_Clone_msg_Point_msg_Point_own_ok {a0 : List (Int × Int)} {v1 : Value} {r : (List (Int × Int))} (h : slices_Clone_msg_Point_msg_Point a0 r) (σ : Sto) (hs2 : Sl (kP (kI .i64) (kI .i64)) σ v1 a0) :
    Does Tryd.prog 36 [v1] σ [] (fun v τ gs => ∃ (v13 : Value) (g14 : Grp), gs = [g14] ∧ v13 = v ∧ Ow (kP (kI .i64) (kI .i64)) 42 τ v13 r g14) := by
 refine call_of Tryd.func36 Tryd.ntmps36 rfl rfl (fun cs fs => ?_)
 refine Z 8 rfl ?_
 refine o_slNil rfl rfl rfl Tryd.underlying24 rfl hs2 rfl (fun b3 hb4 => ?_)
 replace h := h b3 hb4
 refine st_end ?_
 refine st_if rfl h (fun h => ?_) (fun h => ?_)
 ·refine Z 4 rfl ?_
  refine st_addNil ?_
  obtain rfl := Eq.symm h
  exact st_ret (gs' := [[]]) Tryd.func36 rfl (List.Sublist.refl _) (Sto.Le.refl _) ⟨_, _, rfl, rfl, Ow.nil⟩
 ·refine Z 3 rfl ?_
  refine o_lit (dk := (kP (kI .i64) (kI .i64))) (xs := ([] : List (Int × Int))) (ps := []) (cs := []) rfl rfl rfl z_slT24 z_zero42 trivial rfl rfl rfl rfl Kd.Many.nil (fun v5 g6 ho7 => ?_)
  refine o_move rfl rfl rfl rfl ?_
  obtain ⟨hf11, hf12, h⟩ := h
  refine o_append (dk := (kP (kI .i64) (kI .i64))) (xs := ([] : List (Int × Int))) (ys := a0) rfl rfl rfl rfl z_slT24 rfl ho7 rfl (Sl.src hs2) hf11 hf12 (fun v8 g9 ho10 => ?_)
  refine Z 2 rfl ?_
  obtain rfl := Eq.symm h
  exact st_ret (gs' := [g9]) Tryd.func36 rfl (List.Sublist.refl _) (Sto.Le.refl _) ⟨_, _, rfl, rfl, ho10⟩
theorem msg_Copy_own_ok {a0 : Int × List Int × List (Int × Int) × List Int × ByteArray × ByteArray} {v1 : Value} {v2 : Value} {r : (Int × List Int × List (Int × Int) × List Int × ByteArray × ByteArray)} (h : msg_Copy a0 r) (σ : Sto) (hs3 : Sl (kP (kI .i64) (kI .i64)) σ v1 a0.2.2.1) (hs4 : Sl (kI .i64) σ v2 a0.2.2.2.1) :
    Does Tryd.prog 10 [.agg [.int .i64 a0.1, .int .i64 (a0.2.1.getD 0 0), .int .i64 (a0.2.1.getD 1 0), .int .i64 (a0.2.1.getD 2 0), .int .i64 (a0.2.1.getD 3 0), .int .i64 (a0.2.1.getD 4 0), .int .i64 (a0.2.1.getD 5 0), v1, v2, .string a0.2.2.2.2.1, .string a0.2.2.2.2.2].toArray] σ [] (fun v τ gs => ∃ (v24 : Value) (g25 : Grp) (v26 : Value), gs = [g25] ∧ .agg [.int .i64 r.1, .int .i64 (r.2.1.getD 0 0), .int .i64 (r.2.1.getD 1 0), .int .i64 (r.2.1.getD 2 0), .int .i64 (r.2.1.getD 3 0), .int .i64 (r.2.1.getD 4 0), .int .i64 (r.2.1.getD 5 0), v24, v26, .string r.2.2.2.2.1, .string r.2.2.2.2.2].toArray = v ∧ Ow (kP (kI .i64) (kI .i64)) 42 τ v24 r.2.2.1 g25 ∧ Sl (kI .i64) τ v26 r.2.2.2.1) := by
 refine call_of Tryd.func10 Tryd.ntmps10 rfl rfl (fun cs fs => ?_)
 refine Z 2 rfl ?_
 refine o_box (cs := [.int .i64 a0.1, .int .i64 (a0.2.1.getD 0 0), .int .i64 (a0.2.1.getD 1 0), .int .i64 (a0.2.1.getD 2 0), .int .i64 (a0.2.1.getD 3 0), .int .i64 (a0.2.1.getD 4 0), .int .i64 (a0.2.1.getD 5 0), v1, v2, .string a0.2.2.2.2.1, .string a0.2.2.2.2.2]) rfl rfl rfl rfl rfl (fun b5 => ?_)
 refine o_alloc rfl rfl rfl z_zero27 (fun b6 => ?_)
 refine Z 2 rfl ?_
 obtain ⟨r7, hr8, r17, hr18, h⟩ := h
 refine st_d41 [[(b6, .cells #[.int .i64 0, .int .i64 0, .int .i64 0, .int .i64 0, .int .i64 0, .int .i64 0, .int .i64 0, .slice none 0 0, .slice none 0 0, .string (bstr []), .string (bstr [])] 27 (0, 0))], [(b5, .cells #[.int .i64 a0.1, .int .i64 (a0.2.1.getD 0 0), .int .i64 (a0.2.1.getD 1 0), .int .i64 (a0.2.1.getD 2 0), .int .i64 (a0.2.1.getD 3 0), .int .i64 (a0.2.1.getD 4 0), .int .i64 (a0.2.1.getD 5 0), v1, v2, .string a0.2.2.2.2.1, .string a0.2.2.2.2.2] 27 (0, 0))]] [] 7 1 [none, none, some (0, 0), none, none, none, none] [none, none, none, none, none, none, none] [[none, some 5]] [.v (.pointer (some ⟨b5, 7, none⟩)), .v (v1), .t fun _ _ => True, .v (.pointer (some ⟨b5, 8, none⟩)), .v (v2), .t fun τ v => ∃ (v21 : Value), (v21 : Value) = v ∧ Sl (kI .i64) τ v21 r17, .v (.pointer (some ⟨b5, 7, none⟩))] [[fun τ u F => F = [], fun τ u F => ∃ (v14 : Value) (g15 : Grp), F = [g15] ∧ v14 = u ∧ Ow (kP (kI .i64) (kI .i64)) 42 τ v14 r7 g15]] rfl z_mix rfl ⟨fun _ _ _ _ _ => trivial, ⟨fun _ _ _ hl ⟨v21, hv, hs22⟩ => ⟨v21, hv, hs22.up hl⟩, trivial⟩⟩ ⟨⟨fun _ _ _ _ hl h => h, ⟨fun _ _ _ _ hl h => (let ⟨v14, g15, hF, hU, ho16⟩ := h; ⟨v14, g15, hF, hU, ho16.up hl⟩), trivial⟩⟩, trivial⟩ rfl rfl ?_ (allB_cons (allB_cons (allB_cons (allB_cons (allB_cons (allB_cons (allB_cons allB_nil (p4 dA)) ?_) ?_) (p4 dA)) ?_) ?_) (p4 dA)) ?_
 ·exact rfl
 ·intro ρ' τ pool rs hl hd hout hw hk
  obtain ⟨_, e0, rfl⟩ := hd 0 rfl _ rfl
  refine o_load (j := 1) (v := v1) rfl rfl rfl z_sc24 e0 rfl rfl ?_
  exact hk _ _ (Sto.Le.refl _) rfl
 ·intro ρ' τ u Fv pool rs hl hI hu hd hout hw hk
  obtain ⟨_, e1, rfl⟩ := hd 1 rfl _ rfl
  have hI0 := hI
  obtain rfl := hI
  refine st_gs [[(b6, .cells #[.int .i64 0, .int .i64 0, .int .i64 0, .int .i64 0, .int .i64 0, .int .i64 0, .int .i64 0, .slice none 0 0, .slice none 0 0, .string (bstr []), .string (bstr [])] 27 (0, 0))], [(b5, .cells #[.int .i64 a0.1, .int .i64 (a0.2.1.getD 0 0), .int .i64 (a0.2.1.getD 1 0), .int .i64 (a0.2.1.getD 2 0), .int .i64 (a0.2.1.getD 3 0), .int .i64 (a0.2.1.getD 4 0), .int .i64 (a0.2.1.getD 5 0), v1, v2, .string a0.2.2.2.2.1, .string a0.2.2.2.2.2] 27 (0, 0))], pool] rfl ?_
  refine st_call (foot := []) rfl rfl rfl rfl (evs_cons e1 rfl) rfl (callV_fn z_en36 (slices_Clone_msg_Point_msg_Point_own_ok hr8 τ (hs3.up hl))) ?_
  rintro vτ9 τ9 gsτ9 hl10 ⟨v11, g12, rfl, rfl, ho13⟩
  refine st_ord [1, 1, 0, 0] _ rfl ?_
  exact hk _ _ [g12] hl10 trivial (by exact ⟨v11, g12, rfl, rfl, ho13⟩)
 ·intro ρ' τ pool rs hl hd hout hw hk
  obtain ⟨_, e3, rfl⟩ := hd 3 rfl _ rfl
  refine o_load (j := 1) (v := v2) rfl rfl rfl z_sc25 e3 rfl rfl ?_
  exact hk _ _ (Sto.Le.refl _) rfl
 ·intro ρ' τ pool rs hl hd hout hw hk
  obtain ⟨_, e4, rfl⟩ := hd 4 rfl _ rfl
  refine st_call (foot := []) rfl rfl rfl rfl (evs_cons e4 rfl) rfl (callV_fn z_en37 (slices_Clone_int_int_ok hr18 τ (hs4.up hl))) ?_
  rintro vτ19 τ19 gsτ19 hl20 ⟨v21, rfl, rfl, hs22⟩
  exact hk _ _ hl20 ⟨v21, rfl, hs22⟩
 intro ρ' τ23 vals u Fv hl23 hI hu hv hout
 obtain ⟨l5, v21, t5, hs22⟩ := hv 5 (by decide)
 replace l5 := l5 _ rfl
 replace l5 : Eng.look ρ' 8 = some (v21) := l5.trans (congrArg some (Eq.symm t5))
 obtain ⟨v14, g15, rfl, rfl, ho16⟩ := hI
 refine st_gs [[(b6, .cells #[.int .i64 0, .int .i64 0, .int .i64 0, .int .i64 0, .int .i64 0, .int .i64 0, .int .i64 0, .slice none 0 0, .slice none 0 0, .string (bstr []), .string (bstr [])] 27 (0, 0))], [(b5, .cells #[.int .i64 a0.1, .int .i64 (a0.2.1.getD 0 0), .int .i64 (a0.2.1.getD 1 0), .int .i64 (a0.2.1.getD 2 0), .int .i64 (a0.2.1.getD 3 0), .int .i64 (a0.2.1.getD 4 0), .int .i64 (a0.2.1.getD 5 0), v1, v2, .string a0.2.2.2.2.1, .string a0.2.2.2.2.2] 27 (0, 0))], g15] rfl ?_
 refine st_env (ρ' := [(8, v21), (9, .pointer (some ⟨b5, 7, none⟩)), (1, .pointer (some ⟨b5, 0, none⟩)), (2, .pointer (some ⟨b6, 0, none⟩)), (5, v14)]) ⟨l5, (lv4 hv 6 rfl rfl rfl), (hout 1 rfl).trans rfl, (hout 2 rfl).trans rfl, (by exact hu _ rfl), trivial⟩ ?_
 refine o_store (j := 1) (vs := [v14]) (cs' := [.int .i64 a0.1, .int .i64 (a0.2.1.getD 0 0), .int .i64 (a0.2.1.getD 1 0), .int .i64 (a0.2.1.getD 2 0), .int .i64 (a0.2.1.getD 3 0), .int .i64 (a0.2.1.getD 4 0), .int .i64 (a0.2.1.getD 5 0), v14, v2, .string a0.2.2.2.2.1, .string a0.2.2.2.2.2]) rfl rfl rfl z_size24 rfl rfl (oneL_ow ho16) (ones_cons ho16.one' ones_nil) rfl rfl rfl ?_
 refine st_gs [[(b6, .cells #[.int .i64 0, .int .i64 0, .int .i64 0, .int .i64 0, .int .i64 0, .int .i64 0, .int .i64 0, .slice none 0 0, .slice none 0 0, .string (bstr []), .string (bstr [])] 27 (0, 0))], [(b5, .cells #[.int .i64 a0.1, .int .i64 (a0.2.1.getD 0 0), .int .i64 (a0.2.1.getD 1 0), .int .i64 (a0.2.1.getD 2 0), .int .i64 (a0.2.1.getD 3 0), .int .i64 (a0.2.1.getD 4 0), .int .i64 (a0.2.1.getD 5 0), v14, v2, .string a0.2.2.2.2.1, .string a0.2.2.2.2.2] 27 (0, 0))], g15] rfl ?_
 refine o_fieldAddr rfl rfl rfl z_field27_3 rfl ?_
 refine o_store (j := 1) (vs := [v21]) (cs' := [.int .i64 a0.1, .int .i64 (a0.2.1.getD 0 0), .int .i64 (a0.2.1.getD 1 0), .int .i64 (a0.2.1.getD 2 0), .int .i64 (a0.2.1.getD 3 0), .int .i64 (a0.2.1.getD 4 0), .int .i64 (a0.2.1.getD 5 0), v14, v21, .string a0.2.2.2.2.1, .string a0.2.2.2.2.2]) rfl rfl rfl z_size25 rfl rfl (oneL_sl hs22) (ones_cons hs22.one' ones_nil) rfl rfl rfl ?_
 refine st_gs [[(b6, .cells #[.int .i64 0, .int .i64 0, .int .i64 0, .int .i64 0, .int .i64 0, .int .i64 0, .int .i64 0, .slice none 0 0, .slice none 0 0, .string (bstr []), .string (bstr [])] 27 (0, 0))], [(b5, .cells #[.int .i64 a0.1, .int .i64 (a0.2.1.getD 0 0), .int .i64 (a0.2.1.getD 1 0), .int .i64 (a0.2.1.getD 2 0), .int .i64 (a0.2.1.getD 3 0), .int .i64 (a0.2.1.getD 4 0), .int .i64 (a0.2.1.getD 5 0), v14, v21, .string a0.2.2.2.2.1, .string a0.2.2.2.2.2] 27 (0, 0))], g15] rfl ?_
 refine ZZ 4 [1] rfl rfl ?_
 refine o_store (j := 0) (vs := [.int .i64 a0.1, .int .i64 (a0.2.1.getD 0 0), .int .i64 (a0.2.1.getD 1 0), .int .i64 (a0.2.1.getD 2 0), .int .i64 (a0.2.1.getD 3 0), .int .i64 (a0.2.1.getD 4 0), .int .i64 (a0.2.1.getD 5 0), v14, v21, .string a0.2.2.2.2.1, .string a0.2.2.2.2.2]) (cs' := [.int .i64 a0.1, .int .i64 (a0.2.1.getD 0 0), .int .i64 (a0.2.1.getD 1 0), .int .i64 (a0.2.1.getD 2 0), .int .i64 (a0.2.1.getD 3 0), .int .i64 (a0.2.1.getD 4 0), .int .i64 (a0.2.1.getD 5 0), v14, v21, .string a0.2.2.2.2.1, .string a0.2.2.2.2.2]) rfl rfl rfl z_size27 rfl rfl rfl (ones_cons rfl (ones_cons rfl (ones_cons rfl (ones_cons rfl (ones_cons rfl (ones_cons rfl (ones_cons rfl (ones_cons ho16.one' (ones_cons hs22.one' (ones_cons rfl (ones_cons rfl ones_nil))))))))))) rfl rfl rfl ?_
 refine st_gs [[(b6, .cells #[.int .i64 a0.1, .int .i64 (a0.2.1.getD 0 0), .int .i64 (a0.2.1.getD 1 0), .int .i64 (a0.2.1.getD 2 0), .int .i64 (a0.2.1.getD 3 0), .int .i64 (a0.2.1.getD 4 0), .int .i64 (a0.2.1.getD 5 0), v14, v21, .string a0.2.2.2.2.1, .string a0.2.2.2.2.2] 27 (0, 0))], [(b5, .cells #[.int .i64 a0.1, .int .i64 (a0.2.1.getD 0 0), .int .i64 (a0.2.1.getD 1 0), .int .i64 (a0.2.1.getD 2 0), .int .i64 (a0.2.1.getD 3 0), .int .i64 (a0.2.1.getD 4 0), .int .i64 (a0.2.1.getD 5 0), v14, v21, .string a0.2.2.2.2.1, .string a0.2.2.2.2.2] 27 (0, 0))], g15] rfl ?_
 refine st_end ?_
 refine st_ord [2, 0, 0] _ rfl ?_
 obtain rfl := Eq.symm h
 exact st_retC (gs' := [g15]) [.agg #[.int .i64 a0.1, .int .i64 (a0.2.1.getD 0 0), .int .i64 (a0.2.1.getD 1 0), .int .i64 (a0.2.1.getD 2 0), .int .i64 (a0.2.1.getD 3 0), .int .i64 (a0.2.1.getD 4 0), .int .i64 (a0.2.1.getD 5 0), v14, v21, .string a0.2.2.2.2.1, .string a0.2.2.2.2.2]] Tryd.func10 ⟨⟨_, _, _, _, rfl, mem_flat 1 rfl, fun w hw => cellOfN (vs := [.int .i64 a0.1, .int .i64 (a0.2.1.getD 0 0), .int .i64 (a0.2.1.getD 1 0), .int .i64 (a0.2.1.getD 2 0), .int .i64 (a0.2.1.getD 3 0), .int .i64 (a0.2.1.getD 4 0), .int .i64 (a0.2.1.getD 5 0), v14, v21, .string a0.2.2.2.2.1, .string a0.2.2.2.2.2]) z_agg27 rfl w hw⟩, trivial⟩ (by simp) hl23 ⟨_, _, _, rfl, rfl, ho16, hs22⟩
theorem event_Delivery_own_ok {a0 : Int} {a1 : Int} {a2 : Int × List Int × List (Int × Int) × List Int × ByteArray × ByteArray} {v1 : Value} {v2 : Value} {r : (Int × Int × Int × Int × (Int × List Int × List (Int × Int) × List Int × ByteArray × ByteArray))} (h : event_Delivery a0 a1 a2 r) (σ : Sto) (hs3 : Sl (kP (kI .i64) (kI .i64)) σ v1 a2.2.2.1) (hs4 : Sl (kI .i64) σ v2 a2.2.2.2.1) :
    Does Tryd.prog 8 [.int .u32 a0, .int .i64 a1, .agg [.int .i64 a2.1, .int .i64 (a2.2.1.getD 0 0), .int .i64 (a2.2.1.getD 1 0), .int .i64 (a2.2.1.getD 2 0), .int .i64 (a2.2.1.getD 3 0), .int .i64 (a2.2.1.getD 4 0), .int .i64 (a2.2.1.getD 5 0), v1, v2, .string a2.2.2.2.2.1, .string a2.2.2.2.2.2].toArray] σ [] (fun v τ gs => ∃ (v16 : Value) (g17 : Grp) (v18 : Value), gs = [g17] ∧ .agg [.int .i64 r.1, .int .u32 r.2.1, .int .i64 r.2.2.1, .int .i64 r.2.2.2.1, .int .i64 r.2.2.2.2.1, .int .i64 (r.2.2.2.2.2.1.getD 0 0), .int .i64 (r.2.2.2.2.2.1.getD 1 0), .int .i64 (r.2.2.2.2.2.1.getD 2 0), .int .i64 (r.2.2.2.2.2.1.getD 3 0), .int .i64 (r.2.2.2.2.2.1.getD 4 0), .int .i64 (r.2.2.2.2.2.1.getD 5 0), v16, v18, .string r.2.2.2.2.2.2.2.2.1, .string r.2.2.2.2.2.2.2.2.2].toArray = v ∧ Ow (kP (kI .i64) (kI .i64)) 42 τ v16 r.2.2.2.2.2.2.1 g17 ∧ Sl (kI .i64) τ v18 r.2.2.2.2.2.2.2.1) := by
 refine call_of Tryd.func8 Tryd.ntmps8 rfl rfl (fun cs fs => ?_)
 refine Z 2 rfl ?_
 refine o_box (cs := [.int .i64 a2.1, .int .i64 (a2.2.1.getD 0 0), .int .i64 (a2.2.1.getD 1 0), .int .i64 (a2.2.1.getD 2 0), .int .i64 (a2.2.1.getD 3 0), .int .i64 (a2.2.1.getD 4 0), .int .i64 (a2.2.1.getD 5 0), v1, v2, .string a2.2.2.2.2.1, .string a2.2.2.2.2.2]) rfl rfl rfl rfl rfl (fun b5 => ?_)
 refine o_alloc rfl rfl rfl z_zero31 (fun b6 => ?_)
 refine ZZ 6 [1] rfl rfl ?_
 obtain ⟨r7, hr8, h⟩ := h
 refine st_call (foot := []) rfl rfl rfl rfl rfl rfl (callV_fn z_en10 (msg_Copy_own_ok hr8 σ hs3 hs4)) ?_
 rintro vτ9 τ9 gsτ9 hl10 ⟨v11, g12, v13, rfl, rfl, ho14, hs15⟩
 refine ZZ 1 [] rfl rfl ?_
 refine o_store (j := 1) (vs := [.int .i64 1, .int .u32 a0, .int .i64 a1, .int .i64 0, .int .i64 r7.1, .int .i64 (r7.2.1.getD 0 0), .int .i64 (r7.2.1.getD 1 0), .int .i64 (r7.2.1.getD 2 0), .int .i64 (r7.2.1.getD 3 0), .int .i64 (r7.2.1.getD 4 0), .int .i64 (r7.2.1.getD 5 0), v11, v13, .string r7.2.2.2.2.1, .string r7.2.2.2.2.2]) (cs' := [.int .i64 1, .int .u32 a0, .int .i64 a1, .int .i64 0, .int .i64 r7.1, .int .i64 (r7.2.1.getD 0 0), .int .i64 (r7.2.1.getD 1 0), .int .i64 (r7.2.1.getD 2 0), .int .i64 (r7.2.1.getD 3 0), .int .i64 (r7.2.1.getD 4 0), .int .i64 (r7.2.1.getD 5 0), v11, v13, .string r7.2.2.2.2.1, .string r7.2.2.2.2.2]) rfl rfl rfl z_size31 rfl rfl rfl (ones_cons rfl (ones_cons rfl (ones_cons rfl (ones_cons rfl (ones_cons rfl (ones_cons rfl (ones_cons rfl (ones_cons rfl (ones_cons rfl (ones_cons rfl (ones_cons rfl (ones_cons ho14.one' (ones_cons hs15.one' (ones_cons rfl (ones_cons rfl ones_nil))))))))))))))) rfl rfl rfl ?_
 refine st_gs [g12, [(b6, .cells #[.int .i64 1, .int .u32 a0, .int .i64 a1, .int .i64 0, .int .i64 r7.1, .int .i64 (r7.2.1.getD 0 0), .int .i64 (r7.2.1.getD 1 0), .int .i64 (r7.2.1.getD 2 0), .int .i64 (r7.2.1.getD 3 0), .int .i64 (r7.2.1.getD 4 0), .int .i64 (r7.2.1.getD 5 0), v11, v13, .string r7.2.2.2.2.1, .string r7.2.2.2.2.2] 31 (0, 0))], [(b5, .cells #[.int .i64 a2.1, .int .i64 (a2.2.1.getD 0 0), .int .i64 (a2.2.1.getD 1 0), .int .i64 (a2.2.1.getD 2 0), .int .i64 (a2.2.1.getD 3 0), .int .i64 (a2.2.1.getD 4 0), .int .i64 (a2.2.1.getD 5 0), v1, v2, .string a2.2.2.2.2.1, .string a2.2.2.2.2.2] 27 (0, 0))]] rfl ?_
 refine st_end ?_
 obtain rfl := Eq.symm h
 exact st_retC (gs' := [g12]) [.agg #[.int .i64 1, .int .u32 a0, .int .i64 a1, .int .i64 0, .int .i64 r7.1, .int .i64 (r7.2.1.getD 0 0), .int .i64 (r7.2.1.getD 1 0), .int .i64 (r7.2.1.getD 2 0), .int .i64 (r7.2.1.getD 3 0), .int .i64 (r7.2.1.getD 4 0), .int .i64 (r7.2.1.getD 5 0), v11, v13, .string r7.2.2.2.2.1, .string r7.2.2.2.2.2]] Tryd.func8 ⟨⟨_, _, _, _, rfl, mem_flat 1 rfl, fun w hw => cellOfN (vs := [.int .i64 1, .int .u32 a0, .int .i64 a1, .int .i64 0, .int .i64 r7.1, .int .i64 (r7.2.1.getD 0 0), .int .i64 (r7.2.1.getD 1 0), .int .i64 (r7.2.1.getD 2 0), .int .i64 (r7.2.1.getD 3 0), .int .i64 (r7.2.1.getD 4 0), .int .i64 (r7.2.1.getD 5 0), v11, v13, .string r7.2.2.2.2.1, .string r7.2.2.2.2.2]) z_agg31 rfl w hw⟩, trivial⟩ (by simp) hl10 ⟨_, _, _, rfl, rfl, ho14, hs15⟩
theorem law17_Of_ok {a0 : Int × List Int × List (Int × Int) × List Int × ByteArray × ByteArray} {v1 : Value} {v2 : Value} {r : (Int × List Int × List (List Int) × List Int × ByteArray × ByteArray)} (h : law17_Of a0 r) (σ : Sto) (hs3 : Sl (kP (kI .i64) (kI .i64)) σ v1 a0.2.2.1) (hs4 : Sl (kI .i64) σ v2 a0.2.2.2.1) :
    Does Tryd.prog 9 [.agg [.int .i64 a0.1, .int .i64 (a0.2.1.getD 0 0), .int .i64 (a0.2.1.getD 1 0), .int .i64 (a0.2.1.getD 2 0), .int .i64 (a0.2.1.getD 3 0), .int .i64 (a0.2.1.getD 4 0), .int .i64 (a0.2.1.getD 5 0), v1, v2, .string a0.2.2.2.2.1, .string a0.2.2.2.2.2].toArray] σ [] (fun v τ gs => ∃ (v49 : Value) (v50 : Value), gs = [] ∧ .agg [.int .i64 r.1, .int .i64 (r.2.1.getD 0 0), .int .i64 (r.2.1.getD 1 0), .int .i64 (r.2.1.getD 2 0), .int .i64 (r.2.1.getD 3 0), .int .i64 (r.2.1.getD 4 0), .int .i64 (r.2.1.getD 5 0), v49, v50, .string r.2.2.2.2.1, .string r.2.2.2.2.2].toArray = v ∧ Sl (kA .i64 2) τ v49 r.2.2.1 ∧ Sl (kI .i64) τ v50 r.2.2.2.1) := by
 refine call_of Tryd.func9 Tryd.ntmps9 rfl rfl (fun cs fs => ?_)
 refine Z 2 rfl ?_
 refine o_box (cs := [.int .i64 a0.1, .int .i64 (a0.2.1.getD 0 0), .int .i64 (a0.2.1.getD 1 0), .int .i64 (a0.2.1.getD 2 0), .int .i64 (a0.2.1.getD 3 0), .int .i64 (a0.2.1.getD 4 0), .int .i64 (a0.2.1.getD 5 0), v1, v2, .string a0.2.2.2.2.1, .string a0.2.2.2.2.2]) rfl rfl rfl rfl rfl (fun b5 => ?_)
 refine o_alloc rfl rfl rfl z_zero35 (fun b6 => ?_)
 refine ZZ 13 [1, 1, 1, 1, 1] rfl rfl ?_
 refine o_build (ps := [(0, [.int .i64 a0.1]), (1, [.int .i64 (a0.2.1.getD 0 0), .int .i64 (a0.2.1.getD 1 0), .int .i64 (a0.2.1.getD 2 0), .int .i64 (a0.2.1.getD 3 0), .int .i64 (a0.2.1.getD 4 0), .int .i64 (a0.2.1.getD 5 0)]), (3, [v2]), (4, [.string a0.2.2.2.2.1]), (5, [.string a0.2.2.2.2.2])]) (cs := [.int .i64 a0.1, .int .i64 (a0.2.1.getD 0 0), .int .i64 (a0.2.1.getD 1 0), .int .i64 (a0.2.1.getD 2 0), .int .i64 (a0.2.1.getD 3 0), .int .i64 (a0.2.1.getD 4 0), .int .i64 (a0.2.1.getD 5 0), .slice none 0 0, v2, .string a0.2.2.2.2.1, .string a0.2.2.2.2.2]) rfl rfl rfl z_struct35 ⟨rfl, ⟨_, rfl, rfl⟩, ⟨rfl, ⟨_, rfl, rfl⟩, ⟨rfl, ⟨_, rfl, (oneL_sl hs4)⟩, ⟨rfl, ⟨_, rfl, rfl⟩, ⟨rfl, ⟨_, rfl, rfl⟩, trivial⟩⟩⟩⟩⟩ rfl ?_
 refine o_alloc rfl rfl rfl z_zero35 (fun b7 => ?_)
 refine o_store (j := 0) (vs := [.int .i64 a0.1, .int .i64 (a0.2.1.getD 0 0), .int .i64 (a0.2.1.getD 1 0), .int .i64 (a0.2.1.getD 2 0), .int .i64 (a0.2.1.getD 3 0), .int .i64 (a0.2.1.getD 4 0), .int .i64 (a0.2.1.getD 5 0), .slice none 0 0, v2, .string a0.2.2.2.2.1, .string a0.2.2.2.2.2]) (cs' := [.int .i64 a0.1, .int .i64 (a0.2.1.getD 0 0), .int .i64 (a0.2.1.getD 1 0), .int .i64 (a0.2.1.getD 2 0), .int .i64 (a0.2.1.getD 3 0), .int .i64 (a0.2.1.getD 4 0), .int .i64 (a0.2.1.getD 5 0), .slice none 0 0, v2, .string a0.2.2.2.2.1, .string a0.2.2.2.2.2]) rfl rfl rfl z_size35 rfl rfl rfl (ones_cons rfl (ones_cons rfl (ones_cons rfl (ones_cons rfl (ones_cons rfl (ones_cons rfl (ones_cons rfl (ones_cons rfl (ones_cons hs4.one' (ones_cons rfl (ones_cons rfl ones_nil))))))))))) rfl rfl rfl ?_
 refine st_gs [[(b7, .cells #[.int .i64 a0.1, .int .i64 (a0.2.1.getD 0 0), .int .i64 (a0.2.1.getD 1 0), .int .i64 (a0.2.1.getD 2 0), .int .i64 (a0.2.1.getD 3 0), .int .i64 (a0.2.1.getD 4 0), .int .i64 (a0.2.1.getD 5 0), .slice none 0 0, v2, .string a0.2.2.2.2.1, .string a0.2.2.2.2.2] 35 (0, 0))], [(b6, .cells #[.int .i64 0, .int .i64 0, .int .i64 0, .int .i64 0, .int .i64 0, .int .i64 0, .int .i64 0, .slice none 0 0, .slice none 0 0, .string (bstr []), .string (bstr [])] 35 (0, 0))], [(b5, .cells #[.int .i64 a0.1, .int .i64 (a0.2.1.getD 0 0), .int .i64 (a0.2.1.getD 1 0), .int .i64 (a0.2.1.getD 2 0), .int .i64 (a0.2.1.getD 3 0), .int .i64 (a0.2.1.getD 4 0), .int .i64 (a0.2.1.getD 5 0), v1, v2, .string a0.2.2.2.2.1, .string a0.2.2.2.2.2] 27 (0, 0))]] rfl ?_
 refine Z 2 rfl ?_
 refine st_cut (fun ρ τ8 gs => ∃ (s8 : List (List Int)) (v9 : Value) (g10 : Grp), law17_Of_j1 a0 s8 r ∧ σ.Le τ8 ∧ ESub ρ [(2, .pointer (some ⟨b6, 0, none⟩)), (3, .pointer (some ⟨b7, 0, none⟩))] ∧ gs = [[(b6, .cells #[.int .i64 0, .int .i64 0, .int .i64 0, .int .i64 0, .int .i64 0, .int .i64 0, .int .i64 0, .slice none 0 0, .slice none 0 0, .string (bstr []), .string (bstr [])] 35 (0, 0))], [(b7, .cells #[.int .i64 a0.1, .int .i64 (a0.2.1.getD 0 0), .int .i64 (a0.2.1.getD 1 0), .int .i64 (a0.2.1.getD 2 0), .int .i64 (a0.2.1.getD 3 0), .int .i64 (a0.2.1.getD 4 0), .int .i64 (a0.2.1.getD 5 0), v9, v2, .string a0.2.2.2.2.1, .string a0.2.2.2.2.2] 35 (0, 0))], g10] ∧ Ow (kA .i64 2) 71 τ8 v9 s8 g10) ?_ (fun hk8 => ?_)
 ·rintro ρ8 τ8 gs8 ⟨s8, v9, g10, h, hl8, hρ, rfl, ho11⟩
  refine st_es hρ ?_
  refine ZZ 3 [1] rfl rfl ?_
  refine o_store (j := 0) (vs := [.int .i64 a0.1, .int .i64 (a0.2.1.getD 0 0), .int .i64 (a0.2.1.getD 1 0), .int .i64 (a0.2.1.getD 2 0), .int .i64 (a0.2.1.getD 3 0), .int .i64 (a0.2.1.getD 4 0), .int .i64 (a0.2.1.getD 5 0), v9, v2, .string a0.2.2.2.2.1, .string a0.2.2.2.2.2]) (cs' := [.int .i64 a0.1, .int .i64 (a0.2.1.getD 0 0), .int .i64 (a0.2.1.getD 1 0), .int .i64 (a0.2.1.getD 2 0), .int .i64 (a0.2.1.getD 3 0), .int .i64 (a0.2.1.getD 4 0), .int .i64 (a0.2.1.getD 5 0), v9, v2, .string a0.2.2.2.2.1, .string a0.2.2.2.2.2]) rfl rfl rfl z_size35 rfl rfl rfl (ones_cons rfl (ones_cons rfl (ones_cons rfl (ones_cons rfl (ones_cons rfl (ones_cons rfl (ones_cons rfl (ones_cons ho11.one' (ones_cons (hs4.up hl8).one' (ones_cons rfl (ones_cons rfl ones_nil))))))))))) rfl rfl rfl ?_
  refine st_gs [[(b6, .cells #[.int .i64 a0.1, .int .i64 (a0.2.1.getD 0 0), .int .i64 (a0.2.1.getD 1 0), .int .i64 (a0.2.1.getD 2 0), .int .i64 (a0.2.1.getD 3 0), .int .i64 (a0.2.1.getD 4 0), .int .i64 (a0.2.1.getD 5 0), v9, v2, .string a0.2.2.2.2.1, .string a0.2.2.2.2.2] 35 (0, 0))], [(b7, .cells #[.int .i64 a0.1, .int .i64 (a0.2.1.getD 0 0), .int .i64 (a0.2.1.getD 1 0), .int .i64 (a0.2.1.getD 2 0), .int .i64 (a0.2.1.getD 3 0), .int .i64 (a0.2.1.getD 4 0), .int .i64 (a0.2.1.getD 5 0), v9, v2, .string a0.2.2.2.2.1, .string a0.2.2.2.2.2] 35 (0, 0))], g10] rfl ?_
  refine st_end ?_
  refine st_ord [2, 0, 0] _ rfl ?_
  refine st_freeze (fun τ12 hl13 hg14 => ?_)
  have hs15 := ho11.freeze hl13 hg14
  obtain rfl := Eq.symm h
  exact st_retC (gs' := []) [.agg #[.int .i64 a0.1, .int .i64 (a0.2.1.getD 0 0), .int .i64 (a0.2.1.getD 1 0), .int .i64 (a0.2.1.getD 2 0), .int .i64 (a0.2.1.getD 3 0), .int .i64 (a0.2.1.getD 4 0), .int .i64 (a0.2.1.getD 5 0), v9, v2, .string a0.2.2.2.2.1, .string a0.2.2.2.2.2]] Tryd.func9 ⟨⟨_, _, _, _, rfl, mem_flat 0 rfl, fun w hw => cellOfN (vs := [.int .i64 a0.1, .int .i64 (a0.2.1.getD 0 0), .int .i64 (a0.2.1.getD 1 0), .int .i64 (a0.2.1.getD 2 0), .int .i64 (a0.2.1.getD 3 0), .int .i64 (a0.2.1.getD 4 0), .int .i64 (a0.2.1.getD 5 0), v9, v2, .string a0.2.2.2.2.1, .string a0.2.2.2.2.2]) z_agg35 rfl w hw⟩, trivial⟩ (by simp) (hl8.trans hl13) ⟨_, _, rfl, rfl, hs15, (hs4.up (hl8.trans hl13))⟩
 refine Z 4 rfl ?_
 obtain ⟨e18, hL18, hA18⟩ := h
 refine st_addNil ?_
 refine st_ord [3, 2, 1, 0] _ rfl ?_
 refine st_loop hL18 (fun (s18 : Int × List (List Int)) ρ τ18 gs => σ.Le τ18 ∧ ∃ (v19 : Value) (g20 : Grp), ESub ρ [(1, .pointer (some ⟨b5, 0, none⟩)), (2, .pointer (some ⟨b6, 0, none⟩)), (3, .pointer (some ⟨b7, 0, none⟩)), (4, .int .i64 s18.1)] ∧ gs = [[(b5, .cells #[.int .i64 a0.1, .int .i64 (a0.2.1.getD 0 0), .int .i64 (a0.2.1.getD 1 0), .int .i64 (a0.2.1.getD 2 0), .int .i64 (a0.2.1.getD 3 0), .int .i64 (a0.2.1.getD 4 0), .int .i64 (a0.2.1.getD 5 0), v1, v2, .string a0.2.2.2.2.1, .string a0.2.2.2.2.2] 27 (0, 0))], [(b6, .cells #[.int .i64 0, .int .i64 0, .int .i64 0, .int .i64 0, .int .i64 0, .int .i64 0, .int .i64 0, .slice none 0 0, .slice none 0 0, .string (bstr []), .string (bstr [])] 35 (0, 0))], [(b7, .cells #[.int .i64 a0.1, .int .i64 (a0.2.1.getD 0 0), .int .i64 (a0.2.1.getD 1 0), .int .i64 (a0.2.1.getD 2 0), .int .i64 (a0.2.1.getD 3 0), .int .i64 (a0.2.1.getD 4 0), .int .i64 (a0.2.1.getD 5 0), v19, v2, .string a0.2.2.2.2.1, .string a0.2.2.2.2.2] 35 (0, 0))], g20] ∧ Ow (kA .i64 2) 71 τ18 v19 s18.2 g20) ⟨Sto.Le.refl _, _, _, rfl, rfl, Ow.nil⟩ ?_
 rintro s18 o18 h he18 ρ18 τ18 gs18 ⟨hl18, v19, g20, hρ, rfl, ho21⟩ hn18
 refine st_es hρ ?_
 refine ZZ 6 [0] rfl rfl ?_
 refine o_lenI rfl rfl rfl z_slT24 rfl (hs3.up hl18) ?_
 refine Z 2 rfl ?_
 refine st_if rfl h (fun h => ?_) (fun h => ?_)
 ·refine Z 3 rfl ?_
  obtain ⟨q22, hf23, q27, hf28, hf42, hf43, h⟩ := h
  refine st_d41 [[(b5, .cells #[.int .i64 a0.1, .int .i64 (a0.2.1.getD 0 0), .int .i64 (a0.2.1.getD 1 0), .int .i64 (a0.2.1.getD 2 0), .int .i64 (a0.2.1.getD 3 0), .int .i64 (a0.2.1.getD 4 0), .int .i64 (a0.2.1.getD 5 0), v1, v2, .string a0.2.2.2.2.1, .string a0.2.2.2.2.2] 27 (0, 0))], [(b6, .cells #[.int .i64 0, .int .i64 0, .int .i64 0, .int .i64 0, .int .i64 0, .int .i64 0, .int .i64 0, .slice none 0 0, .slice none 0 0, .string (bstr []), .string (bstr [])] 35 (0, 0))]] [[(b7, .cells #[.int .i64 a0.1, .int .i64 (a0.2.1.getD 0 0), .int .i64 (a0.2.1.getD 1 0), .int .i64 (a0.2.1.getD 2 0), .int .i64 (a0.2.1.getD 3 0), .int .i64 (a0.2.1.getD 4 0), .int .i64 (a0.2.1.getD 5 0), v19, v2, .string a0.2.2.2.2.1, .string a0.2.2.2.2.2] 35 (0, 0))], g20] 17 2 [none, some (0, 0), none, none, none, none, none, none, none, none, none, none, none, none, none, none, some (0, 1)] [none, none, none, none, none, none, none, none, none, none, none, none, none, none, none, none, none] [[none, some 24, some 39]] [.v (.pointer (some ⟨b7, 7, none⟩)), .v (v19), .v (.pointer (some ⟨b5, 7, none⟩)), .v (v1), .v (.int .i64 s18.1), .t fun τ v => ∃ (b24 : Nat) (of25 : Nat) (vsb24 : List Value), (.pointer (some ⟨b24, of25, none⟩) : Value) = v ∧ CelN τ ⟨b24, of25, none⟩ vsb24 ∧ (kP (kI .i64) (kI .i64)).rep τ vsb24 q22, .t fun τ v => ∃ (b24 : Nat) (of25 : Nat) (vsb24 : List Value), (.pointer (some ⟨b24, of25, none⟩) : Value) = v ∧ CelN τ ⟨b24, of25, none⟩ vsb24 ∧ (kP (kI .i64) (kI .i64)).rep τ vsb24 q22, .v (.int .i64 q22.1), .v (.pointer (some ⟨b5, 7, none⟩)), .v (v1), .v (.int .i64 s18.1), .t fun τ v => ∃ (b29 : Nat) (of30 : Nat) (vsb29 : List Value), (.pointer (some ⟨b29, of30, none⟩) : Value) = v ∧ CelN τ ⟨b29, of30, none⟩ vsb29 ∧ (kP (kI .i64) (kI .i64)).rep τ vsb29 q27, .t fun τ v => ∃ (b29 : Nat) (of30 : Nat) (vsb29 : List Value), (.pointer (some ⟨b29, of30 + 1, none⟩) : Value) = v ∧ CelN τ ⟨b29, of30, none⟩ vsb29 ∧ (kP (kI .i64) (kI .i64)).rep τ vsb29 q27, .v (.int .i64 q27.2), .v (.agg #[.int .i64 q22.1, .int .i64 q27.2]), .t fun τ v => ∃ (v32 : Value), (v32 : Value) = v ∧ Sl (kA .i64 2) τ v32 [[q22.1, q27.2]], .t fun _ _ => True] [[fun τ u F => F = [[(b7, .cells #[.int .i64 a0.1, .int .i64 (a0.2.1.getD 0 0), .int .i64 (a0.2.1.getD 1 0), .int .i64 (a0.2.1.getD 2 0), .int .i64 (a0.2.1.getD 3 0), .int .i64 (a0.2.1.getD 4 0), .int .i64 (a0.2.1.getD 5 0), v19, v2, .string a0.2.2.2.2.1, .string a0.2.2.2.2.2] 35 (0, 0))], g20], fun τ u F => F = [[(b7, .cells #[.int .i64 a0.1, .int .i64 (a0.2.1.getD 0 0), .int .i64 (a0.2.1.getD 1 0), .int .i64 (a0.2.1.getD 2 0), .int .i64 (a0.2.1.getD 3 0), .int .i64 (a0.2.1.getD 4 0), .int .i64 (a0.2.1.getD 5 0), v19, v2, .string a0.2.2.2.2.1, .string a0.2.2.2.2.2] 35 (0, 0))], g20], fun τ u F => ∃ (v44 : Value) (g45 : Grp), F = [g45, [(b7, .cells #[.int .i64 a0.1, .int .i64 (a0.2.1.getD 0 0), .int .i64 (a0.2.1.getD 1 0), .int .i64 (a0.2.1.getD 2 0), .int .i64 (a0.2.1.getD 3 0), .int .i64 (a0.2.1.getD 4 0), .int .i64 (a0.2.1.getD 5 0), v19, v2, .string a0.2.2.2.2.1, .string a0.2.2.2.2.2] 35 (0, 0))]] ∧ v44 = u ∧ Ow (kA .i64 2) 71 τ v44 (s18.2 ++ [[q22.1, q27.2]]) g45]] rfl z_mix rfl ⟨fun _ _ _ hl ⟨b24, of25, vsb24, hv, hc26, hrepb24⟩ => ⟨b24, of25, vsb24, hv, hc26.up hl, Kd.mono _ hl hrepb24⟩, ⟨fun _ _ _ hl ⟨b24, of25, vsb24, hv, hc26, hrepb24⟩ => ⟨b24, of25, vsb24, hv, hc26.up hl, Kd.mono _ hl hrepb24⟩, ⟨fun _ _ _ hl ⟨b29, of30, vsb29, hv, hc31, hrepb29⟩ => ⟨b29, of30, vsb29, hv, hc31.up hl, Kd.mono _ hl hrepb29⟩, ⟨fun _ _ _ hl ⟨b29, of30, vsb29, hv, hc31, hrepb29⟩ => ⟨b29, of30, vsb29, hv, hc31.up hl, Kd.mono _ hl hrepb29⟩, ⟨fun _ _ _ hl ⟨v32, hv, hs38⟩ => ⟨v32, hv, hs38.up hl⟩, ⟨fun _ _ _ _ _ => trivial, trivial⟩⟩⟩⟩⟩⟩ ⟨⟨fun _ _ _ _ hl h => h, ⟨fun _ _ _ _ hl h => h, ⟨fun _ _ _ _ hl h => (let ⟨v44, g45, hF, hU, ho46⟩ := h; ⟨v44, g45, hF, hU, ho46.up hl⟩), trivial⟩⟩⟩, trivial⟩ rfl rfl ?_ (allB_cons (allB_cons (allB_cons (allB_cons (allB_cons (allB_cons (allB_cons (allB_cons (allB_cons (allB_cons (allB_cons (allB_cons (allB_cons (allB_cons (allB_cons (allB_cons (allB_cons allB_nil (p4 dA)) ?_) (p4 dA)) ?_) (p4 dA)) ?_) ?_) ?_) (p4 dA)) ?_) (p4 dA)) ?_) ?_) ?_) ?_) ?_) ?_) ?_
  ·exact rfl
  ·intro ρ' τ u Fv pool rs hl hI hu hd hout hw hk
   obtain ⟨_, e0, rfl⟩ := hd 0 rfl _ rfl
   have hI0 := hI
   obtain rfl := hI
   refine st_gs [[(b5, .cells #[.int .i64 a0.1, .int .i64 (a0.2.1.getD 0 0), .int .i64 (a0.2.1.getD 1 0), .int .i64 (a0.2.1.getD 2 0), .int .i64 (a0.2.1.getD 3 0), .int .i64 (a0.2.1.getD 4 0), .int .i64 (a0.2.1.getD 5 0), v1, v2, .string a0.2.2.2.2.1, .string a0.2.2.2.2.2] 27 (0, 0))], [(b6, .cells #[.int .i64 0, .int .i64 0, .int .i64 0, .int .i64 0, .int .i64 0, .int .i64 0, .int .i64 0, .slice none 0 0, .slice none 0 0, .string (bstr []), .string (bstr [])] 35 (0, 0))], [(b7, .cells #[.int .i64 a0.1, .int .i64 (a0.2.1.getD 0 0), .int .i64 (a0.2.1.getD 1 0), .int .i64 (a0.2.1.getD 2 0), .int .i64 (a0.2.1.getD 3 0), .int .i64 (a0.2.1.getD 4 0), .int .i64 (a0.2.1.getD 5 0), v19, v2, .string a0.2.2.2.2.1, .string a0.2.2.2.2.2] 35 (0, 0))], g20, pool] rfl ?_
   refine o_load (j := 2) (v := v19) rfl rfl rfl z_sc33 e0 rfl rfl ?_
   exact hk _ _ [[(b7, .cells #[.int .i64 a0.1, .int .i64 (a0.2.1.getD 0 0), .int .i64 (a0.2.1.getD 1 0), .int .i64 (a0.2.1.getD 2 0), .int .i64 (a0.2.1.getD 3 0), .int .i64 (a0.2.1.getD 4 0), .int .i64 (a0.2.1.getD 5 0), v19, v2, .string a0.2.2.2.2.1, .string a0.2.2.2.2.2] 35 (0, 0))], g20] (Sto.Le.refl _) rfl (by exact hI0)
  ·intro ρ' τ pool rs hl hd hout hw hk
   obtain ⟨_, e2, rfl⟩ := hd 2 rfl _ rfl
   refine o_load (j := 0) (v := v1) rfl rfl rfl z_sc24 e2 rfl rfl ?_
   exact hk _ _ (Sto.Le.refl _) rfl
  ·intro ρ' τ pool rs hl hd hout hw hk
   obtain ⟨_, e3, rfl⟩ := hd 3 rfl _ rfl
   obtain ⟨_, e4, rfl⟩ := hd 4 rfl _ rfl
   refine o_index rfl rfl rfl z_slT24 rfl e3 (hs3.up (hl18.trans hl)) e4 hf23 (fun b24 of25 vsb24 hc26 hrepb24 => ?_)
   exact hk _ _ (Sto.Le.refl _) ⟨b24, of25, _, rfl, hc26, hrepb24⟩
  ·intro ρ' τ pool rs hl hd hout hw hk
   obtain ⟨_, e5, b24, of25, vsb24, rfl, hc26, hrepb24⟩ := hd 5 rfl _ rfl
   have hrepb24 := hrepb24
   obtain ⟨_, _, rfl, rfl, rfl⟩ := hrepb24
   refine o_fieldAddr rfl rfl rfl z_field42_0 e5 ?_
   exact hk _ _ (Sto.Le.refl _) ⟨b24, of25, _, rfl, hc26, hrepb24⟩
  ·intro ρ' τ pool rs hl hd hout hw hk
   obtain ⟨_, e6, b24, of25, vsb24, rfl, hc26, hrepb24⟩ := hd 6 rfl _ rfl
   have hrepb24 := hrepb24
   obtain ⟨_, _, rfl, rfl, rfl⟩ := hrepb24
   refine o_loadI (v := .int .i64 q22.1) rfl rfl rfl z_sc3 e6 (hc26 0 _ rfl) ?_
   exact hk _ _ (Sto.Le.refl _) rfl
  ·intro ρ' τ pool rs hl hd hout hw hk
   obtain ⟨_, e8, rfl⟩ := hd 8 rfl _ rfl
   refine o_load (j := 0) (v := v1) rfl rfl rfl z_sc24 e8 rfl rfl ?_
   exact hk _ _ (Sto.Le.refl _) rfl
  ·intro ρ' τ pool rs hl hd hout hw hk
   obtain ⟨_, e9, rfl⟩ := hd 9 rfl _ rfl
   obtain ⟨_, e10, rfl⟩ := hd 10 rfl _ rfl
   refine o_index rfl rfl rfl z_slT24 rfl e9 (hs3.up (hl18.trans hl)) e10 hf28 (fun b29 of30 vsb29 hc31 hrepb29 => ?_)
   exact hk _ _ (Sto.Le.refl _) ⟨b29, of30, _, rfl, hc31, hrepb29⟩
  ·intro ρ' τ pool rs hl hd hout hw hk
   obtain ⟨_, e11, b29, of30, vsb29, rfl, hc31, hrepb29⟩ := hd 11 rfl _ rfl
   have hrepb29 := hrepb29
   obtain ⟨_, _, rfl, rfl, rfl⟩ := hrepb29
   refine o_fieldAddr rfl rfl rfl z_field42_1 e11 ?_
   exact hk _ _ (Sto.Le.refl _) ⟨b29, of30, _, rfl, hc31, hrepb29⟩
  ·intro ρ' τ pool rs hl hd hout hw hk
   obtain ⟨_, e12, b29, of30, vsb29, rfl, hc31, hrepb29⟩ := hd 12 rfl _ rfl
   have hrepb29 := hrepb29
   obtain ⟨_, _, rfl, rfl, rfl⟩ := hrepb29
   refine o_loadI (v := .int .i64 q27.2) rfl rfl rfl z_sc3 e12 (hc31 1 _ rfl) ?_
   exact hk _ _ (Sto.Le.refl _) rfl
  ·intro ρ' τ pool rs hl hd hout hw hk
   obtain ⟨_, e7, rfl⟩ := hd 7 rfl _ rfl
   obtain ⟨_, e13, rfl⟩ := hd 13 rfl _ rfl
   refine o_buildA (ps := [(0, [.int .i64 q22.1]), (1, [.int .i64 q27.2])]) (cs := [.int .i64 q22.1, .int .i64 q27.2]) rfl rfl rfl z_arrz71 ⟨rfl, ⟨_, e7, rfl⟩, ⟨rfl, ⟨_, e13, rfl⟩, trivial⟩⟩ (fill_all [.int .i64 q22.1, .int .i64 q27.2] _ rfl) ?_
   exact hk _ _ (Sto.Le.refl _) rfl
  ·intro ρ' τ pool rs hl hd hout hw hk
   obtain ⟨_, e14, rfl⟩ := hd 14 rfl _ rfl
   refine o_litE (eA .i64 2) [[q22.1, q27.2]] rfl rfl rfl z_slT33 z_zero71 ⟨rfl, ⟨_, e14, rfl⟩, trivial⟩ rfl rfl rfl rfl (fun v32 g33 ho34 => ?_)
   refine st_freeze (fun τ35 hl36 hg37 => ?_)
   have hs38 := ho34.freeze hl36 hg37
   exact hk _ _ hl36 ⟨v32, rfl, hs38⟩
  ·intro ρ' τ u Fv pool rs hl hI hu hd hout hw hk
   obtain ⟨_, e1, rfl⟩ := hd 1 rfl _ rfl
   obtain ⟨_, e15, v32, rfl, hs38⟩ := hd 15 rfl _ rfl
   have hI0 := hI
   obtain rfl := hI
   refine st_gs [[(b5, .cells #[.int .i64 a0.1, .int .i64 (a0.2.1.getD 0 0), .int .i64 (a0.2.1.getD 1 0), .int .i64 (a0.2.1.getD 2 0), .int .i64 (a0.2.1.getD 3 0), .int .i64 (a0.2.1.getD 4 0), .int .i64 (a0.2.1.getD 5 0), v1, v2, .string a0.2.2.2.2.1, .string a0.2.2.2.2.2] 27 (0, 0))], [(b6, .cells #[.int .i64 0, .int .i64 0, .int .i64 0, .int .i64 0, .int .i64 0, .int .i64 0, .int .i64 0, .slice none 0 0, .slice none 0 0, .string (bstr []), .string (bstr [])] 35 (0, 0))], [(b7, .cells #[.int .i64 a0.1, .int .i64 (a0.2.1.getD 0 0), .int .i64 (a0.2.1.getD 1 0), .int .i64 (a0.2.1.getD 2 0), .int .i64 (a0.2.1.getD 3 0), .int .i64 (a0.2.1.getD 4 0), .int .i64 (a0.2.1.getD 5 0), v19, v2, .string a0.2.2.2.2.1, .string a0.2.2.2.2.2] 35 (0, 0))], g20, pool] rfl ?_
   refine st_ord [3, 0, 0, 0, 0] _ rfl ?_
   refine o_append (dk := (kA .i64 2)) (xs := s18.2) (ys := [[q22.1, q27.2]]) rfl rfl rfl rfl z_slT33 e1 (ho21.up hl) e15 (Sl.src hs38) hf42 hf43 (fun v39 g40 ho41 => ?_)
   refine st_ord [1, 1, 0, 0, 0] _ rfl ?_
   exact hk _ _ [g40, [(b7, .cells #[.int .i64 a0.1, .int .i64 (a0.2.1.getD 0 0), .int .i64 (a0.2.1.getD 1 0), .int .i64 (a0.2.1.getD 2 0), .int .i64 (a0.2.1.getD 3 0), .int .i64 (a0.2.1.getD 4 0), .int .i64 (a0.2.1.getD 5 0), v19, v2, .string a0.2.2.2.2.1, .string a0.2.2.2.2.2] 35 (0, 0))]] (Sto.Le.refl _) trivial (by exact ⟨v39, g40, rfl, rfl, ho41⟩)
  intro ρ' τ47 vals u Fv hl47 hI hu hv hout
  obtain ⟨v44, g45, rfl, rfl, ho46⟩ := hI
  refine st_gs [[(b5, .cells #[.int .i64 a0.1, .int .i64 (a0.2.1.getD 0 0), .int .i64 (a0.2.1.getD 1 0), .int .i64 (a0.2.1.getD 2 0), .int .i64 (a0.2.1.getD 3 0), .int .i64 (a0.2.1.getD 4 0), .int .i64 (a0.2.1.getD 5 0), v1, v2, .string a0.2.2.2.2.1, .string a0.2.2.2.2.2] 27 (0, 0))], [(b6, .cells #[.int .i64 0, .int .i64 0, .int .i64 0, .int .i64 0, .int .i64 0, .int .i64 0, .int .i64 0, .slice none 0 0, .slice none 0 0, .string (bstr []), .string (bstr [])] 35 (0, 0))], g45, [(b7, .cells #[.int .i64 a0.1, .int .i64 (a0.2.1.getD 0 0), .int .i64 (a0.2.1.getD 1 0), .int .i64 (a0.2.1.getD 2 0), .int .i64 (a0.2.1.getD 3 0), .int .i64 (a0.2.1.getD 4 0), .int .i64 (a0.2.1.getD 5 0), v19, v2, .string a0.2.2.2.2.1, .string a0.2.2.2.2.2] 35 (0, 0))]] rfl ?_
  refine st_env (ρ' := [(1, .pointer (some ⟨b5, 0, none⟩)), (2, .pointer (some ⟨b6, 0, none⟩)), (3, .pointer (some ⟨b7, 0, none⟩)), (4, .int .i64 s18.1), (39, v44)]) ⟨(hout 1 rfl).trans rfl, (hout 2 rfl).trans rfl, (hout 3 rfl).trans rfl, (hout 4 rfl).trans rfl, (by exact hu _ rfl), trivial⟩ ?_
  refine o_fieldAddr rfl rfl rfl z_field35_2 rfl ?_
  refine o_store (j := 3) (vs := [v44]) (cs' := [.int .i64 a0.1, .int .i64 (a0.2.1.getD 0 0), .int .i64 (a0.2.1.getD 1 0), .int .i64 (a0.2.1.getD 2 0), .int .i64 (a0.2.1.getD 3 0), .int .i64 (a0.2.1.getD 4 0), .int .i64 (a0.2.1.getD 5 0), v44, v2, .string a0.2.2.2.2.1, .string a0.2.2.2.2.2]) rfl rfl rfl z_size33 rfl rfl (oneL_ow ho46) (ones_cons ho46.one' ones_nil) rfl rfl rfl ?_
  refine st_gs [[(b5, .cells #[.int .i64 a0.1, .int .i64 (a0.2.1.getD 0 0), .int .i64 (a0.2.1.getD 1 0), .int .i64 (a0.2.1.getD 2 0), .int .i64 (a0.2.1.getD 3 0), .int .i64 (a0.2.1.getD 4 0), .int .i64 (a0.2.1.getD 5 0), v1, v2, .string a0.2.2.2.2.1, .string a0.2.2.2.2.2] 27 (0, 0))], [(b6, .cells #[.int .i64 0, .int .i64 0, .int .i64 0, .int .i64 0, .int .i64 0, .int .i64 0, .int .i64 0, .slice none 0 0, .slice none 0 0, .string (bstr []), .string (bstr [])] 35 (0, 0))], g45, [(b7, .cells #[.int .i64 a0.1, .int .i64 (a0.2.1.getD 0 0), .int .i64 (a0.2.1.getD 1 0), .int .i64 (a0.2.1.getD 2 0), .int .i64 (a0.2.1.getD 3 0), .int .i64 (a0.2.1.getD 4 0), .int .i64 (a0.2.1.getD 5 0), v44, v2, .string a0.2.2.2.2.1, .string a0.2.2.2.2.2] 35 (0, 0))]] rfl ?_
  refine Z 7 rfl ?_
  refine st_ord [0, 0, 1, 0] _ rfl ?_
  exact hn18 _ _ _ _ h ⟨(hl18.trans hl47), _, _, rfl, rfl, ho46⟩
 ·refine st_exit rfl ?_
  obtain rfl := he18 _ h
  replace h := hA18
  refine st_ord [1, 1, 1] _ rfl ?_
  exact hk8 _ _ _ ⟨s18.2, _, _, h, hl18, rfl, rfl, ho21⟩
theorem law23_Of_ok {a0 : Int × Int × Int × Int × (Int × List Int × List (Int × Int) × List Int × ByteArray × ByteArray)} {v1 : Value} {v2 : Value} {r : (Int × Int × Int × Int × (Int × List Int × List (List Int) × List Int × ByteArray × ByteArray))} (h : law23_Of a0 r) (σ : Sto) (hs3 : Sl (kP (kI .i64) (kI .i64)) σ v1 a0.2.2.2.2.2.2.1) (hs4 : Sl (kI .i64) σ v2 a0.2.2.2.2.2.2.2.1) :
    Does Tryd.prog 12 [.agg [.int .i64 a0.1, .int .u32 a0.2.1, .int .i64 a0.2.2.1, .int .i64 a0.2.2.2.1, .int .i64 a0.2.2.2.2.1, .int .i64 (a0.2.2.2.2.2.1.getD 0 0), .int .i64 (a0.2.2.2.2.2.1.getD 1 0), .int .i64 (a0.2.2.2.2.2.1.getD 2 0), .int .i64 (a0.2.2.2.2.2.1.getD 3 0), .int .i64 (a0.2.2.2.2.2.1.getD 4 0), .int .i64 (a0.2.2.2.2.2.1.getD 5 0), v1, v2, .string a0.2.2.2.2.2.2.2.2.1, .string a0.2.2.2.2.2.2.2.2.2].toArray] σ [] (fun v τ gs => ∃ (v16 : Value) (v17 : Value), gs = [] ∧ .agg [.int .i64 r.1, .int .u32 r.2.1, .int .i64 r.2.2.1, .int .i64 r.2.2.2.1, .int .i64 r.2.2.2.2.1, .int .i64 (r.2.2.2.2.2.1.getD 0 0), .int .i64 (r.2.2.2.2.2.1.getD 1 0), .int .i64 (r.2.2.2.2.2.1.getD 2 0), .int .i64 (r.2.2.2.2.2.1.getD 3 0), .int .i64 (r.2.2.2.2.2.1.getD 4 0), .int .i64 (r.2.2.2.2.2.1.getD 5 0), v16, v17, .string r.2.2.2.2.2.2.2.2.1, .string r.2.2.2.2.2.2.2.2.2].toArray = v ∧ Sl (kA .i64 2) τ v16 r.2.2.2.2.2.2.1 ∧ Sl (kI .i64) τ v17 r.2.2.2.2.2.2.2.1) := by
 refine call_of Tryd.func12 Tryd.ntmps12 rfl rfl (fun cs fs => ?_)
 refine Z 2 rfl ?_
 refine o_box (cs := [.int .i64 a0.1, .int .u32 a0.2.1, .int .i64 a0.2.2.1, .int .i64 a0.2.2.2.1, .int .i64 a0.2.2.2.2.1, .int .i64 (a0.2.2.2.2.2.1.getD 0 0), .int .i64 (a0.2.2.2.2.2.1.getD 1 0), .int .i64 (a0.2.2.2.2.2.1.getD 2 0), .int .i64 (a0.2.2.2.2.2.1.getD 3 0), .int .i64 (a0.2.2.2.2.2.1.getD 4 0), .int .i64 (a0.2.2.2.2.2.1.getD 5 0), v1, v2, .string a0.2.2.2.2.2.2.2.2.1, .string a0.2.2.2.2.2.2.2.2.2]) rfl rfl rfl rfl rfl (fun b5 => ?_)
 refine o_alloc rfl rfl rfl z_zero38 (fun b6 => ?_)
 refine Z 2 rfl ?_
 obtain ⟨r7, hr8, h⟩ := h
 refine st_draw 12 (dl [.v (.pointer (some ⟨b5, 0, none⟩)), .v (.int .i64 a0.1), .v (.pointer (some ⟨b5, 1, none⟩)), .v (.int .u32 a0.2.1), .v (.pointer (some ⟨b5, 2, none⟩)), .v (.int .i64 a0.2.2.1), .v (.pointer (some ⟨b5, 3, none⟩)), .v (.int .i64 a0.2.2.2.1), .v (.pointer (some ⟨b5, 4, none⟩)), .v (.agg #[.int .i64 a0.2.2.2.2.1, .int .i64 (a0.2.2.2.2.2.1.getD 0 0), .int .i64 (a0.2.2.2.2.2.1.getD 1 0), .int .i64 (a0.2.2.2.2.2.1.getD 2 0), .int .i64 (a0.2.2.2.2.2.1.getD 3 0), .int .i64 (a0.2.2.2.2.2.1.getD 4 0), .int .i64 (a0.2.2.2.2.2.1.getD 5 0), v1, v2, .string a0.2.2.2.2.2.2.2.2.1, .string a0.2.2.2.2.2.2.2.2.2]), .t fun τ v => ∃ (v11 : Value) (v12 : Value), (.agg #[.int .i64 r7.1, .int .i64 (r7.2.1.getD 0 0), .int .i64 (r7.2.1.getD 1 0), .int .i64 (r7.2.1.getD 2 0), .int .i64 (r7.2.1.getD 3 0), .int .i64 (r7.2.1.getD 4 0), .int .i64 (r7.2.1.getD 5 0), v11, v12, .string r7.2.2.2.2.1, .string r7.2.2.2.2.2] : Value) = v ∧ Sl (kA .i64 2) τ v11 r7.2.2.1 ∧ Sl (kI .i64) τ v12 r7.2.2.2.1, .t fun τ v => ∃ (v11 : Value) (v12 : Value), (.agg #[.int .i64 a0.1, .int .u32 a0.2.1, .int .i64 a0.2.2.1, .int .i64 a0.2.2.2.1, .int .i64 r7.1, .int .i64 (r7.2.1.getD 0 0), .int .i64 (r7.2.1.getD 1 0), .int .i64 (r7.2.1.getD 2 0), .int .i64 (r7.2.1.getD 3 0), .int .i64 (r7.2.1.getD 4 0), .int .i64 (r7.2.1.getD 5 0), v11, v12, .string r7.2.2.2.2.1, .string r7.2.2.2.2.2] : Value) = v ∧ Sl (kA .i64 2) τ v11 r7.2.2.1 ∧ Sl (kI .i64) τ v12 r7.2.2.2.1]) (fun _ _ => []) z_mix rfl (dl_mono ⟨fun _ _ _ hl ⟨v11, v12, hv, hs13, hs14⟩ => ⟨v11, v12, hv, hs13.up hl, hs14.up hl⟩, ⟨fun _ _ _ hl ⟨v11, v12, hv, hs13, hs14⟩ => ⟨v11, v12, hv, hs13.up hl, hs14.up hl⟩, trivial⟩⟩) (allB_cons (allB_cons (allB_cons (allB_cons (allB_cons (allB_cons (allB_cons (allB_cons (allB_cons (allB_cons (allB_cons (allB_cons allB_nil (p1 dA)) ?_) (p1 dA)) ?_) (p1 dA)) ?_) (p1 dA)) ?_) (p1 dA)) ?_) ?_) ?_) ?_
 ·intro ρ' τ pool rs hl hd hout hk
  obtain ⟨_, e0, rfl⟩ := hd 0 rfl
  refine o_load (j := 1) (v := .int .i64 a0.1) rfl rfl rfl z_sc3 e0 rfl rfl ?_
  exact st_addNil (hk _ _ (Sto.Le.refl _) rfl)
 ·intro ρ' τ pool rs hl hd hout hk
  obtain ⟨_, e2, rfl⟩ := hd 2 rfl
  refine o_load (j := 1) (v := .int .u32 a0.2.1) rfl rfl rfl z_sc22 e2 rfl rfl ?_
  exact st_addNil (hk _ _ (Sto.Le.refl _) rfl)
 ·intro ρ' τ pool rs hl hd hout hk
  obtain ⟨_, e4, rfl⟩ := hd 4 rfl
  refine o_load (j := 1) (v := .int .i64 a0.2.2.1) rfl rfl rfl z_sc3 e4 rfl rfl ?_
  exact st_addNil (hk _ _ (Sto.Le.refl _) rfl)
 ·intro ρ' τ pool rs hl hd hout hk
  obtain ⟨_, e6, rfl⟩ := hd 6 rfl
  refine o_load (j := 1) (v := .int .i64 a0.2.2.2.1) rfl rfl rfl z_sc28 e6 rfl rfl ?_
  exact st_addNil (hk _ _ (Sto.Le.refl _) rfl)
 ·intro ρ' τ pool rs hl hd hout hk
  obtain ⟨_, e8, rfl⟩ := hd 8 rfl
  refine o_loadN (j := 1) (vs := [.int .i64 a0.2.2.2.2.1, .int .i64 (a0.2.2.2.2.2.1.getD 0 0), .int .i64 (a0.2.2.2.2.2.1.getD 1 0), .int .i64 (a0.2.2.2.2.2.1.getD 2 0), .int .i64 (a0.2.2.2.2.2.1.getD 3 0), .int .i64 (a0.2.2.2.2.2.1.getD 4 0), .int .i64 (a0.2.2.2.2.2.1.getD 5 0), v1, v2, .string a0.2.2.2.2.2.2.2.2.1, .string a0.2.2.2.2.2.2.2.2.2]) rfl rfl rfl z_agg27 e8 rfl rfl ?_
  exact st_addNil (hk _ _ (Sto.Le.refl _) rfl)
 ·intro ρ' τ pool rs hl hd hout hk
  obtain ⟨_, e9, rfl⟩ := hd 9 rfl
  refine st_call (foot := []) rfl rfl rfl rfl (evs_cons e9 rfl) rfl (callV_fn z_en9 (law17_Of_ok hr8 τ (hs3.up hl) (hs4.up hl))) ?_
  rintro vτ9 τ9 gsτ9 hl10 ⟨v11, v12, rfl, rfl, hs13, hs14⟩
  exact st_addNil (hk _ _ hl10 ⟨v11, v12, rfl, hs13, hs14⟩)
 ·intro ρ' τ pool rs hl hd hout hk
  obtain ⟨_, e1, rfl⟩ := hd 1 rfl
  obtain ⟨_, e3, rfl⟩ := hd 3 rfl
  obtain ⟨_, e5, rfl⟩ := hd 5 rfl
  obtain ⟨_, e7, rfl⟩ := hd 7 rfl
  obtain ⟨_, e10, v11, v12, rfl, hs13, hs14⟩ := hd 10 rfl
  refine o_build (ps := [(0, [.int .i64 a0.1]), (1, [.int .u32 a0.2.1]), (2, [.int .i64 a0.2.2.1]), (3, [.int .i64 a0.2.2.2.1]), (4, [.int .i64 r7.1, .int .i64 (r7.2.1.getD 0 0), .int .i64 (r7.2.1.getD 1 0), .int .i64 (r7.2.1.getD 2 0), .int .i64 (r7.2.1.getD 3 0), .int .i64 (r7.2.1.getD 4 0), .int .i64 (r7.2.1.getD 5 0), v11, v12, .string r7.2.2.2.2.1, .string r7.2.2.2.2.2])]) (cs := [.int .i64 a0.1, .int .u32 a0.2.1, .int .i64 a0.2.2.1, .int .i64 a0.2.2.2.1, .int .i64 r7.1, .int .i64 (r7.2.1.getD 0 0), .int .i64 (r7.2.1.getD 1 0), .int .i64 (r7.2.1.getD 2 0), .int .i64 (r7.2.1.getD 3 0), .int .i64 (r7.2.1.getD 4 0), .int .i64 (r7.2.1.getD 5 0), v11, v12, .string r7.2.2.2.2.1, .string r7.2.2.2.2.2]) rfl rfl rfl z_struct38 ⟨rfl, ⟨_, e1, rfl⟩, ⟨rfl, ⟨_, e3, rfl⟩, ⟨rfl, ⟨_, e5, rfl⟩, ⟨rfl, ⟨_, e7, rfl⟩, ⟨rfl, ⟨_, e10, rfl⟩, trivial⟩⟩⟩⟩⟩ rfl ?_
  exact st_addNil (hk _ _ (Sto.Le.refl _) ⟨v11, v12, rfl, hs13, hs14⟩)
 intro ρ' τ15 vals hl15 hv hout
 obtain ⟨l11, v11, v12, t11, hs13, hs14⟩ := hv 11 (by decide)
 replace l11 : Eng.look ρ' 14 = some (.agg #[.int .i64 a0.1, .int .u32 a0.2.1, .int .i64 a0.2.2.1, .int .i64 a0.2.2.2.1, .int .i64 r7.1, .int .i64 (r7.2.1.getD 0 0), .int .i64 (r7.2.1.getD 1 0), .int .i64 (r7.2.1.getD 2 0), .int .i64 (r7.2.1.getD 3 0), .int .i64 (r7.2.1.getD 4 0), .int .i64 (r7.2.1.getD 5 0), v11, v12, .string r7.2.2.2.2.1, .string r7.2.2.2.2.2]) := l11.trans (congrArg some (Eq.symm t11))
 refine st_ord [0, 0] _ rfl ?_
 refine st_env (ρ' := [(14, .agg #[.int .i64 a0.1, .int .u32 a0.2.1, .int .i64 a0.2.2.1, .int .i64 a0.2.2.2.1, .int .i64 r7.1, .int .i64 (r7.2.1.getD 0 0), .int .i64 (r7.2.1.getD 1 0), .int .i64 (r7.2.1.getD 2 0), .int .i64 (r7.2.1.getD 3 0), .int .i64 (r7.2.1.getD 4 0), .int .i64 (r7.2.1.getD 5 0), v11, v12, .string r7.2.2.2.2.1, .string r7.2.2.2.2.2]), (2, .pointer (some ⟨b6, 0, none⟩))]) ⟨l11, (hout 2 rfl).trans rfl, trivial⟩ ?_
 refine o_store (j := 0) (vs := [.int .i64 a0.1, .int .u32 a0.2.1, .int .i64 a0.2.2.1, .int .i64 a0.2.2.2.1, .int .i64 r7.1, .int .i64 (r7.2.1.getD 0 0), .int .i64 (r7.2.1.getD 1 0), .int .i64 (r7.2.1.getD 2 0), .int .i64 (r7.2.1.getD 3 0), .int .i64 (r7.2.1.getD 4 0), .int .i64 (r7.2.1.getD 5 0), v11, v12, .string r7.2.2.2.2.1, .string r7.2.2.2.2.2]) (cs' := [.int .i64 a0.1, .int .u32 a0.2.1, .int .i64 a0.2.2.1, .int .i64 a0.2.2.2.1, .int .i64 r7.1, .int .i64 (r7.2.1.getD 0 0), .int .i64 (r7.2.1.getD 1 0), .int .i64 (r7.2.1.getD 2 0), .int .i64 (r7.2.1.getD 3 0), .int .i64 (r7.2.1.getD 4 0), .int .i64 (r7.2.1.getD 5 0), v11, v12, .string r7.2.2.2.2.1, .string r7.2.2.2.2.2]) rfl rfl rfl z_size38 rfl rfl rfl (ones_cons rfl (ones_cons rfl (ones_cons rfl (ones_cons rfl (ones_cons rfl (ones_cons rfl (ones_cons rfl (ones_cons rfl (ones_cons rfl (ones_cons rfl (ones_cons rfl (ones_cons hs13.one' (ones_cons hs14.one' (ones_cons rfl (ones_cons rfl ones_nil))))))))))))))) rfl rfl rfl ?_
 refine st_gs [[(b6, .cells #[.int .i64 a0.1, .int .u32 a0.2.1, .int .i64 a0.2.2.1, .int .i64 a0.2.2.2.1, .int .i64 r7.1, .int .i64 (r7.2.1.getD 0 0), .int .i64 (r7.2.1.getD 1 0), .int .i64 (r7.2.1.getD 2 0), .int .i64 (r7.2.1.getD 3 0), .int .i64 (r7.2.1.getD 4 0), .int .i64 (r7.2.1.getD 5 0), v11, v12, .string r7.2.2.2.2.1, .string r7.2.2.2.2.2] 38 (0, 0))], [(b5, .cells #[.int .i64 a0.1, .int .u32 a0.2.1, .int .i64 a0.2.2.1, .int .i64 a0.2.2.2.1, .int .i64 a0.2.2.2.2.1, .int .i64 (a0.2.2.2.2.2.1.getD 0 0), .int .i64 (a0.2.2.2.2.2.1.getD 1 0), .int .i64 (a0.2.2.2.2.2.1.getD 2 0), .int .i64 (a0.2.2.2.2.2.1.getD 3 0), .int .i64 (a0.2.2.2.2.2.1.getD 4 0), .int .i64 (a0.2.2.2.2.2.1.getD 5 0), v1, v2, .string a0.2.2.2.2.2.2.2.2.1, .string a0.2.2.2.2.2.2.2.2.2] 31 (0, 0))]] rfl ?_
 refine st_end ?_
 obtain rfl := Eq.symm h
 exact st_retC (gs' := []) [.agg #[.int .i64 a0.1, .int .u32 a0.2.1, .int .i64 a0.2.2.1, .int .i64 a0.2.2.2.1, .int .i64 r7.1, .int .i64 (r7.2.1.getD 0 0), .int .i64 (r7.2.1.getD 1 0), .int .i64 (r7.2.1.getD 2 0), .int .i64 (r7.2.1.getD 3 0), .int .i64 (r7.2.1.getD 4 0), .int .i64 (r7.2.1.getD 5 0), v11, v12, .string r7.2.2.2.2.1, .string r7.2.2.2.2.2]] Tryd.func12 ⟨⟨_, _, _, _, rfl, mem_flat 0 rfl, fun w hw => cellOfN (vs := [.int .i64 a0.1, .int .u32 a0.2.1, .int .i64 a0.2.2.1, .int .i64 a0.2.2.2.1, .int .i64 r7.1, .int .i64 (r7.2.1.getD 0 0), .int .i64 (r7.2.1.getD 1 0), .int .i64 (r7.2.1.getD 2 0), .int .i64 (r7.2.1.getD 3 0), .int .i64 (r7.2.1.getD 4 0), .int .i64 (r7.2.1.getD 5 0), v11, v12, .string r7.2.2.2.2.1, .string r7.2.2.2.2.2]) z_agg38 rfl w hw⟩, trivial⟩ (by simp) hl15 ⟨_, _, rfl, rfl, hs13, hs14⟩
theorem ref01_Ints_ok {a0 : List Int} {a1 : List Int} {v1 : Value} {v3 : Value} {r : Bool} (h : ref01_Ints a0 a1 r) (σ : Sto) (hs2 : Sl (kI .i64) σ v1 a0) (hs4 : Sl (kI .i64) σ v3 a1) :
    Does Tryd.prog 61 [v1, v3] σ [] (fun v τ gs => gs = [] ∧ .bool r = v) := by
 refine call_of Tryd.func61 Tryd.ntmps61 rfl rfl (fun cs fs => ?_)
 refine Z 8 rfl ?_
 refine o_lenI rfl rfl rfl z_slT25 rfl hs2 ?_
 refine o_move rfl rfl rfl rfl ?_
 refine o_lenI rfl rfl rfl z_slT25 rfl hs4 ?_
 refine Z 2 rfl ?_
 refine st_if rfl h (fun h => ?_) (fun h => ?_)
 ·refine Z 4 rfl ?_
  obtain rfl := Eq.symm h
  exact st_ret (gs' := []) Tryd.func61 rfl (List.Sublist.refl _) (Sto.Le.refl _) ⟨rfl, rfl⟩
 ·refine Z 2 rfl ?_
  refine st_cut (fun ρ τ5 gs => ∃ (s5 : Unit), ref01_Ints_j1 s5 r ∧ σ.Le τ5 ∧ ESub ρ [(4, .bool false)] ∧ gs = []) ?_ (fun hk5 => ?_)
  ·rintro ρ5 τ5 gs5 ⟨s5, h, hl5, hρ, rfl⟩
   refine st_es hρ ?_
   refine Z 4 rfl ?_
   obtain rfl := Eq.symm h
   exact st_ret (gs' := []) Tryd.func61 rfl (List.Sublist.refl _) hl5 ⟨rfl, rfl⟩
  refine Z 4 rfl ?_
  obtain ⟨e6, hL6, hA6⟩ := h
  refine st_loop hL6 (fun (s6 : Int) ρ τ6 gs => σ.Le τ6 ∧ ESub ρ [(0, v1), (1, v3), (4, .bool false), (5, .int .i64 s6)] ∧ gs = []) ⟨Sto.Le.refl _, rfl, rfl⟩ ?_
  rintro s6 o6 h he6 ρ6 τ6 gs6 ⟨hl6, hρ, rfl⟩ hn6
  refine st_es hρ ?_
  refine Z 5 rfl ?_
  refine o_lenI rfl rfl rfl z_slT25 rfl (hs2.up hl6) ?_
  refine Z 2 rfl ?_
  refine st_if rfl h (fun h => ?_) (fun h => ?_)
  ·refine Z 4 rfl ?_
   obtain ⟨q7, hf8, q12, hf13, h⟩ := h
   refine st_draw 9 (dl [.v (v1), .v (.int .i64 s6), .t fun τ v => ∃ (b9 : Nat) (of10 : Nat) (vsb9 : List Value), (.pointer (some ⟨b9, of10, none⟩) : Value) = v ∧ CelN τ ⟨b9, of10, none⟩ vsb9 ∧ (kI .i64).rep τ vsb9 q7, .v (.int .i64 q7), .v (v3), .v (.int .i64 s6), .t fun τ v => ∃ (b14 : Nat) (of15 : Nat) (vsb14 : List Value), (.pointer (some ⟨b14, of15, none⟩) : Value) = v ∧ CelN τ ⟨b14, of15, none⟩ vsb14 ∧ (kI .i64).rep τ vsb14 q12, .v (.int .i64 q12), .v (.bool (!(decide (q7 = q12))))]) (fun _ _ => []) z_mix rfl (dl_mono ⟨fun _ _ _ hl ⟨b9, of10, vsb9, hv, hc11, hrepb9⟩ => ⟨b9, of10, vsb9, hv, hc11.up hl, Kd.mono _ hl hrepb9⟩, ⟨fun _ _ _ hl ⟨b14, of15, vsb14, hv, hc16, hrepb14⟩ => ⟨b14, of15, vsb14, hv, hc16.up hl, Kd.mono _ hl hrepb14⟩, trivial⟩⟩) (allB_cons (allB_cons (allB_cons (allB_cons (allB_cons (allB_cons (allB_cons (allB_cons (allB_cons allB_nil (p1 dA)) (p1 dA)) ?_) ?_) (p1 dA)) (p1 dA)) ?_) ?_) (p1 dA)) ?_
   ·intro ρ' τ pool rs hl hd hout hk
    obtain ⟨_, e0, rfl⟩ := hd 0 rfl
    obtain ⟨_, e1, rfl⟩ := hd 1 rfl
    refine o_index rfl rfl rfl z_slT25 rfl e0 (hs2.up (hl6.trans hl)) e1 hf8 (fun b9 of10 vsb9 hc11 hrepb9 => ?_)
    exact st_addNil (hk _ _ (Sto.Le.refl _) ⟨b9, of10, _, rfl, hc11, hrepb9⟩)
   ·intro ρ' τ pool rs hl hd hout hk
    obtain ⟨_, e2, b9, of10, vsb9, rfl, hc11, hrepb9⟩ := hd 2 rfl
    have hrepb9 := hrepb9
    obtain rfl := hrepb9
    refine o_loadI (v := .int .i64 q7) rfl rfl rfl z_sc3 e2 (hc11 0 _ rfl) ?_
    exact st_addNil (hk _ _ (Sto.Le.refl _) rfl)
   ·intro ρ' τ pool rs hl hd hout hk
    obtain ⟨_, e4, rfl⟩ := hd 4 rfl
    obtain ⟨_, e5, rfl⟩ := hd 5 rfl
    refine o_index rfl rfl rfl z_slT25 rfl e4 (hs4.up (hl6.trans hl)) e5 hf13 (fun b14 of15 vsb14 hc16 hrepb14 => ?_)
    exact st_addNil (hk _ _ (Sto.Le.refl _) ⟨b14, of15, _, rfl, hc16, hrepb14⟩)
   ·intro ρ' τ pool rs hl hd hout hk
    obtain ⟨_, e6, b14, of15, vsb14, rfl, hc16, hrepb14⟩ := hd 6 rfl
    have hrepb14 := hrepb14
    obtain rfl := hrepb14
    refine o_loadI (v := .int .i64 q12) rfl rfl rfl z_sc3 e6 (hc16 0 _ rfl) ?_
    exact st_addNil (hk _ _ (Sto.Le.refl _) rfl)
   intro ρ' τ17 vals hl17 hv hout
   refine st_ord [] _ rfl ?_
   refine st_env (ρ' := [(25, .bool (!(decide (q7 = q12)))), (0, v1), (1, v3), (4, .bool false), (5, .int .i64 s6)]) ⟨(lv1 hv 8 rfl rfl), (hout 0 rfl).trans rfl, (hout 1 rfl).trans rfl, (hout 4 rfl).trans rfl, (hout 5 rfl).trans rfl, trivial⟩ ?_
   refine st_end ?_
   refine st_if rfl h (fun h => ?_) (fun h => ?_)
   ·refine Z 4 rfl ?_
    obtain rfl := he6 _ h
    replace h := hA6
    obtain rfl := Eq.symm h
    exact st_ret (gs' := []) Tryd.func61 rfl (List.Sublist.refl _) (hl6.trans hl17) ⟨rfl, rfl⟩
   ·refine Z 7 rfl ?_
    exact hn6 _ _ _ _ h ⟨(hl6.trans hl17), rfl, rfl⟩
  ·refine st_exit rfl ?_
   obtain rfl := he6 _ h
   replace h := hA6
   exact hk5 _ _ _ ⟨(), h, hl6, rfl, rfl⟩
theorem ref17_Same_ok {a0 : Int × List Int × List (List Int) × List Int × ByteArray × ByteArray} {a1 : Int × List Int × List (List Int) × List Int × ByteArray × ByteArray} {v1 : Value} {v2 : Value} {v5 : Value} {v6 : Value} {r : Bool} (h : ref17_Same a0 a1 r) (σ : Sto) (hs3 : Sl (kA .i64 2) σ v1 a0.2.2.1) (hs4 : Sl (kI .i64) σ v2 a0.2.2.2.1) (hs7 : Sl (kA .i64 2) σ v5 a1.2.2.1) (hs8 : Sl (kI .i64) σ v6 a1.2.2.2.1) :
    Does Tryd.prog 38 [.agg [.int .i64 a0.1, .int .i64 (a0.2.1.getD 0 0), .int .i64 (a0.2.1.getD 1 0), .int .i64 (a0.2.1.getD 2 0), .int .i64 (a0.2.1.getD 3 0), .int .i64 (a0.2.1.getD 4 0), .int .i64 (a0.2.1.getD 5 0), v1, v2, .string a0.2.2.2.2.1, .string a0.2.2.2.2.2].toArray, .agg [.int .i64 a1.1, .int .i64 (a1.2.1.getD 0 0), .int .i64 (a1.2.1.getD 1 0), .int .i64 (a1.2.1.getD 2 0), .int .i64 (a1.2.1.getD 3 0), .int .i64 (a1.2.1.getD 4 0), .int .i64 (a1.2.1.getD 5 0), v5, v6, .string a1.2.2.2.2.1, .string a1.2.2.2.2.2].toArray] σ [] (fun v τ gs => gs = [] ∧ .bool r = v) := by
 refine call_of Tryd.func38 Tryd.ntmps38 rfl rfl (fun cs fs => ?_)
 refine Z 2 rfl ?_
 refine o_box (cs := [.int .i64 a0.1, .int .i64 (a0.2.1.getD 0 0), .int .i64 (a0.2.1.getD 1 0), .int .i64 (a0.2.1.getD 2 0), .int .i64 (a0.2.1.getD 3 0), .int .i64 (a0.2.1.getD 4 0), .int .i64 (a0.2.1.getD 5 0), v1, v2, .string a0.2.2.2.2.1, .string a0.2.2.2.2.2]) rfl rfl rfl rfl rfl (fun b9 => ?_)
 refine o_box (cs := [.int .i64 a1.1, .int .i64 (a1.2.1.getD 0 0), .int .i64 (a1.2.1.getD 1 0), .int .i64 (a1.2.1.getD 2 0), .int .i64 (a1.2.1.getD 3 0), .int .i64 (a1.2.1.getD 4 0), .int .i64 (a1.2.1.getD 5 0), v5, v6, .string a1.2.2.2.2.1, .string a1.2.2.2.2.2]) rfl rfl rfl rfl rfl (fun b10 => ?_)
 refine Z 4 rfl ?_
 refine st_cut (fun ρ τ11 gs => ∃ (s11 : Bool), ref17_Same_j1 a0 a1 s11 r ∧ σ.Le τ11 ∧ ESub ρ [(2, .pointer (some ⟨b9, 0, none⟩)), (3, .pointer (some ⟨b10, 0, none⟩)), (4, .bool false), (48, .bool s11)] ∧ gs = [[(b9, .cells #[.int .i64 a0.1, .int .i64 (a0.2.1.getD 0 0), .int .i64 (a0.2.1.getD 1 0), .int .i64 (a0.2.1.getD 2 0), .int .i64 (a0.2.1.getD 3 0), .int .i64 (a0.2.1.getD 4 0), .int .i64 (a0.2.1.getD 5 0), v1, v2, .string a0.2.2.2.2.1, .string a0.2.2.2.2.2] 35 (0, 0))], [(b10, .cells #[.int .i64 a1.1, .int .i64 (a1.2.1.getD 0 0), .int .i64 (a1.2.1.getD 1 0), .int .i64 (a1.2.1.getD 2 0), .int .i64 (a1.2.1.getD 3 0), .int .i64 (a1.2.1.getD 4 0), .int .i64 (a1.2.1.getD 5 0), v5, v6, .string a1.2.2.2.2.1, .string a1.2.2.2.2.2] 35 (0, 0))]]) ?_ (fun hk11 => ?_)
 ·rintro ρ11 τ11 gs11 ⟨s11, h, hl11, hρ, rfl⟩
  refine st_es hρ ?_
  refine st_if rfl h (fun h => ?_) (fun h => ?_)
  ·refine Z 4 rfl ?_
   refine st_ord [] _ rfl ?_
   obtain rfl := Eq.symm h
   exact st_ret (gs' := []) Tryd.func38 rfl (List.Sublist.refl _) hl11 ⟨rfl, rfl⟩
  ·refine Z 2 rfl ?_
   refine st_cut (fun ρ τ12 gs => ∃ (s12 : Unit), ref17_Same_j2 s12 r ∧ τ11.Le τ12 ∧ ESub ρ [(4, .bool false)] ∧ gs = []) ?_ (fun hk12 => ?_)
   ·rintro ρ12 τ12 gs12 ⟨s12, h, hl12, hρ, rfl⟩
    refine st_es hρ ?_
    refine Z 4 rfl ?_
    obtain rfl := Eq.symm h
    exact st_ret (gs' := []) Tryd.func38 rfl (List.Sublist.refl _) (hl11.trans hl12) ⟨rfl, rfl⟩
   refine Z 4 rfl ?_
   obtain ⟨e13, hL13, hA13⟩ := h
   refine st_loop hL13 (fun (s13 : Int) ρ τ13 gs => τ11.Le τ13 ∧ ESub ρ [(2, .pointer (some ⟨b9, 0, none⟩)), (3, .pointer (some ⟨b10, 0, none⟩)), (4, .bool false), (5, .int .i64 s13)] ∧ gs = [[(b9, .cells #[.int .i64 a0.1, .int .i64 (a0.2.1.getD 0 0), .int .i64 (a0.2.1.getD 1 0), .int .i64 (a0.2.1.getD 2 0), .int .i64 (a0.2.1.getD 3 0), .int .i64 (a0.2.1.getD 4 0), .int .i64 (a0.2.1.getD 5 0), v1, v2, .string a0.2.2.2.2.1, .string a0.2.2.2.2.2] 35 (0, 0))], [(b10, .cells #[.int .i64 a1.1, .int .i64 (a1.2.1.getD 0 0), .int .i64 (a1.2.1.getD 1 0), .int .i64 (a1.2.1.getD 2 0), .int .i64 (a1.2.1.getD 3 0), .int .i64 (a1.2.1.getD 4 0), .int .i64 (a1.2.1.getD 5 0), v5, v6, .string a1.2.2.2.2.1, .string a1.2.2.2.2.2] 35 (0, 0))]]) ⟨Sto.Le.refl _, rfl, rfl⟩ ?_
   rintro s13 o13 h he13 ρ13 τ13 gs13 ⟨hl13, hρ, rfl⟩ hn13
   refine st_es hρ ?_
   refine ZZ 6 [0] rfl rfl ?_
   refine o_lenI rfl rfl rfl z_slT33 rfl (hs3.up (hl11.trans hl13)) ?_
   refine Z 2 rfl ?_
   refine st_if rfl h (fun h => ?_) (fun h => ?_)
   ·refine Z 4 rfl ?_
    obtain ⟨q14, hf15, q19, hf20, h⟩ := h
    refine st_draw 11 (dl [.v (.pointer (some ⟨b9, 7, none⟩)), .v (v1), .v (.int .i64 s13), .t fun τ v => ∃ (b16 : Nat) (of17 : Nat) (vsb16 : List Value), (.pointer (some ⟨b16, of17, none⟩) : Value) = v ∧ CelN τ ⟨b16, of17, none⟩ vsb16 ∧ (kA .i64 2).rep τ vsb16 q14, .v (.agg #[.int .i64 (q14.getD 0 0), .int .i64 (q14.getD 1 0)]), .v (.pointer (some ⟨b10, 7, none⟩)), .v (v5), .v (.int .i64 s13), .t fun τ v => ∃ (b21 : Nat) (of22 : Nat) (vsb21 : List Value), (.pointer (some ⟨b21, of22, none⟩) : Value) = v ∧ CelN τ ⟨b21, of22, none⟩ vsb21 ∧ (kA .i64 2).rep τ vsb21 q19, .v (.agg #[.int .i64 (q19.getD 0 0), .int .i64 (q19.getD 1 0)]), .v (.bool (!(eqN 2 0 q14 q19)))]) (fun _ _ => []) z_mix rfl (dl_mono ⟨fun _ _ _ hl ⟨b16, of17, vsb16, hv, hc18, hrepb16⟩ => ⟨b16, of17, vsb16, hv, hc18.up hl, Kd.mono _ hl hrepb16⟩, ⟨fun _ _ _ hl ⟨b21, of22, vsb21, hv, hc23, hrepb21⟩ => ⟨b21, of22, vsb21, hv, hc23.up hl, Kd.mono _ hl hrepb21⟩, trivial⟩⟩) (allB_cons (allB_cons (allB_cons (allB_cons (allB_cons (allB_cons (allB_cons (allB_cons (allB_cons (allB_cons (allB_cons allB_nil (p1 dA)) ?_) (p1 dA)) ?_) ?_) (p1 dA)) ?_) (p1 dA)) ?_) ?_) ?_) ?_
    ·intro ρ' τ pool rs hl hd hout hk
     obtain ⟨_, e0, rfl⟩ := hd 0 rfl
     refine o_load (j := 0) (v := v1) rfl rfl rfl z_sc33 e0 rfl rfl ?_
     exact st_addNil (hk _ _ (Sto.Le.refl _) rfl)
    ·intro ρ' τ pool rs hl hd hout hk
     obtain ⟨_, e1, rfl⟩ := hd 1 rfl
     obtain ⟨_, e2, rfl⟩ := hd 2 rfl
     refine o_index rfl rfl rfl z_slT33 rfl e1 (hs3.up ((hl11.trans hl13).trans hl)) e2 hf15 (fun b16 of17 vsb16 hc18 hrepb16 => ?_)
     exact st_addNil (hk _ _ (Sto.Le.refl _) ⟨b16, of17, _, rfl, hc18, hrepb16⟩)
    ·intro ρ' τ pool rs hl hd hout hk
     obtain ⟨_, e3, b16, of17, vsb16, rfl, hc18, hrepb16⟩ := hd 3 rfl
     have hrepb16 := hrepb16
     obtain rfl := hrepb16
     refine o_loadIN (vs := [.int .i64 (q14.getD 0 0), .int .i64 (q14.getD 1 0)]) rfl rfl rfl z_agg71 e3 rfl (celn_part 0 rfl hc18) ?_
     exact st_addNil (hk _ _ (Sto.Le.refl _) rfl)
    ·intro ρ' τ pool rs hl hd hout hk
     obtain ⟨_, e5, rfl⟩ := hd 5 rfl
     refine o_load (j := 1) (v := v5) rfl rfl rfl z_sc33 e5 rfl rfl ?_
     exact st_addNil (hk _ _ (Sto.Le.refl _) rfl)
    ·intro ρ' τ pool rs hl hd hout hk
     obtain ⟨_, e6, rfl⟩ := hd 6 rfl
     obtain ⟨_, e7, rfl⟩ := hd 7 rfl
     refine o_index rfl rfl rfl z_slT33 rfl e6 (hs7.up ((hl11.trans hl13).trans hl)) e7 hf20 (fun b21 of22 vsb21 hc23 hrepb21 => ?_)
     exact st_addNil (hk _ _ (Sto.Le.refl _) ⟨b21, of22, _, rfl, hc23, hrepb21⟩)
    ·intro ρ' τ pool rs hl hd hout hk
     obtain ⟨_, e8, b21, of22, vsb21, rfl, hc23, hrepb21⟩ := hd 8 rfl
     have hrepb21 := hrepb21
     obtain rfl := hrepb21
     refine o_loadIN (vs := [.int .i64 (q19.getD 0 0), .int .i64 (q19.getD 1 0)]) rfl rfl rfl z_agg71 e8 rfl (celn_part 0 rfl hc23) ?_
     exact st_addNil (hk _ _ (Sto.Le.refl _) rfl)
    ·intro ρ' τ pool rs hl hd hout hk
     obtain ⟨_, e4, rfl⟩ := hd 4 rfl
     obtain ⟨_, e9, rfl⟩ := hd 9 rfl
     refine o_aggEq (b := (eqN 2 0 q14 q19)) (e := (!(eqN 2 0 q14 q19))) rfl rfl rfl z_eqg71 e4 e9 (fun w => by exact eq_arr (xs := q14) (ys := q19) Tryd.underlying71 Tryd.underlying3 z_info3 z_cell3) rfl ?_
     exact st_addNil (hk _ _ (Sto.Le.refl _) rfl)
    intro ρ' τ24 vals hl24 hv hout
    refine st_ord [0, 0] _ rfl ?_
    refine st_env (ρ' := [(66, .bool (!(eqN 2 0 q14 q19))), (2, .pointer (some ⟨b9, 0, none⟩)), (3, .pointer (some ⟨b10, 0, none⟩)), (4, .bool false), (5, .int .i64 s13)]) ⟨(lv1 hv 10 rfl rfl), (hout 2 rfl).trans rfl, (hout 3 rfl).trans rfl, (hout 4 rfl).trans rfl, (hout 5 rfl).trans rfl, trivial⟩ ?_
    refine st_end ?_
    refine st_if rfl h (fun h => ?_) (fun h => ?_)
    ·refine Z 4 rfl ?_
     refine st_ord [] _ rfl ?_
     obtain rfl := he13 _ h
     replace h := hA13
     obtain rfl := Eq.symm h
     exact st_ret (gs' := []) Tryd.func38 rfl (List.Sublist.refl _) ((hl11.trans hl13).trans hl24) ⟨rfl, rfl⟩
    ·refine Z 7 rfl ?_
     exact hn13 _ _ _ _ h ⟨(hl13.trans hl24), rfl, rfl⟩
   ·refine st_exit rfl ?_
    obtain rfl := he13 _ h
    replace h := hA13
    refine st_ord [] _ rfl ?_
    exact hk12 _ _ _ ⟨(), h, hl13, rfl, rfl⟩
 refine ZZ 6 [1, 0] rfl rfl ?_
 refine o_mif rfl rfl rfl rfl h (fun h => ?_) (fun h => ?_)
 ·refine Z 38 rfl ?_
  refine st_ord [1, 0] _ rfl ?_
  exact hk11 _ _ _ ⟨true, h, (Sto.Le.refl _), rfl, rfl⟩
 ·refine ZZ 4 [1, 0] rfl rfl ?_
  refine o_aggEq (b := (eqN 6 0 a0.2.1 a1.2.1)) (e := (!(eqN 6 0 a0.2.1 a1.2.1))) rfl rfl rfl z_eqg23 rfl rfl (fun w => by exact eq_arr (xs := a0.2.1) (ys := a1.2.1) Tryd.underlying23 Tryd.underlying3 z_info3 z_cell3) rfl ?_
  refine o_pick rfl rfl rfl rfl rfl ?_
  refine o_mif rfl rfl rfl rfl h (fun h => ?_) (fun h => ?_)
  ·refine Z 31 rfl ?_
   refine st_ord [1, 0] _ rfl ?_
   exact hk11 _ _ _ ⟨true, h, (Sto.Le.refl _), rfl, rfl⟩
  ·refine ZZ 2 [1] rfl rfl ?_
   refine o_lenI rfl rfl rfl z_slT33 rfl hs3 ?_
   refine ZZ 2 [0] rfl rfl ?_
   refine o_lenI rfl rfl rfl z_slT33 rfl hs7 ?_
   refine Z 2 rfl ?_
   refine o_mif rfl rfl rfl rfl h (fun h => ?_) (fun h => ?_)
   ·refine Z 22 rfl ?_
    refine st_ord [1, 0] _ rfl ?_
    exact hk11 _ _ _ ⟨true, h, (Sto.Le.refl _), rfl, rfl⟩
   ·refine ZZ 4 [1, 0] rfl rfl ?_
    obtain ⟨r27, hr28, h⟩ := h
    refine st_call (foot := []) rfl rfl rfl rfl rfl rfl (callV_fn z_en61 (ref01_Ints_ok hr28 σ hs4 hs8)) ?_
    rintro vτ29 τ29 gsτ29 hl30 ⟨rfl, rfl⟩
    refine Z 2 rfl ?_
    refine o_mif rfl rfl rfl rfl h (fun h => ?_) (fun h => ?_)
    ·refine Z 14 rfl ?_
     refine st_ord [1, 0] _ rfl ?_
     exact hk11 _ _ _ ⟨true, h, hl30, rfl, rfl⟩
    ·refine ZZ 6 [1, 0] rfl rfl ?_
     refine o_mif rfl rfl rfl rfl h (fun h => ?_) (fun h => ?_)
     ·refine Z 7 rfl ?_
      refine st_ord [1, 0] _ rfl ?_
      exact hk11 _ _ _ ⟨true, h, hl30, rfl, rfl⟩
     ·refine ZZ 7 [1, 0] rfl rfl ?_
      refine st_ord [1, 0] _ rfl ?_
      exact hk11 _ _ _ ⟨(!(decide (a0.2.2.2.2.2 = a1.2.2.2.2.2))), h, hl30, rfl, rfl⟩
theorem ref23_Same_ok {a0 : Int × Int × Int × Int × (Int × List Int × List (List Int) × List Int × ByteArray × ByteArray)} {a1 : Int × Int × Int × Int × (Int × List Int × List (List Int) × List Int × ByteArray × ByteArray)} {v1 : Value} {v2 : Value} {v5 : Value} {v6 : Value} {r : Bool} (h : ref23_Same a0 a1 r) (σ : Sto) (hs3 : Sl (kA .i64 2) σ v1 a0.2.2.2.2.2.2.1) (hs4 : Sl (kI .i64) σ v2 a0.2.2.2.2.2.2.2.1) (hs7 : Sl (kA .i64 2) σ v5 a1.2.2.2.2.2.2.1) (hs8 : Sl (kI .i64) σ v6 a1.2.2.2.2.2.2.2.1) :
    Does Tryd.prog 11 [.agg [.int .i64 a0.1, .int .u32 a0.2.1, .int .i64 a0.2.2.1, .int .i64 a0.2.2.2.1, .int .i64 a0.2.2.2.2.1, .int .i64 (a0.2.2.2.2.2.1.getD 0 0), .int .i64 (a0.2.2.2.2.2.1.getD 1 0), .int .i64 (a0.2.2.2.2.2.1.getD 2 0), .int .i64 (a0.2.2.2.2.2.1.getD 3 0), .int .i64 (a0.2.2.2.2.2.1.getD 4 0), .int .i64 (a0.2.2.2.2.2.1.getD 5 0), v1, v2, .string a0.2.2.2.2.2.2.2.2.1, .string a0.2.2.2.2.2.2.2.2.2].toArray, .agg [.int .i64 a1.1, .int .u32 a1.2.1, .int .i64 a1.2.2.1, .int .i64 a1.2.2.2.1, .int .i64 a1.2.2.2.2.1, .int .i64 (a1.2.2.2.2.2.1.getD 0 0), .int .i64 (a1.2.2.2.2.2.1.getD 1 0), .int .i64 (a1.2.2.2.2.2.1.getD 2 0), .int .i64 (a1.2.2.2.2.2.1.getD 3 0), .int .i64 (a1.2.2.2.2.2.1.getD 4 0), .int .i64 (a1.2.2.2.2.2.1.getD 5 0), v5, v6, .string a1.2.2.2.2.2.2.2.2.1, .string a1.2.2.2.2.2.2.2.2.2].toArray] σ [] (fun v τ gs => gs = [] ∧ .bool r = v) := by
 refine call_of Tryd.func11 Tryd.ntmps11 rfl rfl (fun cs fs => ?_)
 refine Z 2 rfl ?_
 refine o_box (cs := [.int .i64 a0.1, .int .u32 a0.2.1, .int .i64 a0.2.2.1, .int .i64 a0.2.2.2.1, .int .i64 a0.2.2.2.2.1, .int .i64 (a0.2.2.2.2.2.1.getD 0 0), .int .i64 (a0.2.2.2.2.2.1.getD 1 0), .int .i64 (a0.2.2.2.2.2.1.getD 2 0), .int .i64 (a0.2.2.2.2.2.1.getD 3 0), .int .i64 (a0.2.2.2.2.2.1.getD 4 0), .int .i64 (a0.2.2.2.2.2.1.getD 5 0), v1, v2, .string a0.2.2.2.2.2.2.2.2.1, .string a0.2.2.2.2.2.2.2.2.2]) rfl rfl rfl rfl rfl (fun b9 => ?_)
 refine o_box (cs := [.int .i64 a1.1, .int .u32 a1.2.1, .int .i64 a1.2.2.1, .int .i64 a1.2.2.2.1, .int .i64 a1.2.2.2.2.1, .int .i64 (a1.2.2.2.2.2.1.getD 0 0), .int .i64 (a1.2.2.2.2.2.1.getD 1 0), .int .i64 (a1.2.2.2.2.2.1.getD 2 0), .int .i64 (a1.2.2.2.2.2.1.getD 3 0), .int .i64 (a1.2.2.2.2.2.1.getD 4 0), .int .i64 (a1.2.2.2.2.2.1.getD 5 0), v5, v6, .string a1.2.2.2.2.2.2.2.2.1, .string a1.2.2.2.2.2.2.2.2.2]) rfl rfl rfl rfl rfl (fun b10 => ?_)
 refine Z 3 rfl ?_
 refine st_cut (fun ρ τ11 gs => ∃ (s11 : Bool), ref23_Same_j1 s11 r ∧ σ.Le τ11 ∧ ESub ρ [(4, .bool s11)] ∧ gs = []) ?_ (fun hk11 => ?_)
 ·rintro ρ11 τ11 gs11 ⟨s11, h, hl11, hρ, rfl⟩
  refine st_es hρ ?_
  obtain rfl := Eq.symm h
  exact st_ret (gs' := []) Tryd.func11 rfl (List.Sublist.refl _) hl11 ⟨rfl, rfl⟩
 refine ZZ 6 [1, 0] rfl rfl ?_
 refine o_mif rfl rfl rfl rfl h (fun h => ?_) (fun h => ?_)
 ·refine ZZ 6 [1, 0] rfl rfl ?_
  refine o_mif rfl rfl rfl rfl h (fun h => ?_) (fun h => ?_)
  ·refine ZZ 6 [1, 0] rfl rfl ?_
   refine o_mif rfl rfl rfl rfl h (fun h => ?_) (fun h => ?_)
   ·refine ZZ 6 [1, 0] rfl rfl ?_
    refine o_mif rfl rfl rfl rfl h (fun h => ?_) (fun h => ?_)
    ·refine ZZ 4 [1, 0] rfl rfl ?_
     obtain ⟨r12, hr13, h⟩ := h
     refine st_call (foot := []) rfl rfl rfl rfl rfl rfl (callV_fn z_en38 (ref17_Same_ok hr13 σ hs3 hs4 hs7 hs8)) ?_
     rintro vτ14 τ14 gsτ14 hl15 ⟨rfl, rfl⟩
     refine Z 3 rfl ?_
     refine st_ord [] _ rfl ?_
     exact hk11 _ _ _ ⟨r12, h, hl15, rfl, rfl⟩
    ·refine Z 8 rfl ?_
     refine st_ord [] _ rfl ?_
     exact hk11 _ _ _ ⟨false, h, (Sto.Le.refl _), rfl, rfl⟩
   ·refine Z 15 rfl ?_
    refine st_ord [] _ rfl ?_
    exact hk11 _ _ _ ⟨false, h, (Sto.Le.refl _), rfl, rfl⟩
  ·refine Z 22 rfl ?_
   refine st_ord [] _ rfl ?_
   exact hk11 _ _ _ ⟨false, h, (Sto.Le.refl _), rfl, rfl⟩
 ·refine Z 29 rfl ?_
  refine st_ord [] _ rfl ?_
  exact hk11 _ _ _ ⟨false, h, (Sto.Le.refl _), rfl, rfl⟩
theorem strconv_Itoa_ok {a0 : Int} {r : ByteArray} (h : strconv_Itoa a0 r) (σ : Sto) (hT : Tab Tryd.prog σ) :
    Does Tryd.prog 66 [.int .i64 a0] σ [] (fun v τ gs => gs = [] ∧ .string r = v) := by
 obtain ⟨hk, rfl⟩ := h
 rw [itoa_lib]
 exact does_grow fun w hw => Tryd.strconv_Itoa a0 (i64_lo hk) (i64_hi hk) w (hT w hw)
theorem say_Number_ok {a0 : Int} {r : ByteArray} (h : say_Number a0 r) (σ : Sto) (hT : Tab Tryd.prog σ) :
    Does Tryd.prog 45 [.int .i64 a0] σ [] (fun v τ gs => gs = [] ∧ .string r = v) := by
 refine call_of Tryd.func45 Tryd.ntmps45 rfl rfl (fun cs fs => ?_)
 refine Z 2 rfl ?_
 refine o_assign rfl rfl rfl (ev_str z_str0) ?_
 refine Z 4 rfl ?_
 obtain ⟨r1, hr2, h⟩ := h
 refine st_call (foot := []) rfl rfl rfl rfl rfl rfl (callV_fn z_en66 (strconv_Itoa_ok hr2 σ hT)) ?_
 rintro vτ3 τ3 gsτ3 hl4 ⟨rfl, rfl⟩
 refine Z 2 rfl ?_
 obtain rfl := Eq.symm h
 exact st_ret (gs' := []) Tryd.func45 rfl (List.Sublist.refl _) hl4 ⟨rfl, rfl⟩
theorem field_robot_ok  {r : (ByteArray × Int × Int × Int × Int × Int × Int)} (h : field_robot r) (σ : Sto)  :
    Does Tryd.prog 87 [] σ [] (fun v τ gs => gs = [] ∧ .agg [.string r.1, .int .i64 r.2.1, .int .i64 r.2.2.1, .int .i64 r.2.2.2.1, .int .i64 r.2.2.2.2.1, .int .i64 r.2.2.2.2.2.1, .int .i64 r.2.2.2.2.2.2].toArray = v) := by
 refine call_of Tryd.func87 Tryd.ntmps87 rfl rfl (fun cs fs => ?_)
 refine Z 2 rfl ?_
 refine o_alloc rfl rfl rfl z_zero126 (fun b1 => ?_)
 refine Z 3 rfl ?_
 refine o_build (ps := [(0, [.string (bstr [114, 111, 98, 111, 116])]), (1, [.int .i64 1]), (2, [.int .i64 0]), (3, [.int .i64 0]), (4, [.int .i64 65535]), (5, [.int .i64 1]), (6, [.int .i64 0])]) (cs := [.string (bstr [114, 111, 98, 111, 116]), .int .i64 1, .int .i64 0, .int .i64 0, .int .i64 65535, .int .i64 1, .int .i64 0]) rfl rfl rfl z_struct126 ⟨rfl, ⟨_, (ev_str z_str4), rfl⟩, ⟨rfl, ⟨_, rfl, rfl⟩, ⟨rfl, ⟨_, rfl, rfl⟩, ⟨rfl, ⟨_, rfl, rfl⟩, ⟨rfl, ⟨_, rfl, rfl⟩, ⟨rfl, ⟨_, rfl, rfl⟩, ⟨rfl, ⟨_, rfl, rfl⟩, trivial⟩⟩⟩⟩⟩⟩⟩ rfl ?_
 refine ZZ 2 [0] rfl rfl ?_
 obtain rfl := Eq.symm h
 exact st_retC (gs' := []) [.agg #[.string (bstr [114, 111, 98, 111, 116]), .int .i64 1, .int .i64 0, .int .i64 0, .int .i64 65535, .int .i64 1, .int .i64 0]] Tryd.func87 ⟨⟨_, _, _, _, rfl, mem_flat 0 rfl, fun w hw => cellOfN (vs := [.string (bstr [114, 111, 98, 111, 116]), .int .i64 1, .int .i64 0, .int .i64 0, .int .i64 65535, .int .i64 1, .int .i64 0]) z_agg126 rfl w hw⟩, trivial⟩ (by simp) (Sto.Le.refl _) ⟨rfl, rfl⟩
theorem field_Of_ok {a0 : Int} {r : (List (ByteArray × Int × Int × Int × Int × Int × Int))} (h : field_Of a0 r) (σ : Sto)  :
    Does Tryd.prog 69 [.int .i64 a0] σ [] (fun v τ gs => ∃ (v61 : Value), gs = [] ∧ v61 = v ∧ Sl (kP kS (kP (kI .i64) (kP (kI .i64) (kP (kI .i64) (kP (kI .i64) (kP (kI .i64) (kI .i64))))))) τ v61 r) := by
 refine call_of Tryd.func69 Tryd.ntmps69 rfl rfl (fun cs fs => ?_)
 refine Z 15 rfl ?_
 refine st_if rfl h (fun h => ?_) (fun h => ?_)
 ·refine Z 2 rfl ?_
  obtain ⟨r1, hr2, h⟩ := h
  refine st_call (foot := []) rfl rfl rfl rfl rfl rfl (callV_fn z_en87 (field_robot_ok hr2 σ)) ?_
  rintro vτ3 τ3 gsτ3 hl4 ⟨rfl, rfl⟩
  refine o_build (ps := [(0, [.string (bstr [115, 112, 101, 101, 100])]), (1, [.int .i64 1]), (2, [.int .i64 1]), (3, [.int .i64 1]), (4, [.int .i64 5000]), (5, [.int .i64 1]), (6, [.int .i64 0])]) (cs := [.string (bstr [115, 112, 101, 101, 100]), .int .i64 1, .int .i64 1, .int .i64 1, .int .i64 5000, .int .i64 1, .int .i64 0]) rfl rfl rfl z_struct126 ⟨rfl, ⟨_, (ev_str z_str5), rfl⟩, ⟨rfl, ⟨_, rfl, rfl⟩, ⟨rfl, ⟨_, rfl, rfl⟩, ⟨rfl, ⟨_, rfl, rfl⟩, ⟨rfl, ⟨_, rfl, rfl⟩, ⟨rfl, ⟨_, rfl, rfl⟩, ⟨rfl, ⟨_, rfl, rfl⟩, trivial⟩⟩⟩⟩⟩⟩⟩ rfl ?_
  refine o_build (ps := [(0, [.string (bstr [97, 99, 99, 101, 108])]), (1, [.int .i64 1]), (2, [.int .i64 2]), (3, [.int .i64 1]), (4, [.int .i64 10000]), (5, [.int .i64 2]), (6, [.int .i64 500])]) (cs := [.string (bstr [97, 99, 99, 101, 108]), .int .i64 1, .int .i64 2, .int .i64 1, .int .i64 10000, .int .i64 2, .int .i64 500]) rfl rfl rfl z_struct126 ⟨rfl, ⟨_, (ev_str z_str6), rfl⟩, ⟨rfl, ⟨_, rfl, rfl⟩, ⟨rfl, ⟨_, rfl, rfl⟩, ⟨rfl, ⟨_, rfl, rfl⟩, ⟨rfl, ⟨_, rfl, rfl⟩, ⟨rfl, ⟨_, rfl, rfl⟩, ⟨rfl, ⟨_, rfl, rfl⟩, trivial⟩⟩⟩⟩⟩⟩⟩ rfl ?_
  refine o_build (ps := [(0, [.string (bstr [112, 97, 116, 104])]), (1, [.int .i64 3]), (2, [.int .i64 (-1)]), (3, [.int .i64 1]), (4, [.int .i64 16]), (5, [.int .i64 1]), (6, [.int .i64 0])]) (cs := [.string (bstr [112, 97, 116, 104]), .int .i64 3, .int .i64 (-1), .int .i64 1, .int .i64 16, .int .i64 1, .int .i64 0]) rfl rfl rfl z_struct126 ⟨rfl, ⟨_, (ev_str z_str7), rfl⟩, ⟨rfl, ⟨_, rfl, rfl⟩, ⟨rfl, ⟨_, rfl, rfl⟩, ⟨rfl, ⟨_, rfl, rfl⟩, ⟨rfl, ⟨_, rfl, rfl⟩, ⟨rfl, ⟨_, rfl, rfl⟩, ⟨rfl, ⟨_, rfl, rfl⟩, trivial⟩⟩⟩⟩⟩⟩⟩ rfl ?_
  refine o_build (ps := [(0, [.string (bstr [116, 97, 103])]), (1, [.int .i64 6]), (2, [.int .i64 (-1)]), (3, [.int .i64 0]), (4, [.int .i64 16]), (5, [.int .i64 2]), (6, [.int .i64 0])]) (cs := [.string (bstr [116, 97, 103]), .int .i64 6, .int .i64 (-1), .int .i64 0, .int .i64 16, .int .i64 2, .int .i64 0]) rfl rfl rfl z_struct126 ⟨rfl, ⟨_, (ev_str z_str8), rfl⟩, ⟨rfl, ⟨_, rfl, rfl⟩, ⟨rfl, ⟨_, rfl, rfl⟩, ⟨rfl, ⟨_, rfl, rfl⟩, ⟨rfl, ⟨_, rfl, rfl⟩, ⟨rfl, ⟨_, rfl, rfl⟩, ⟨rfl, ⟨_, rfl, rfl⟩, trivial⟩⟩⟩⟩⟩⟩⟩ rfl ?_
  refine o_litE (eP eS (eP (eI .i64) (eP (eI .i64) (eP (eI .i64) (eP (eI .i64) (eP (eI .i64) (eI .i64))))))) [r1, ((bstr [115, 112, 101, 101, 100]), 1, 1, 1, 5000, 1, 0), ((bstr [97, 99, 99, 101, 108]), 1, 2, 1, 10000, 2, 500), ((bstr [112, 97, 116, 104]), 3, (-1), 1, 16, 1, 0), ((bstr [116, 97, 103]), 6, (-1), 0, 16, 2, 0)] rfl rfl rfl z_slT123 z_zero126 ⟨rfl, ⟨_, rfl, rfl⟩, ⟨rfl, ⟨_, rfl, rfl⟩, ⟨rfl, ⟨_, rfl, rfl⟩, ⟨rfl, ⟨_, rfl, rfl⟩, ⟨rfl, ⟨_, rfl, rfl⟩, trivial⟩⟩⟩⟩⟩ rfl rfl rfl rfl (fun v5 g6 ho7 => ?_)
  refine Z 2 rfl ?_
  refine st_freeze (fun τ8 hl9 hg10 => ?_)
  have hs11 := ho7.freeze hl9 hg10
  obtain rfl := Eq.symm h
  exact st_ret (gs' := []) Tryd.func69 rfl (List.Sublist.refl _) (hl4.trans hl9) ⟨_, rfl, rfl, hs11⟩
 ·refine Z 5 rfl ?_
  refine st_if rfl h (fun h => ?_) (fun h => ?_)
  ·refine Z 2 rfl ?_
   obtain ⟨r13, hr14, h⟩ := h
   refine st_call (foot := []) rfl rfl rfl rfl rfl rfl (callV_fn z_en87 (field_robot_ok hr14 σ)) ?_
   rintro vτ15 τ15 gsτ15 hl16 ⟨rfl, rfl⟩
   refine o_build (ps := [(0, [.string (bstr [114, 101, 97, 115, 111, 110])]), (1, [.int .i64 1]), (2, [.int .i64 1]), (3, [.int .i64 0]), (4, [.int .i64 15]), (5, [.int .i64 1]), (6, [.int .i64 0])]) (cs := [.string (bstr [114, 101, 97, 115, 111, 110]), .int .i64 1, .int .i64 1, .int .i64 0, .int .i64 15, .int .i64 1, .int .i64 0]) rfl rfl rfl z_struct126 ⟨rfl, ⟨_, (ev_str z_str9), rfl⟩, ⟨rfl, ⟨_, rfl, rfl⟩, ⟨rfl, ⟨_, rfl, rfl⟩, ⟨rfl, ⟨_, rfl, rfl⟩, ⟨rfl, ⟨_, rfl, rfl⟩, ⟨rfl, ⟨_, rfl, rfl⟩, ⟨rfl, ⟨_, rfl, rfl⟩, trivial⟩⟩⟩⟩⟩⟩⟩ rfl ?_
   refine o_build (ps := [(0, [.string (bstr [122, 111, 110, 101])]), (1, [.int .i64 1]), (2, [.int .i64 2]), (3, [.int .i64 0]), (4, [.int .i64 4095]), (5, [.int .i64 2]), (6, [.int .i64 0])]) (cs := [.string (bstr [122, 111, 110, 101]), .int .i64 1, .int .i64 2, .int .i64 0, .int .i64 4095, .int .i64 2, .int .i64 0]) rfl rfl rfl z_struct126 ⟨rfl, ⟨_, (ev_str z_str10), rfl⟩, ⟨rfl, ⟨_, rfl, rfl⟩, ⟨rfl, ⟨_, rfl, rfl⟩, ⟨rfl, ⟨_, rfl, rfl⟩, ⟨rfl, ⟨_, rfl, rfl⟩, ⟨rfl, ⟨_, rfl, rfl⟩, ⟨rfl, ⟨_, rfl, rfl⟩, trivial⟩⟩⟩⟩⟩⟩⟩ rfl ?_
   refine o_litE (eP eS (eP (eI .i64) (eP (eI .i64) (eP (eI .i64) (eP (eI .i64) (eP (eI .i64) (eI .i64))))))) [r13, ((bstr [114, 101, 97, 115, 111, 110]), 1, 1, 0, 15, 1, 0), ((bstr [122, 111, 110, 101]), 1, 2, 0, 4095, 2, 0)] rfl rfl rfl z_slT123 z_zero126 ⟨rfl, ⟨_, rfl, rfl⟩, ⟨rfl, ⟨_, rfl, rfl⟩, ⟨rfl, ⟨_, rfl, rfl⟩, trivial⟩⟩⟩ rfl rfl rfl rfl (fun v17 g18 ho19 => ?_)
   refine Z 2 rfl ?_
   refine st_freeze (fun τ20 hl21 hg22 => ?_)
   have hs23 := ho19.freeze hl21 hg22
   obtain rfl := Eq.symm h
   exact st_ret (gs' := []) Tryd.func69 rfl (List.Sublist.refl _) (hl16.trans hl21) ⟨_, rfl, rfl, hs23⟩
  ·refine Z 5 rfl ?_
   refine st_if rfl h (fun h => ?_) (fun h => ?_)
   ·refine Z 2 rfl ?_
    obtain ⟨r25, hr26, h⟩ := h
    refine st_call (foot := []) rfl rfl rfl rfl rfl rfl (callV_fn z_en87 (field_robot_ok hr26 σ)) ?_
    rintro vτ27 τ27 gsτ27 hl28 ⟨rfl, rfl⟩
    refine o_build (ps := [(0, [.string (bstr [122, 111, 110, 101])]), (1, [.int .i64 1]), (2, [.int .i64 1]), (3, [.int .i64 0]), (4, [.int .i64 4095]), (5, [.int .i64 1]), (6, [.int .i64 0])]) (cs := [.string (bstr [122, 111, 110, 101]), .int .i64 1, .int .i64 1, .int .i64 0, .int .i64 4095, .int .i64 1, .int .i64 0]) rfl rfl rfl z_struct126 ⟨rfl, ⟨_, (ev_str z_str10), rfl⟩, ⟨rfl, ⟨_, rfl, rfl⟩, ⟨rfl, ⟨_, rfl, rfl⟩, ⟨rfl, ⟨_, rfl, rfl⟩, ⟨rfl, ⟨_, rfl, rfl⟩, ⟨rfl, ⟨_, rfl, rfl⟩, ⟨rfl, ⟨_, rfl, rfl⟩, trivial⟩⟩⟩⟩⟩⟩⟩ rfl ?_
    refine o_build (ps := [(0, [.string (bstr [108, 101, 97, 115, 101])]), (1, [.int .i64 1]), (2, [.int .i64 2]), (3, [.int .i64 1]), (4, [.int .i64 255]), (5, [.int .i64 2]), (6, [.int .i64 1])]) (cs := [.string (bstr [108, 101, 97, 115, 101]), .int .i64 1, .int .i64 2, .int .i64 1, .int .i64 255, .int .i64 2, .int .i64 1]) rfl rfl rfl z_struct126 ⟨rfl, ⟨_, (ev_str z_str11), rfl⟩, ⟨rfl, ⟨_, rfl, rfl⟩, ⟨rfl, ⟨_, rfl, rfl⟩, ⟨rfl, ⟨_, rfl, rfl⟩, ⟨rfl, ⟨_, rfl, rfl⟩, ⟨rfl, ⟨_, rfl, rfl⟩, ⟨rfl, ⟨_, rfl, rfl⟩, trivial⟩⟩⟩⟩⟩⟩⟩ rfl ?_
    refine o_build (ps := [(0, [.string (bstr [99, 101, 108, 108, 115])]), (1, [.int .i64 4]), (2, [.int .i64 (-1)]), (3, [.int .i64 1]), (4, [.int .i64 32]), (5, [.int .i64 1]), (6, [.int .i64 0])]) (cs := [.string (bstr [99, 101, 108, 108, 115]), .int .i64 4, .int .i64 (-1), .int .i64 1, .int .i64 32, .int .i64 1, .int .i64 0]) rfl rfl rfl z_struct126 ⟨rfl, ⟨_, (ev_str z_str12), rfl⟩, ⟨rfl, ⟨_, rfl, rfl⟩, ⟨rfl, ⟨_, rfl, rfl⟩, ⟨rfl, ⟨_, rfl, rfl⟩, ⟨rfl, ⟨_, rfl, rfl⟩, ⟨rfl, ⟨_, rfl, rfl⟩, ⟨rfl, ⟨_, rfl, rfl⟩, trivial⟩⟩⟩⟩⟩⟩⟩ rfl ?_
    refine o_litE (eP eS (eP (eI .i64) (eP (eI .i64) (eP (eI .i64) (eP (eI .i64) (eP (eI .i64) (eI .i64))))))) [r25, ((bstr [122, 111, 110, 101]), 1, 1, 0, 4095, 1, 0), ((bstr [108, 101, 97, 115, 101]), 1, 2, 1, 255, 2, 1), ((bstr [99, 101, 108, 108, 115]), 4, (-1), 1, 32, 1, 0)] rfl rfl rfl z_slT123 z_zero126 ⟨rfl, ⟨_, rfl, rfl⟩, ⟨rfl, ⟨_, rfl, rfl⟩, ⟨rfl, ⟨_, rfl, rfl⟩, ⟨rfl, ⟨_, rfl, rfl⟩, trivial⟩⟩⟩⟩ rfl rfl rfl rfl (fun v29 g30 ho31 => ?_)
    refine Z 2 rfl ?_
    refine st_freeze (fun τ32 hl33 hg34 => ?_)
    have hs35 := ho31.freeze hl33 hg34
    obtain rfl := Eq.symm h
    exact st_ret (gs' := []) Tryd.func69 rfl (List.Sublist.refl _) (hl28.trans hl33) ⟨_, rfl, rfl, hs35⟩
   ·refine Z 5 rfl ?_
    refine st_if rfl h (fun h => ?_) (fun h => ?_)
    ·refine Z 2 rfl ?_
     obtain ⟨r37, hr38, h⟩ := h
     refine st_call (foot := []) rfl rfl rfl rfl rfl rfl (callV_fn z_en87 (field_robot_ok hr38 σ)) ?_
     rintro vτ39 τ39 gsτ39 hl40 ⟨rfl, rfl⟩
     refine o_build (ps := [(0, [.string (bstr [120])]), (1, [.int .i64 2]), (2, [.int .i64 1]), (3, [.int .i64 (-1000000)]), (4, [.int .i64 1000000]), (5, [.int .i64 1]), (6, [.int .i64 0])]) (cs := [.string (bstr [120]), .int .i64 2, .int .i64 1, .int .i64 (-1000000), .int .i64 1000000, .int .i64 1, .int .i64 0]) rfl rfl rfl z_struct126 ⟨rfl, ⟨_, (ev_str z_str13), rfl⟩, ⟨rfl, ⟨_, rfl, rfl⟩, ⟨rfl, ⟨_, rfl, rfl⟩, ⟨rfl, ⟨_, rfl, rfl⟩, ⟨rfl, ⟨_, rfl, rfl⟩, ⟨rfl, ⟨_, rfl, rfl⟩, ⟨rfl, ⟨_, rfl, rfl⟩, trivial⟩⟩⟩⟩⟩⟩⟩ rfl ?_
     refine o_build (ps := [(0, [.string (bstr [121])]), (1, [.int .i64 2]), (2, [.int .i64 2]), (3, [.int .i64 (-1000000)]), (4, [.int .i64 1000000]), (5, [.int .i64 1]), (6, [.int .i64 0])]) (cs := [.string (bstr [121]), .int .i64 2, .int .i64 2, .int .i64 (-1000000), .int .i64 1000000, .int .i64 1, .int .i64 0]) rfl rfl rfl z_struct126 ⟨rfl, ⟨_, (ev_str z_str14), rfl⟩, ⟨rfl, ⟨_, rfl, rfl⟩, ⟨rfl, ⟨_, rfl, rfl⟩, ⟨rfl, ⟨_, rfl, rfl⟩, ⟨rfl, ⟨_, rfl, rfl⟩, ⟨rfl, ⟨_, rfl, rfl⟩, ⟨rfl, ⟨_, rfl, rfl⟩, trivial⟩⟩⟩⟩⟩⟩⟩ rfl ?_
     refine o_build (ps := [(0, [.string (bstr [104, 101, 97, 100, 105, 110, 103])]), (1, [.int .i64 1]), (2, [.int .i64 3]), (3, [.int .i64 0]), (4, [.int .i64 35999]), (5, [.int .i64 1]), (6, [.int .i64 0])]) (cs := [.string (bstr [104, 101, 97, 100, 105, 110, 103]), .int .i64 1, .int .i64 3, .int .i64 0, .int .i64 35999, .int .i64 1, .int .i64 0]) rfl rfl rfl z_struct126 ⟨rfl, ⟨_, (ev_str z_str15), rfl⟩, ⟨rfl, ⟨_, rfl, rfl⟩, ⟨rfl, ⟨_, rfl, rfl⟩, ⟨rfl, ⟨_, rfl, rfl⟩, ⟨rfl, ⟨_, rfl, rfl⟩, ⟨rfl, ⟨_, rfl, rfl⟩, ⟨rfl, ⟨_, rfl, rfl⟩, trivial⟩⟩⟩⟩⟩⟩⟩ rfl ?_
     refine o_build (ps := [(0, [.string (bstr [98, 97, 116, 116, 101, 114, 121])]), (1, [.int .i64 1]), (2, [.int .i64 4]), (3, [.int .i64 0]), (4, [.int .i64 1000]), (5, [.int .i64 1]), (6, [.int .i64 0])]) (cs := [.string (bstr [98, 97, 116, 116, 101, 114, 121]), .int .i64 1, .int .i64 4, .int .i64 0, .int .i64 1000, .int .i64 1, .int .i64 0]) rfl rfl rfl z_struct126 ⟨rfl, ⟨_, (ev_str z_str16), rfl⟩, ⟨rfl, ⟨_, rfl, rfl⟩, ⟨rfl, ⟨_, rfl, rfl⟩, ⟨rfl, ⟨_, rfl, rfl⟩, ⟨rfl, ⟨_, rfl, rfl⟩, ⟨rfl, ⟨_, rfl, rfl⟩, ⟨rfl, ⟨_, rfl, rfl⟩, trivial⟩⟩⟩⟩⟩⟩⟩ rfl ?_
     refine o_build (ps := [(0, [.string (bstr [115, 117, 114, 101])]), (1, [.int .i64 1]), (2, [.int .i64 5]), (3, [.int .i64 0]), (4, [.int .i64 100]), (5, [.int .i64 2]), (6, [.int .i64 100])]) (cs := [.string (bstr [115, 117, 114, 101]), .int .i64 1, .int .i64 5, .int .i64 0, .int .i64 100, .int .i64 2, .int .i64 100]) rfl rfl rfl z_struct126 ⟨rfl, ⟨_, (ev_str z_str17), rfl⟩, ⟨rfl, ⟨_, rfl, rfl⟩, ⟨rfl, ⟨_, rfl, rfl⟩, ⟨rfl, ⟨_, rfl, rfl⟩, ⟨rfl, ⟨_, rfl, rfl⟩, ⟨rfl, ⟨_, rfl, rfl⟩, ⟨rfl, ⟨_, rfl, rfl⟩, trivial⟩⟩⟩⟩⟩⟩⟩ rfl ?_
     refine o_litE (eP eS (eP (eI .i64) (eP (eI .i64) (eP (eI .i64) (eP (eI .i64) (eP (eI .i64) (eI .i64))))))) [r37, ((bstr [120]), 2, 1, (-1000000), 1000000, 1, 0), ((bstr [121]), 2, 2, (-1000000), 1000000, 1, 0), ((bstr [104, 101, 97, 100, 105, 110, 103]), 1, 3, 0, 35999, 1, 0), ((bstr [98, 97, 116, 116, 101, 114, 121]), 1, 4, 0, 1000, 1, 0), ((bstr [115, 117, 114, 101]), 1, 5, 0, 100, 2, 100)] rfl rfl rfl z_slT123 z_zero126 ⟨rfl, ⟨_, rfl, rfl⟩, ⟨rfl, ⟨_, rfl, rfl⟩, ⟨rfl, ⟨_, rfl, rfl⟩, ⟨rfl, ⟨_, rfl, rfl⟩, ⟨rfl, ⟨_, rfl, rfl⟩, ⟨rfl, ⟨_, rfl, rfl⟩, trivial⟩⟩⟩⟩⟩⟩ rfl rfl rfl rfl (fun v41 g42 ho43 => ?_)
     refine Z 2 rfl ?_
     refine st_freeze (fun τ44 hl45 hg46 => ?_)
     have hs47 := ho43.freeze hl45 hg46
     obtain rfl := Eq.symm h
     exact st_ret (gs' := []) Tryd.func69 rfl (List.Sublist.refl _) (hl40.trans hl45) ⟨_, rfl, rfl, hs47⟩
    ·refine Z 5 rfl ?_
     refine st_if rfl h (fun h => ?_) (fun h => ?_)
     ·refine Z 2 rfl ?_
      obtain ⟨r49, hr50, h⟩ := h
      refine st_call (foot := []) rfl rfl rfl rfl rfl rfl (callV_fn z_en87 (field_robot_ok hr50 σ)) ?_
      rintro vτ51 τ51 gsτ51 hl52 ⟨rfl, rfl⟩
      refine o_build (ps := [(0, [.string (bstr [99, 111, 100, 101])]), (1, [.int .i64 1]), (2, [.int .i64 1]), (3, [.int .i64 1]), (4, [.int .i64 9999]), (5, [.int .i64 1]), (6, [.int .i64 0])]) (cs := [.string (bstr [99, 111, 100, 101]), .int .i64 1, .int .i64 1, .int .i64 1, .int .i64 9999, .int .i64 1, .int .i64 0]) rfl rfl rfl z_struct126 ⟨rfl, ⟨_, (ev_str z_str18), rfl⟩, ⟨rfl, ⟨_, rfl, rfl⟩, ⟨rfl, ⟨_, rfl, rfl⟩, ⟨rfl, ⟨_, rfl, rfl⟩, ⟨rfl, ⟨_, rfl, rfl⟩, ⟨rfl, ⟨_, rfl, rfl⟩, ⟨rfl, ⟨_, rfl, rfl⟩, trivial⟩⟩⟩⟩⟩⟩⟩ rfl ?_
      refine o_build (ps := [(0, [.string (bstr [115, 101, 118, 101, 114, 105, 116, 121])]), (1, [.int .i64 1]), (2, [.int .i64 2]), (3, [.int .i64 0]), (4, [.int .i64 4]), (5, [.int .i64 1]), (6, [.int .i64 0])]) (cs := [.string (bstr [115, 101, 118, 101, 114, 105, 116, 121]), .int .i64 1, .int .i64 2, .int .i64 0, .int .i64 4, .int .i64 1, .int .i64 0]) rfl rfl rfl z_struct126 ⟨rfl, ⟨_, (ev_str z_str19), rfl⟩, ⟨rfl, ⟨_, rfl, rfl⟩, ⟨rfl, ⟨_, rfl, rfl⟩, ⟨rfl, ⟨_, rfl, rfl⟩, ⟨rfl, ⟨_, rfl, rfl⟩, ⟨rfl, ⟨_, rfl, rfl⟩, ⟨rfl, ⟨_, rfl, rfl⟩, trivial⟩⟩⟩⟩⟩⟩⟩ rfl ?_
      refine o_build (ps := [(0, [.string (bstr [112, 97, 114, 116])]), (1, [.int .i64 1]), (2, [.int .i64 3]), (3, [.int .i64 0]), (4, [.int .i64 255]), (5, [.int .i64 2]), (6, [.int .i64 0])]) (cs := [.string (bstr [112, 97, 114, 116]), .int .i64 1, .int .i64 3, .int .i64 0, .int .i64 255, .int .i64 2, .int .i64 0]) rfl rfl rfl z_struct126 ⟨rfl, ⟨_, (ev_str z_str20), rfl⟩, ⟨rfl, ⟨_, rfl, rfl⟩, ⟨rfl, ⟨_, rfl, rfl⟩, ⟨rfl, ⟨_, rfl, rfl⟩, ⟨rfl, ⟨_, rfl, rfl⟩, ⟨rfl, ⟨_, rfl, rfl⟩, ⟨rfl, ⟨_, rfl, rfl⟩, trivial⟩⟩⟩⟩⟩⟩⟩ rfl ?_
      refine o_build (ps := [(0, [.string (bstr [116, 105, 109, 101, 115])]), (1, [.int .i64 1]), (2, [.int .i64 4]), (3, [.int .i64 1]), (4, [.int .i64 1000000]), (5, [.int .i64 2]), (6, [.int .i64 1])]) (cs := [.string (bstr [116, 105, 109, 101, 115]), .int .i64 1, .int .i64 4, .int .i64 1, .int .i64 1000000, .int .i64 2, .int .i64 1]) rfl rfl rfl z_struct126 ⟨rfl, ⟨_, (ev_str z_str21), rfl⟩, ⟨rfl, ⟨_, rfl, rfl⟩, ⟨rfl, ⟨_, rfl, rfl⟩, ⟨rfl, ⟨_, rfl, rfl⟩, ⟨rfl, ⟨_, rfl, rfl⟩, ⟨rfl, ⟨_, rfl, rfl⟩, ⟨rfl, ⟨_, rfl, rfl⟩, trivial⟩⟩⟩⟩⟩⟩⟩ rfl ?_
      refine o_build (ps := [(0, [.string (bstr [116, 101, 120, 116])]), (1, [.int .i64 5]), (2, [.int .i64 (-1)]), (3, [.int .i64 0]), (4, [.int .i64 64]), (5, [.int .i64 1]), (6, [.int .i64 0])]) (cs := [.string (bstr [116, 101, 120, 116]), .int .i64 5, .int .i64 (-1), .int .i64 0, .int .i64 64, .int .i64 1, .int .i64 0]) rfl rfl rfl z_struct126 ⟨rfl, ⟨_, (ev_str z_str22), rfl⟩, ⟨rfl, ⟨_, rfl, rfl⟩, ⟨rfl, ⟨_, rfl, rfl⟩, ⟨rfl, ⟨_, rfl, rfl⟩, ⟨rfl, ⟨_, rfl, rfl⟩, ⟨rfl, ⟨_, rfl, rfl⟩, ⟨rfl, ⟨_, rfl, rfl⟩, trivial⟩⟩⟩⟩⟩⟩⟩ rfl ?_
      refine o_litE (eP eS (eP (eI .i64) (eP (eI .i64) (eP (eI .i64) (eP (eI .i64) (eP (eI .i64) (eI .i64))))))) [r49, ((bstr [99, 111, 100, 101]), 1, 1, 1, 9999, 1, 0), ((bstr [115, 101, 118, 101, 114, 105, 116, 121]), 1, 2, 0, 4, 1, 0), ((bstr [112, 97, 114, 116]), 1, 3, 0, 255, 2, 0), ((bstr [116, 105, 109, 101, 115]), 1, 4, 1, 1000000, 2, 1), ((bstr [116, 101, 120, 116]), 5, (-1), 0, 64, 1, 0)] rfl rfl rfl z_slT123 z_zero126 ⟨rfl, ⟨_, rfl, rfl⟩, ⟨rfl, ⟨_, rfl, rfl⟩, ⟨rfl, ⟨_, rfl, rfl⟩, ⟨rfl, ⟨_, rfl, rfl⟩, ⟨rfl, ⟨_, rfl, rfl⟩, ⟨rfl, ⟨_, rfl, rfl⟩, trivial⟩⟩⟩⟩⟩⟩ rfl rfl rfl rfl (fun v53 g54 ho55 => ?_)
      refine Z 2 rfl ?_
      refine st_freeze (fun τ56 hl57 hg58 => ?_)
      have hs59 := ho55.freeze hl57 hg58
      obtain rfl := Eq.symm h
      exact st_ret (gs' := []) Tryd.func69 rfl (List.Sublist.refl _) (hl52.trans hl57) ⟨_, rfl, rfl, hs59⟩
     ·refine Z 6 rfl ?_
      obtain rfl := Eq.symm h
      exact st_ret (gs' := []) Tryd.func69 rfl (List.Sublist.refl _) (Sto.Le.refl _) ⟨_, rfl, rfl, Sl.nil⟩
theorem msg_many_ok {a0 : Int} {a1 : ByteArray × Int × Int × Int × Int × Int × Int} {r : Int} (h : msg_many a0 a1 r) (σ : Sto)  :
    Does Tryd.prog 113 [.int .i64 a0, .agg [.string a1.1, .int .i64 a1.2.1, .int .i64 a1.2.2.1, .int .i64 a1.2.2.2.1, .int .i64 a1.2.2.2.2.1, .int .i64 a1.2.2.2.2.2.1, .int .i64 a1.2.2.2.2.2.2].toArray] σ [] (fun v τ gs => gs = [] ∧ .int .i64 r = v) := by
 refine call_of Tryd.func113 Tryd.ntmps113 rfl rfl (fun cs fs => ?_)
 refine Z 2 rfl ?_
 refine o_boxC rfl rfl rfl rfl rfl rfl (fun b1 => ?_)
 refine ZZ 12 [0] rfl rfl ?_
 refine st_if rfl h (fun h => ?_) (fun h => ?_)
 ·refine Z 4 rfl ?_
  refine st_ord [] _ rfl ?_
  obtain rfl := Eq.symm h
  exact st_ret (gs' := []) Tryd.func113 rfl (List.Sublist.refl _) (Sto.Le.refl _) ⟨rfl, rfl⟩
 ·refine ZZ 8 [0] rfl rfl ?_
  refine st_if rfl h (fun h => ?_) (fun h => ?_)
  ·refine Z 4 rfl ?_
   refine st_ord [] _ rfl ?_
   obtain rfl := Eq.symm h
   exact st_ret (gs' := []) Tryd.func113 rfl (List.Sublist.refl _) (Sto.Le.refl _) ⟨rfl, rfl⟩
  ·refine Z 6 rfl ?_
   refine st_ord [] _ rfl ?_
   obtain rfl := Eq.symm h
   exact st_ret (gs' := []) Tryd.func113 rfl (List.Sublist.refl _) (Sto.Le.refl _) ⟨rfl, rfl⟩
theorem msg_path_ok {a0 : List (Int × Int)} {a1 : ByteArray × Int × Int × Int × Int × Int × Int} {v1 : Value} {r : Int} (h : msg_path a0 a1 r) (σ : Sto) (hs2 : Sl (kP (kI .i64) (kI .i64)) σ v1 a0) :
    Does Tryd.prog 88 [v1, .agg [.string a1.1, .int .i64 a1.2.1, .int .i64 a1.2.2.1, .int .i64 a1.2.2.2.1, .int .i64 a1.2.2.2.2.1, .int .i64 a1.2.2.2.2.2.1, .int .i64 a1.2.2.2.2.2.2].toArray] σ [] (fun v τ gs => gs = [] ∧ .int .i64 r = v) := by
 refine call_of Tryd.func88 Tryd.ntmps88 rfl rfl (fun cs fs => ?_)
 refine Z 2 rfl ?_
 refine o_boxC rfl rfl rfl rfl rfl rfl (fun b3 => ?_)
 refine Z 6 rfl ?_
 refine o_lenI rfl rfl rfl z_slT24 rfl hs2 ?_
 refine ZZ 1 [0] rfl rfl ?_
 obtain ⟨r4, hr5, h⟩ := h
 refine st_call (foot := []) rfl rfl rfl rfl rfl rfl (callV_fn z_en113 (msg_many_ok hr5 σ)) ?_
 rintro vτ6 τ6 gsτ6 hl7 ⟨rfl, rfl⟩
 refine Z 7 rfl ?_
 refine st_if rfl h (fun h => ?_) (fun h => ?_)
 ·refine Z 5 rfl ?_
  refine st_ord [] _ rfl ?_
  obtain rfl := Eq.symm h
  exact st_ret (gs' := []) Tryd.func88 rfl (List.Sublist.refl _) hl7 ⟨rfl, rfl⟩
 ·refine Z 2 rfl ?_
  refine st_cut (fun ρ τ8 gs => ∃ (s8 : Unit), msg_path_j1 s8 r ∧ τ6.Le τ8 ∧ ESub ρ [(4, .int .i64 0)] ∧ gs = []) ?_ (fun hk8 => ?_)
  ·rintro ρ8 τ8 gs8 ⟨s8, h, hl8, hρ, rfl⟩
   refine st_es hρ ?_
   refine Z 4 rfl ?_
   obtain rfl := Eq.symm h
   exact st_ret (gs' := []) Tryd.func88 rfl (List.Sublist.refl _) (hl7.trans hl8) ⟨rfl, rfl⟩
  refine Z 3 rfl ?_
  refine o_lenI rfl rfl rfl z_slT24 rfl (hs2.up hl7) ?_
  refine Z 2 rfl ?_
  obtain ⟨e9, hL9, hA9⟩ := h
  refine st_ord [] _ rfl ?_
  refine st_loop hL9 (fun (s9 : Int) ρ τ9 gs => τ6.Le τ9 ∧ ESub ρ [(4, .int .i64 0), (15, v1), (16, .int .i64 (a0.length : Int)), (17, .int .i64 s9)] ∧ gs = []) ⟨Sto.Le.refl _, rfl, rfl⟩ ?_
  rintro s9 o9 h he9 ρ9 τ9 gs9 ⟨hl9, hρ, rfl⟩ hn9
  refine st_es hρ ?_
  refine Z 5 rfl ?_
  refine st_if rfl h (fun h => ?_) (fun h => ?_)
  ·refine Z 5 rfl ?_
   obtain ⟨q10, hf11, h⟩ := h
   refine o_index rfl rfl rfl z_slT24 rfl rfl (hs2.up (hl7.trans hl9)) rfl hf11 (fun b12 of13 vs hc14 hrep => ?_)
   obtain ⟨_, _, rfl, rfl, rfl⟩ := hrep
   refine o_loadIN (vs := [.int .i64 q10.1, .int .i64 q10.2]) rfl rfl rfl z_agg42 rfl rfl (celn_part 0 rfl hc14) ?_
   refine o_alloc rfl rfl rfl z_zero42 (fun b15 => ?_)
   refine ZZ 3 [0] rfl rfl ?_
   refine st_cut (fun ρ τ16 gs => ∃ (s16 : Bool), msg_path_j3 s9 s16 o9 ∧ τ9.Le τ16 ∧ ESub ρ [(4, .int .i64 0), (15, v1), (16, .int .i64 (a0.length : Int)), (17, .int .i64 s9), (34, .bool s16)] ∧ gs = []) ?_ (fun hk16 => ?_)
   ·rintro ρ16 τ16 gs16 ⟨s16, h, hl16, hρ, rfl⟩
    refine st_es hρ ?_
    refine st_if rfl h (fun h => ?_) (fun h => ?_)
    ·refine Z 4 rfl ?_
     obtain rfl := he9 _ h
     replace h := hA9
     obtain rfl := Eq.symm h
     exact st_ret (gs' := []) Tryd.func88 rfl (List.Sublist.refl _) ((hl7.trans hl9).trans hl16) ⟨rfl, rfl⟩
    ·refine Z 6 rfl ?_
     exact hn9 _ _ _ _ h ⟨(hl9.trans hl16), rfl, rfl⟩
   refine ZZ 7 [0, 0] rfl rfl ?_
   refine o_mif rfl rfl rfl rfl h (fun h => ?_) (fun h => ?_)
   ·refine Z 8 rfl ?_
    refine st_ord [] _ rfl ?_
    exact hk16 _ _ _ ⟨true, h, (Sto.Le.refl _), rfl, rfl⟩
   ·refine ZZ 8 [0, 0] rfl rfl ?_
    refine st_ord [] _ rfl ?_
    exact hk16 _ _ _ ⟨(decide ((min q10.1 q10.2) < (-1000000))), h, (Sto.Le.refl _), rfl, rfl⟩
  ·refine st_exit rfl ?_
   obtain rfl := he9 _ h
   replace h := hA9
   exact hk8 _ _ _ ⟨(), h, hl9, rfl, rfl⟩
theorem msg_cells_ok {a0 : List Int} {a1 : ByteArray × Int × Int × Int × Int × Int × Int} {v1 : Value} {r : Int} (h : msg_cells a0 a1 r) (σ : Sto) (hs2 : Sl (kI .i64) σ v1 a0) :
    Does Tryd.prog 89 [v1, .agg [.string a1.1, .int .i64 a1.2.1, .int .i64 a1.2.2.1, .int .i64 a1.2.2.2.1, .int .i64 a1.2.2.2.2.1, .int .i64 a1.2.2.2.2.2.1, .int .i64 a1.2.2.2.2.2.2].toArray] σ [] (fun v τ gs => gs = [] ∧ .int .i64 r = v) := by
 refine call_of Tryd.func89 Tryd.ntmps89 rfl rfl (fun cs fs => ?_)
 refine Z 2 rfl ?_
 refine o_boxC rfl rfl rfl rfl rfl rfl (fun b3 => ?_)
 refine Z 6 rfl ?_
 refine o_lenI rfl rfl rfl z_slT25 rfl hs2 ?_
 refine ZZ 1 [0] rfl rfl ?_
 obtain ⟨r4, hr5, h⟩ := h
 refine st_call (foot := []) rfl rfl rfl rfl rfl rfl (callV_fn z_en113 (msg_many_ok hr5 σ)) ?_
 rintro vτ6 τ6 gsτ6 hl7 ⟨rfl, rfl⟩
 refine Z 7 rfl ?_
 refine st_if rfl h (fun h => ?_) (fun h => ?_)
 ·refine Z 5 rfl ?_
  refine st_ord [] _ rfl ?_
  obtain rfl := Eq.symm h
  exact st_ret (gs' := []) Tryd.func89 rfl (List.Sublist.refl _) hl7 ⟨rfl, rfl⟩
 ·refine Z 6 rfl ?_
  refine st_cut (fun ρ τ8 gs => ∃ (s8 : Unit), msg_cells_j1 s8 r ∧ τ6.Le τ8 ∧ ESub ρ [(4, .int .i64 0)] ∧ gs = []) ?_ (fun hk8 => ?_)
  ·rintro ρ8 τ8 gs8 ⟨s8, h, hl8, hρ, rfl⟩
   refine st_es hρ ?_
   refine Z 4 rfl ?_
   obtain rfl := Eq.symm h
   exact st_ret (gs' := []) Tryd.func89 rfl (List.Sublist.refl _) (hl7.trans hl8) ⟨rfl, rfl⟩
  refine Z 3 rfl ?_
  refine o_lenI rfl rfl rfl z_slT25 rfl (hs2.up hl7) ?_
  refine Z 2 rfl ?_
  obtain ⟨e9, hL9, hA9⟩ := h
  refine st_ord [] _ rfl ?_
  refine st_loop hL9 (fun (s9 : Int × Int) ρ τ9 gs => τ6.Le τ9 ∧ ESub ρ [(4, .int .i64 0), (6, .int .i64 s9.1), (16, v1), (17, .int .i64 (a0.length : Int)), (18, .int .i64 s9.2)] ∧ gs = []) ⟨Sto.Le.refl _, rfl, rfl⟩ ?_
  rintro s9 o9 h he9 ρ9 τ9 gs9 ⟨hl9, hρ, rfl⟩ hn9
  refine st_es hρ ?_
  refine Z 5 rfl ?_
  refine st_if rfl h (fun h => ?_) (fun h => ?_)
  ·refine Z 5 rfl ?_
   obtain ⟨q10, hf11, h⟩ := h
   refine o_index rfl rfl rfl z_slT25 rfl rfl (hs2.up (hl7.trans hl9)) rfl hf11 (fun b12 of13 vs hc14 hrep => ?_)
   obtain rfl := hrep
   refine o_loadI (v := .int .i64 q10) rfl rfl rfl z_sc3 rfl (hc14 0 _ rfl) ?_
   refine Z 5 rfl ?_
   refine st_cut (fun ρ τ15 gs => ∃ (s15 : Bool), msg_cells_j3 s9 q10 s15 o9 ∧ τ9.Le τ15 ∧ ESub ρ [(4, .int .i64 0), (6, .int .i64 s9.1), (16, v1), (17, .int .i64 (a0.length : Int)), (18, .int .i64 s9.2), (8, .int .i64 q10), (22, .bool s15)] ∧ gs = []) ?_ (fun hk15 => ?_)
   ·rintro ρ15 τ15 gs15 ⟨s15, h, hl15, hρ, rfl⟩
    refine st_es hρ ?_
    refine st_if rfl h (fun h => ?_) (fun h => ?_)
    ·refine Z 4 rfl ?_
     obtain rfl := he9 _ h
     replace h := hA9
     obtain rfl := Eq.symm h
     exact st_ret (gs' := []) Tryd.func89 rfl (List.Sublist.refl _) ((hl7.trans hl9).trans hl15) ⟨rfl, rfl⟩
    ·refine Z 7 rfl ?_
     refine st_if rfl h (fun h => ?_) (fun h => ?_)
     ·refine Z 4 rfl ?_
      obtain rfl := he9 _ h
      replace h := hA9
      obtain rfl := Eq.symm h
      exact st_ret (gs' := []) Tryd.func89 rfl (List.Sublist.refl _) ((hl7.trans hl9).trans hl15) ⟨rfl, rfl⟩
     ·refine Z 11 rfl ?_
      exact hn9 _ _ _ _ h ⟨(hl9.trans hl15), rfl, rfl⟩
   refine Z 3 rfl ?_
   refine o_mif rfl rfl rfl rfl h (fun h => ?_) (fun h => ?_)
   ·refine Z 5 rfl ?_
    exact hk15 _ _ _ ⟨true, h, (Sto.Le.refl _), rfl, rfl⟩
   ·refine Z 5 rfl ?_
    exact hk15 _ _ _ ⟨(decide (65535 < q10)), h, (Sto.Le.refl _), rfl, rfl⟩
  ·refine st_exit rfl ?_
   obtain rfl := he9 _ h
   replace h := hA9
   exact hk8 _ _ _ ⟨(), h, hl9, rfl, rfl⟩
theorem msg_text_ok {a0 : ByteArray} {a1 : ByteArray × Int × Int × Int × Int × Int × Int} {r : Int} (h : msg_text a0 a1 r) (σ : Sto)  :
    Does Tryd.prog 90 [.string a0, .agg [.string a1.1, .int .i64 a1.2.1, .int .i64 a1.2.2.1, .int .i64 a1.2.2.2.1, .int .i64 a1.2.2.2.2.1, .int .i64 a1.2.2.2.2.2.1, .int .i64 a1.2.2.2.2.2.2].toArray] σ [] (fun v τ gs => gs = [] ∧ .int .i64 r = v) := by
 refine call_of Tryd.func90 Tryd.ntmps90 rfl rfl (fun cs fs => ?_)
 refine Z 2 rfl ?_
 refine o_boxC rfl rfl rfl rfl rfl rfl (fun b1 => ?_)
 refine ZZ 8 [0] rfl rfl ?_
 obtain ⟨r2, hr3, h⟩ := h
 refine st_call (foot := []) rfl rfl rfl rfl rfl rfl (callV_fn z_en113 (msg_many_ok hr3 σ)) ?_
 rintro vτ4 τ4 gsτ4 hl5 ⟨rfl, rfl⟩
 refine Z 7 rfl ?_
 refine st_if rfl h (fun h => ?_) (fun h => ?_)
 ·refine Z 5 rfl ?_
  refine st_ord [] _ rfl ?_
  obtain rfl := Eq.symm h
  exact st_ret (gs' := []) Tryd.func90 rfl (List.Sublist.refl _) hl5 ⟨rfl, rfl⟩
 ·refine Z 2 rfl ?_
  refine st_cut (fun ρ τ6 gs => ∃ (s6 : Unit), msg_text_j1 s6 r ∧ τ4.Le τ6 ∧ ESub ρ [(4, .int .i64 0)] ∧ gs = []) ?_ (fun hk6 => ?_)
  ·rintro ρ6 τ6 gs6 ⟨s6, h, hl6, hρ, rfl⟩
   refine st_es hρ ?_
   refine Z 4 rfl ?_
   obtain rfl := Eq.symm h
   exact st_ret (gs' := []) Tryd.func90 rfl (List.Sublist.refl _) (hl5.trans hl6) ⟨rfl, rfl⟩
  refine Z 3 rfl ?_
  obtain ⟨hf11, h⟩ := h
  refine o_bytes rfl rfl rfl Tryd.underlying9 Tryd.underlying174 Tryd.underlying5 rfl hf11 (fun v7 τ8 hl9 hs10 => ?_)
  refine o_lenI rfl rfl rfl z_slT174 rfl hs10 ?_
  refine Z 2 rfl ?_
  obtain ⟨e12, hL12, hA12⟩ := h
  refine st_ord [] _ rfl ?_
  refine st_loop hL12 (fun (s12 : Int) ρ τ12 gs => τ8.Le τ12 ∧ ESub ρ [(4, .int .i64 0), (16, v7), (17, .int .i64 ((bints a0).length : Int)), (18, .int .i64 s12)] ∧ gs = []) ⟨Sto.Le.refl _, rfl, rfl⟩ ?_
  rintro s12 o12 h he12 ρ12 τ12 gs12 ⟨hl12, hρ, rfl⟩ hn12
  refine st_es hρ ?_
  refine Z 5 rfl ?_
  refine st_if rfl h (fun h => ?_) (fun h => ?_)
  ·refine Z 5 rfl ?_
   obtain ⟨q13, hf14, h⟩ := h
   refine o_index rfl rfl rfl z_slT174 rfl rfl (hs10.up hl12) rfl hf14 (fun b15 of16 vs hc17 hrep => ?_)
   obtain rfl := hrep
   refine o_loadI (v := .int .u8 q13) rfl rfl rfl z_sc5 rfl (hc17 0 _ rfl) ?_
   refine Z 3 rfl ?_
   refine st_cut (fun ρ τ18 gs => ∃ (s18 : Bool), msg_text_j3 s12 s18 o12 ∧ τ12.Le τ18 ∧ ESub ρ [(4, .int .i64 0), (16, v7), (17, .int .i64 ((bints a0).length : Int)), (18, .int .i64 s12), (27, .bool s18)] ∧ gs = []) ?_ (fun hk18 => ?_)
   ·rintro ρ18 τ18 gs18 ⟨s18, h, hl18, hρ, rfl⟩
    refine st_es hρ ?_
    refine st_if rfl h (fun h => ?_) (fun h => ?_)
    ·refine Z 4 rfl ?_
     obtain rfl := he12 _ h
     replace h := hA12
     obtain rfl := Eq.symm h
     exact st_ret (gs' := []) Tryd.func90 rfl (List.Sublist.refl _) (((hl5.trans hl9).trans hl12).trans hl18) ⟨rfl, rfl⟩
    ·refine Z 6 rfl ?_
     exact hn12 _ _ _ _ h ⟨(hl12.trans hl18), rfl, rfl⟩
   refine Z 3 rfl ?_
   refine o_mif rfl rfl rfl rfl h (fun h => ?_) (fun h => ?_)
   ·refine Z 4 rfl ?_
    exact hk18 _ _ _ ⟨true, h, (Sto.Le.refl _), rfl, rfl⟩
   ·refine Z 4 rfl ?_
    exact hk18 _ _ _ ⟨(decide (126 < q13)), h, (Sto.Le.refl _), rfl, rfl⟩
  ·refine st_exit rfl ?_
   obtain rfl := he12 _ h
   replace h := hA12
   exact hk6 _ _ _ ⟨(), h, (hl9.trans hl12), rfl, rfl⟩
theorem msg_wrong_ok {a0 : Int × List Int × List (Int × Int) × List Int × ByteArray × ByteArray} {a1 : ByteArray × Int × Int × Int × Int × Int × Int} {v1 : Value} {v2 : Value} {r : Int} (h : msg_wrong a0 a1 r) (σ : Sto) (hs3 : Sl (kP (kI .i64) (kI .i64)) σ v1 a0.2.2.1) (hs4 : Sl (kI .i64) σ v2 a0.2.2.2.1) :
    Does Tryd.prog 70 [.agg [.int .i64 a0.1, .int .i64 (a0.2.1.getD 0 0), .int .i64 (a0.2.1.getD 1 0), .int .i64 (a0.2.1.getD 2 0), .int .i64 (a0.2.1.getD 3 0), .int .i64 (a0.2.1.getD 4 0), .int .i64 (a0.2.1.getD 5 0), v1, v2, .string a0.2.2.2.2.1, .string a0.2.2.2.2.2].toArray, .agg [.string a1.1, .int .i64 a1.2.1, .int .i64 a1.2.2.1, .int .i64 a1.2.2.2.1, .int .i64 a1.2.2.2.2.1, .int .i64 a1.2.2.2.2.2.1, .int .i64 a1.2.2.2.2.2.2].toArray] σ [] (fun v τ gs => gs = [] ∧ .int .i64 r = v) := by
 refine call_of Tryd.func70 Tryd.ntmps70 rfl rfl (fun cs fs => ?_)
 refine Z 2 rfl ?_
 refine o_box (cs := [.int .i64 a0.1, .int .i64 (a0.2.1.getD 0 0), .int .i64 (a0.2.1.getD 1 0), .int .i64 (a0.2.1.getD 2 0), .int .i64 (a0.2.1.getD 3 0), .int .i64 (a0.2.1.getD 4 0), .int .i64 (a0.2.1.getD 5 0), v1, v2, .string a0.2.2.2.2.1, .string a0.2.2.2.2.2]) rfl rfl rfl rfl rfl (fun b5 => ?_)
 refine o_boxC rfl rfl rfl rfl rfl rfl (fun b6 => ?_)
 refine ZZ 14 [0] rfl rfl ?_
 refine st_if rfl h (fun h => ?_) (fun h => ?_)
 ·refine ZZ 5 [1, 0] rfl rfl ?_
  obtain ⟨r7, hr8, h⟩ := h
  refine st_call (foot := []) rfl rfl rfl rfl rfl rfl (callV_fn z_en88 (msg_path_ok hr8 σ hs3)) ?_
  rintro vτ9 τ9 gsτ9 hl10 ⟨rfl, rfl⟩
  refine Z 2 rfl ?_
  refine st_ord [] _ rfl ?_
  obtain rfl := Eq.symm h
  exact st_ret (gs' := []) Tryd.func70 rfl (List.Sublist.refl _) hl10 ⟨rfl, rfl⟩
 ·refine Z 5 rfl ?_
  refine st_if rfl h (fun h => ?_) (fun h => ?_)
  ·refine ZZ 5 [1, 0] rfl rfl ?_
   obtain ⟨r11, hr12, h⟩ := h
   refine st_call (foot := []) rfl rfl rfl rfl rfl rfl (callV_fn z_en89 (msg_cells_ok hr12 σ hs4)) ?_
   rintro vτ13 τ13 gsτ13 hl14 ⟨rfl, rfl⟩
   refine Z 2 rfl ?_
   refine st_ord [] _ rfl ?_
   obtain rfl := Eq.symm h
   exact st_ret (gs' := []) Tryd.func70 rfl (List.Sublist.refl _) hl14 ⟨rfl, rfl⟩
  ·refine Z 5 rfl ?_
   refine st_if rfl h (fun h => ?_) (fun h => ?_)
   ·refine ZZ 5 [1, 0] rfl rfl ?_
    obtain ⟨r15, hr16, h⟩ := h
    refine st_call (foot := []) rfl rfl rfl rfl rfl rfl (callV_fn z_en90 (msg_text_ok hr16 σ)) ?_
    rintro vτ17 τ17 gsτ17 hl18 ⟨rfl, rfl⟩
    refine Z 2 rfl ?_
    refine st_ord [] _ rfl ?_
    obtain rfl := Eq.symm h
    exact st_ret (gs' := []) Tryd.func70 rfl (List.Sublist.refl _) hl18 ⟨rfl, rfl⟩
   ·refine Z 5 rfl ?_
    refine st_if rfl h (fun h => ?_) (fun h => ?_)
    ·refine ZZ 5 [1, 0] rfl rfl ?_
     obtain ⟨r19, hr20, h⟩ := h
     refine st_call (foot := []) rfl rfl rfl rfl rfl rfl (callV_fn z_en90 (msg_text_ok hr20 σ)) ?_
     rintro vτ21 τ21 gsτ21 hl22 ⟨rfl, rfl⟩
     refine Z 2 rfl ?_
     refine st_ord [] _ rfl ?_
     obtain rfl := Eq.symm h
     exact st_ret (gs' := []) Tryd.func70 rfl (List.Sublist.refl _) hl22 ⟨rfl, rfl⟩
    ·refine ZZ 8 [0] rfl rfl ?_
     obtain ⟨hf23, hf24, h⟩ := h
     refine o_indexA rfl rfl rfl z_arr23 rfl rfl hf23 hf24 ?_
     refine o_loadV (j := 1) (a1.2.2.1.toNat) (f := (Value.int .i64)) (zz := 0) (l := 6) (xs := a0.2.1) [.int .i64 a0.1] [v1, v2, .string a0.2.2.2.2.1, .string a0.2.2.2.2.2] rfl rfl rfl z_sc3 rfl rfl (by simp only [List.length_cons, List.length_nil] <;> omega) (by omega) ?_
     refine Z 3 rfl ?_
     refine st_cut (fun ρ τ25 gs => ∃ (s25 : Bool), msg_wrong_j1 s25 r ∧ σ.Le τ25 ∧ ESub ρ [(4, .int .i64 0), (46, .bool s25)] ∧ gs = []) ?_ (fun hk25 => ?_)
     ·rintro ρ25 τ25 gs25 ⟨s25, h, hl25, hρ, rfl⟩
      refine st_es hρ ?_
      refine st_if rfl h (fun h => ?_) (fun h => ?_)
      ·refine Z 4 rfl ?_
       obtain rfl := Eq.symm h
       exact st_ret (gs' := []) Tryd.func70 rfl (List.Sublist.refl _) hl25 ⟨rfl, rfl⟩
      ·refine Z 5 rfl ?_
       obtain rfl := Eq.symm h
       exact st_ret (gs' := []) Tryd.func70 rfl (List.Sublist.refl _) hl25 ⟨rfl, rfl⟩
     refine ZZ 5 [0] rfl rfl ?_
     refine o_mif rfl rfl rfl rfl h (fun h => ?_) (fun h => ?_)
     ·refine Z 6 rfl ?_
      refine st_ord [] _ rfl ?_
      exact hk25 _ _ _ ⟨true, h, (Sto.Le.refl _), rfl, rfl⟩
     ·refine ZZ 6 [0] rfl rfl ?_
      refine st_ord [] _ rfl ?_
      exact hk25 _ _ _ ⟨(decide (a1.2.2.2.2.1 < (a0.2.1.getD a1.2.2.1.toNat 0))), h, (Sto.Le.refl _), rfl, rfl⟩
theorem msg_without_ok {a0 : Int × List Int × List (Int × Int) × List Int × ByteArray × ByteArray} {a1 : ByteArray × Int × Int × Int × Int × Int × Int} {v1 : Value} {v2 : Value} {r : (Int × List Int × List (Int × Int) × List Int × ByteArray × ByteArray)} (h : msg_without a0 a1 r) (σ : Sto) (hs3 : Sl (kP (kI .i64) (kI .i64)) σ v1 a0.2.2.1) (hs4 : Sl (kI .i64) σ v2 a0.2.2.2.1) :
    Does Tryd.prog 71 [.agg [.int .i64 a0.1, .int .i64 (a0.2.1.getD 0 0), .int .i64 (a0.2.1.getD 1 0), .int .i64 (a0.2.1.getD 2 0), .int .i64 (a0.2.1.getD 3 0), .int .i64 (a0.2.1.getD 4 0), .int .i64 (a0.2.1.getD 5 0), v1, v2, .string a0.2.2.2.2.1, .string a0.2.2.2.2.2].toArray, .agg [.string a1.1, .int .i64 a1.2.1, .int .i64 a1.2.2.1, .int .i64 a1.2.2.2.1, .int .i64 a1.2.2.2.2.1, .int .i64 a1.2.2.2.2.2.1, .int .i64 a1.2.2.2.2.2.2].toArray] σ [] (fun v τ gs => ∃ (v15 : Value) (v16 : Value), gs = [] ∧ .agg [.int .i64 r.1, .int .i64 (r.2.1.getD 0 0), .int .i64 (r.2.1.getD 1 0), .int .i64 (r.2.1.getD 2 0), .int .i64 (r.2.1.getD 3 0), .int .i64 (r.2.1.getD 4 0), .int .i64 (r.2.1.getD 5 0), v15, v16, .string r.2.2.2.2.1, .string r.2.2.2.2.2].toArray = v ∧ Sl (kP (kI .i64) (kI .i64)) τ v15 r.2.2.1 ∧ Sl (kI .i64) τ v16 r.2.2.2.1) := by
 refine call_of Tryd.func71 Tryd.ntmps71 rfl rfl (fun cs fs => ?_)
 refine Z 2 rfl ?_
 refine o_box (cs := [.int .i64 a0.1, .int .i64 (a0.2.1.getD 0 0), .int .i64 (a0.2.1.getD 1 0), .int .i64 (a0.2.1.getD 2 0), .int .i64 (a0.2.1.getD 3 0), .int .i64 (a0.2.1.getD 4 0), .int .i64 (a0.2.1.getD 5 0), v1, v2, .string a0.2.2.2.2.1, .string a0.2.2.2.2.2]) rfl rfl rfl rfl rfl (fun b5 => ?_)
 refine o_boxC rfl rfl rfl rfl rfl rfl (fun b6 => ?_)
 refine o_alloc rfl rfl rfl z_zero27 (fun b7 => ?_)
 refine Z 2 rfl ?_
 refine st_cut (fun ρ τ8 gs => ∃ (s8 : Int × Int × Int × Int × Int × Int × (List (Int × Int)) × List Int × ByteArray × ByteArray) (v9 : Value) (v11 : Value), msg_without_j1 a0 s8 r ∧ σ.Le τ8 ∧ ESub ρ [(2, .pointer (some ⟨b5, 0, none⟩)), (4, .pointer (some ⟨b7, 0, none⟩))] ∧ gs = [[(b5, .cells #[.int .i64 a0.1, .int .i64 s8.1, .int .i64 s8.2.1, .int .i64 s8.2.2.1, .int .i64 s8.2.2.2.1, .int .i64 s8.2.2.2.2.1, .int .i64 s8.2.2.2.2.2.1, v9, v11, .string s8.2.2.2.2.2.2.2.2.1, .string s8.2.2.2.2.2.2.2.2.2] 27 (0, 0))], [(b7, .cells #[.int .i64 0, .int .i64 0, .int .i64 0, .int .i64 0, .int .i64 0, .int .i64 0, .int .i64 0, .slice none 0 0, .slice none 0 0, .string (bstr []), .string (bstr [])] 27 (0, 0))]] ∧ Sl (kP (kI .i64) (kI .i64)) τ8 v9 s8.2.2.2.2.2.2.1 ∧ Sl (kI .i64) τ8 v11 s8.2.2.2.2.2.2.2.1) ?_ (fun hk8 => ?_)
 ·rintro ρ8 τ8 gs8 ⟨s8, v9, v11, h, hl8, hρ, rfl, hs10, hs12⟩
  refine st_es hρ ?_
  refine ZZ 3 [0] rfl rfl ?_
  refine o_store (j := 1) (vs := [.int .i64 a0.1, .int .i64 s8.1, .int .i64 s8.2.1, .int .i64 s8.2.2.1, .int .i64 s8.2.2.2.1, .int .i64 s8.2.2.2.2.1, .int .i64 s8.2.2.2.2.2.1, v9, v11, .string s8.2.2.2.2.2.2.2.2.1, .string s8.2.2.2.2.2.2.2.2.2]) (cs' := [.int .i64 a0.1, .int .i64 s8.1, .int .i64 s8.2.1, .int .i64 s8.2.2.1, .int .i64 s8.2.2.2.1, .int .i64 s8.2.2.2.2.1, .int .i64 s8.2.2.2.2.2.1, v9, v11, .string s8.2.2.2.2.2.2.2.2.1, .string s8.2.2.2.2.2.2.2.2.2]) rfl rfl rfl z_size27 rfl rfl rfl (ones_cons rfl (ones_cons rfl (ones_cons rfl (ones_cons rfl (ones_cons rfl (ones_cons rfl (ones_cons rfl (ones_cons hs10.one' (ones_cons hs12.one' (ones_cons rfl (ones_cons rfl ones_nil))))))))))) rfl rfl rfl ?_
  refine st_gs [[(b5, .cells #[.int .i64 a0.1, .int .i64 s8.1, .int .i64 s8.2.1, .int .i64 s8.2.2.1, .int .i64 s8.2.2.2.1, .int .i64 s8.2.2.2.2.1, .int .i64 s8.2.2.2.2.2.1, v9, v11, .string s8.2.2.2.2.2.2.2.2.1, .string s8.2.2.2.2.2.2.2.2.2] 27 (0, 0))], [(b7, .cells #[.int .i64 a0.1, .int .i64 s8.1, .int .i64 s8.2.1, .int .i64 s8.2.2.1, .int .i64 s8.2.2.2.1, .int .i64 s8.2.2.2.2.1, .int .i64 s8.2.2.2.2.2.1, v9, v11, .string s8.2.2.2.2.2.2.2.2.1, .string s8.2.2.2.2.2.2.2.2.2] 27 (0, 0))]] rfl ?_
  refine st_end ?_
  obtain rfl := Eq.symm h
  exact st_retC (gs' := []) [.agg #[.int .i64 a0.1, .int .i64 s8.1, .int .i64 s8.2.1, .int .i64 s8.2.2.1, .int .i64 s8.2.2.2.1, .int .i64 s8.2.2.2.2.1, .int .i64 s8.2.2.2.2.2.1, v9, v11, .string s8.2.2.2.2.2.2.2.2.1, .string s8.2.2.2.2.2.2.2.2.2]] Tryd.func71 ⟨⟨_, _, _, _, rfl, mem_flat 1 rfl, fun w hw => cellOfN (vs := [.int .i64 a0.1, .int .i64 s8.1, .int .i64 s8.2.1, .int .i64 s8.2.2.1, .int .i64 s8.2.2.2.1, .int .i64 s8.2.2.2.2.1, .int .i64 s8.2.2.2.2.2.1, v9, v11, .string s8.2.2.2.2.2.2.2.2.1, .string s8.2.2.2.2.2.2.2.2.2]) z_agg27 rfl w hw⟩, trivial⟩ (by simp) hl8 ⟨_, _, rfl, rfl, hs10, hs12⟩
 refine ZZ 11 [1] rfl rfl ?_
 refine st_if rfl h (fun h => ?_) (fun h => ?_)
 ·refine ZZ 5 [2] rfl rfl ?_
  refine st_ord [2, 0] _ rfl ?_
  exact hk8 _ _ _ ⟨((a0.2.1.getD 0 0), (a0.2.1.getD 1 0), (a0.2.1.getD 2 0), (a0.2.1.getD 3 0), (a0.2.1.getD 4 0), (a0.2.1.getD 5 0), [], a0.2.2.2.1, a0.2.2.2.2.1, a0.2.2.2.2.2), _, _, h, (Sto.Le.refl _), rfl, rfl, Sl.nil, hs4⟩
 ·refine Z 5 rfl ?_
  refine st_if rfl h (fun h => ?_) (fun h => ?_)
  ·refine ZZ 5 [2] rfl rfl ?_
   refine st_ord [2, 0] _ rfl ?_
   exact hk8 _ _ _ ⟨((a0.2.1.getD 0 0), (a0.2.1.getD 1 0), (a0.2.1.getD 2 0), (a0.2.1.getD 3 0), (a0.2.1.getD 4 0), (a0.2.1.getD 5 0), a0.2.2.1, [], a0.2.2.2.2.1, a0.2.2.2.2.2), _, _, h, (Sto.Le.refl _), rfl, rfl, hs3, Sl.nil⟩
  ·refine Z 5 rfl ?_
   refine st_if rfl h (fun h => ?_) (fun h => ?_)
   ·refine Z 2 rfl ?_
    refine o_store (j := 2) (vs := [.string (bstr [])]) (cs' := [.int .i64 a0.1, .int .i64 (a0.2.1.getD 0 0), .int .i64 (a0.2.1.getD 1 0), .int .i64 (a0.2.1.getD 2 0), .int .i64 (a0.2.1.getD 3 0), .int .i64 (a0.2.1.getD 4 0), .int .i64 (a0.2.1.getD 5 0), v1, v2, .string (bstr []), .string a0.2.2.2.2.2]) rfl rfl rfl z_size9 rfl (ev_str z_str0) rfl (ones_cons rfl ones_nil) rfl rfl rfl ?_
    refine st_gs [[(b7, .cells #[.int .i64 0, .int .i64 0, .int .i64 0, .int .i64 0, .int .i64 0, .int .i64 0, .int .i64 0, .slice none 0 0, .slice none 0 0, .string (bstr []), .string (bstr [])] 27 (0, 0))], [(b6, .cells #[.string a1.1, .int .i64 a1.2.1, .int .i64 a1.2.2.1, .int .i64 a1.2.2.2.1, .int .i64 a1.2.2.2.2.1, .int .i64 a1.2.2.2.2.2.1, .int .i64 a1.2.2.2.2.2.2] 126 (0, 0))], [(b5, .cells #[.int .i64 a0.1, .int .i64 (a0.2.1.getD 0 0), .int .i64 (a0.2.1.getD 1 0), .int .i64 (a0.2.1.getD 2 0), .int .i64 (a0.2.1.getD 3 0), .int .i64 (a0.2.1.getD 4 0), .int .i64 (a0.2.1.getD 5 0), v1, v2, .string (bstr []), .string a0.2.2.2.2.2] 27 (0, 0))]] rfl ?_
    refine Z 2 rfl ?_
    refine st_ord [2, 0] _ rfl ?_
    exact hk8 _ _ _ ⟨((a0.2.1.getD 0 0), (a0.2.1.getD 1 0), (a0.2.1.getD 2 0), (a0.2.1.getD 3 0), (a0.2.1.getD 4 0), (a0.2.1.getD 5 0), a0.2.2.1, a0.2.2.2.1, (bstr []), a0.2.2.2.2.2), _, _, h, (Sto.Le.refl _), rfl, rfl, hs3, hs4⟩
   ·refine Z 5 rfl ?_
    refine st_if rfl h (fun h => ?_) (fun h => ?_)
    ·refine Z 2 rfl ?_
     refine o_store (j := 2) (vs := [.string (bstr [])]) (cs' := [.int .i64 a0.1, .int .i64 (a0.2.1.getD 0 0), .int .i64 (a0.2.1.getD 1 0), .int .i64 (a0.2.1.getD 2 0), .int .i64 (a0.2.1.getD 3 0), .int .i64 (a0.2.1.getD 4 0), .int .i64 (a0.2.1.getD 5 0), v1, v2, .string a0.2.2.2.2.1, .string (bstr [])]) rfl rfl rfl z_size9 rfl (ev_str z_str0) rfl (ones_cons rfl ones_nil) rfl rfl rfl ?_
     refine st_gs [[(b7, .cells #[.int .i64 0, .int .i64 0, .int .i64 0, .int .i64 0, .int .i64 0, .int .i64 0, .int .i64 0, .slice none 0 0, .slice none 0 0, .string (bstr []), .string (bstr [])] 27 (0, 0))], [(b6, .cells #[.string a1.1, .int .i64 a1.2.1, .int .i64 a1.2.2.1, .int .i64 a1.2.2.2.1, .int .i64 a1.2.2.2.2.1, .int .i64 a1.2.2.2.2.2.1, .int .i64 a1.2.2.2.2.2.2] 126 (0, 0))], [(b5, .cells #[.int .i64 a0.1, .int .i64 (a0.2.1.getD 0 0), .int .i64 (a0.2.1.getD 1 0), .int .i64 (a0.2.1.getD 2 0), .int .i64 (a0.2.1.getD 3 0), .int .i64 (a0.2.1.getD 4 0), .int .i64 (a0.2.1.getD 5 0), v1, v2, .string a0.2.2.2.2.1, .string (bstr [])] 27 (0, 0))]] rfl ?_
     refine Z 2 rfl ?_
     refine st_ord [2, 0] _ rfl ?_
     exact hk8 _ _ _ ⟨((a0.2.1.getD 0 0), (a0.2.1.getD 1 0), (a0.2.1.getD 2 0), (a0.2.1.getD 3 0), (a0.2.1.getD 4 0), (a0.2.1.getD 5 0), a0.2.2.1, a0.2.2.2.1, a0.2.2.2.2.1, (bstr [])), _, _, h, (Sto.Le.refl _), rfl, rfl, hs3, hs4⟩
    ·refine ZZ 4 [1] rfl rfl ?_
     obtain ⟨hf13, hf14, h⟩ := h
     refine o_indexA rfl rfl rfl z_arr23 rfl rfl hf13 hf14 ?_
     refine o_storeV (j := 2) (a1.2.2.1.toNat) (f := (Value.int .i64)) (zz := 0) (a := 0) (l := 6) (xs := a0.2.1) [.int .i64 a0.1] [v1, v2, .string a0.2.2.2.2.1, .string a0.2.2.2.2.2] rfl rfl rfl z_size3 rfl rfl rfl rfl rfl (by simp only [List.length_cons, List.length_nil] <;> omega) (by omega) ?_
     refine st_gs [[(b7, .cells #[.int .i64 0, .int .i64 0, .int .i64 0, .int .i64 0, .int .i64 0, .int .i64 0, .int .i64 0, .slice none 0 0, .slice none 0 0, .string (bstr []), .string (bstr [])] 27 (0, 0))], [(b6, .cells #[.string a1.1, .int .i64 a1.2.1, .int .i64 a1.2.2.1, .int .i64 a1.2.2.2.1, .int .i64 a1.2.2.2.2.1, .int .i64 a1.2.2.2.2.2.1, .int .i64 a1.2.2.2.2.2.2] 126 (0, 0))], [(b5, .cells #[.int .i64 a0.1, .int .i64 ((putN 6 0 a0.2.1 a1.2.2.1.toNat 0).getD 0 0), .int .i64 ((putN 6 0 a0.2.1 a1.2.2.1.toNat 0).getD 1 0), .int .i64 ((putN 6 0 a0.2.1 a1.2.2.1.toNat 0).getD 2 0), .int .i64 ((putN 6 0 a0.2.1 a1.2.2.1.toNat 0).getD 3 0), .int .i64 ((putN 6 0 a0.2.1 a1.2.2.1.toNat 0).getD 4 0), .int .i64 ((putN 6 0 a0.2.1 a1.2.2.1.toNat 0).getD 5 0), v1, v2, .string a0.2.2.2.2.1, .string a0.2.2.2.2.2] 27 (0, 0))]] rfl ?_
     refine Z 2 rfl ?_
     refine st_ord [2, 0] _ rfl ?_
     exact hk8 _ _ _ ⟨(((putN 6 0 a0.2.1 a1.2.2.1.toNat 0).getD 0 0), ((putN 6 0 a0.2.1 a1.2.2.1.toNat 0).getD 1 0), ((putN 6 0 a0.2.1 a1.2.2.1.toNat 0).getD 2 0), ((putN 6 0 a0.2.1 a1.2.2.1.toNat 0).getD 3 0), ((putN 6 0 a0.2.1 a1.2.2.1.toNat 0).getD 4 0), ((putN 6 0 a0.2.1 a1.2.2.1.toNat 0).getD 5 0), a0.2.2.1, a0.2.2.2.1, a0.2.2.2.2.1, a0.2.2.2.2.2), _, _, h, (Sto.Le.refl _), rfl, rfl, hs3, hs4⟩
theorem slices_Equal_msg_Point_msg_Point_ok {a0 : List (Int × Int)} {a1 : List (Int × Int)} {v1 : Value} {v3 : Value} {r : Bool} (h : slices_Equal_msg_Point_msg_Point a0 a1 r) (σ : Sto) (hs2 : Sl (kP (kI .i64) (kI .i64)) σ v1 a0) (hs4 : Sl (kP (kI .i64) (kI .i64)) σ v3 a1) :
    Does Tryd.prog 76 [v1, v3] σ [] (fun v τ gs => gs = [] ∧ .bool r = v) := by
 refine call_of Tryd.func76 Tryd.ntmps76 rfl rfl (fun cs fs => ?_)
 refine Z 8 rfl ?_
 refine o_lenI rfl rfl rfl z_slT24 rfl hs2 ?_
 refine o_move rfl rfl rfl rfl ?_
 refine o_lenI rfl rfl rfl z_slT24 rfl hs4 ?_
 refine Z 2 rfl ?_
 refine st_if rfl h (fun h => ?_) (fun h => ?_)
 ·refine Z 4 rfl ?_
  obtain rfl := Eq.symm h
  exact st_ret (gs' := []) Tryd.func76 rfl (List.Sublist.refl _) (Sto.Le.refl _) ⟨rfl, rfl⟩
 ·refine Z 2 rfl ?_
  refine st_cut (fun ρ τ5 gs => ∃ (s5 : Unit), slices_Equal_msg_Point_msg_Point_j1 s5 r ∧ σ.Le τ5 ∧ ESub ρ [(4, .bool false)] ∧ gs = []) ?_ (fun hk5 => ?_)
  ·rintro ρ5 τ5 gs5 ⟨s5, h, hl5, hρ, rfl⟩
   refine st_es hρ ?_
   refine Z 4 rfl ?_
   obtain rfl := Eq.symm h
   exact st_ret (gs' := []) Tryd.func76 rfl (List.Sublist.refl _) hl5 ⟨rfl, rfl⟩
  refine Z 3 rfl ?_
  refine o_lenI rfl rfl rfl z_slT24 rfl hs2 ?_
  refine Z 2 rfl ?_
  obtain ⟨e6, hL6, hA6⟩ := h
  refine st_loop hL6 (fun (s6 : Int) ρ τ6 gs => σ.Le τ6 ∧ ESub ρ [(0, v1), (1, v3), (4, .bool false), (12, .int .i64 (a0.length : Int)), (13, .int .i64 s6)] ∧ gs = []) ⟨Sto.Le.refl _, rfl, rfl⟩ ?_
  rintro s6 o6 h he6 ρ6 τ6 gs6 ⟨hl6, hρ, rfl⟩ hn6
  refine st_es hρ ?_
  refine Z 5 rfl ?_
  refine st_if rfl h (fun h => ?_) (fun h => ?_)
  ·refine Z 9 rfl ?_
   obtain ⟨q7, hf8, q12, hf13, h⟩ := h
   refine st_draw 9 (dl [.v (v1), .v (.int .i64 s6), .t fun τ v => ∃ (b9 : Nat) (of10 : Nat) (vsb9 : List Value), (.pointer (some ⟨b9, of10, none⟩) : Value) = v ∧ CelN τ ⟨b9, of10, none⟩ vsb9 ∧ (kP (kI .i64) (kI .i64)).rep τ vsb9 q7, .v (.agg #[.int .i64 q7.1, .int .i64 q7.2]), .v (v3), .v (.int .i64 s6), .t fun τ v => ∃ (b14 : Nat) (of15 : Nat) (vsb14 : List Value), (.pointer (some ⟨b14, of15, none⟩) : Value) = v ∧ CelN τ ⟨b14, of15, none⟩ vsb14 ∧ (kP (kI .i64) (kI .i64)).rep τ vsb14 q12, .v (.agg #[.int .i64 q12.1, .int .i64 q12.2]), .v (.bool (!((decide (q7.1 = q12.1)) && ((decide (q7.2 = q12.2)) && true))))]) (fun _ _ => []) z_mix rfl (dl_mono ⟨fun _ _ _ hl ⟨b9, of10, vsb9, hv, hc11, hrepb9⟩ => ⟨b9, of10, vsb9, hv, hc11.up hl, Kd.mono _ hl hrepb9⟩, ⟨fun _ _ _ hl ⟨b14, of15, vsb14, hv, hc16, hrepb14⟩ => ⟨b14, of15, vsb14, hv, hc16.up hl, Kd.mono _ hl hrepb14⟩, trivial⟩⟩) (allB_cons (allB_cons (allB_cons (allB_cons (allB_cons (allB_cons (allB_cons (allB_cons (allB_cons allB_nil (p1 dA)) (p1 dA)) ?_) ?_) (p1 dA)) (p1 dA)) ?_) ?_) ?_) ?_
   ·intro ρ' τ pool rs hl hd hout hk
    obtain ⟨_, e0, rfl⟩ := hd 0 rfl
    obtain ⟨_, e1, rfl⟩ := hd 1 rfl
    refine o_index rfl rfl rfl z_slT24 rfl e0 (hs2.up (hl6.trans hl)) e1 hf8 (fun b9 of10 vsb9 hc11 hrepb9 => ?_)
    exact st_addNil (hk _ _ (Sto.Le.refl _) ⟨b9, of10, _, rfl, hc11, hrepb9⟩)
   ·intro ρ' τ pool rs hl hd hout hk
    obtain ⟨_, e2, b9, of10, vsb9, rfl, hc11, hrepb9⟩ := hd 2 rfl
    have hrepb9 := hrepb9
    obtain ⟨_, _, rfl, rfl, rfl⟩ := hrepb9
    refine o_loadIN (vs := [.int .i64 q7.1, .int .i64 q7.2]) rfl rfl rfl z_agg42 e2 rfl (celn_part 0 rfl hc11) ?_
    exact st_addNil (hk _ _ (Sto.Le.refl _) rfl)
   ·intro ρ' τ pool rs hl hd hout hk
    obtain ⟨_, e4, rfl⟩ := hd 4 rfl
    obtain ⟨_, e5, rfl⟩ := hd 5 rfl
    refine o_index rfl rfl rfl z_slT24 rfl e4 (hs4.up (hl6.trans hl)) e5 hf13 (fun b14 of15 vsb14 hc16 hrepb14 => ?_)
    exact st_addNil (hk _ _ (Sto.Le.refl _) ⟨b14, of15, _, rfl, hc16, hrepb14⟩)
   ·intro ρ' τ pool rs hl hd hout hk
    obtain ⟨_, e6, b14, of15, vsb14, rfl, hc16, hrepb14⟩ := hd 6 rfl
    have hrepb14 := hrepb14
    obtain ⟨_, _, rfl, rfl, rfl⟩ := hrepb14
    refine o_loadIN (vs := [.int .i64 q12.1, .int .i64 q12.2]) rfl rfl rfl z_agg42 e6 rfl (celn_part 0 rfl hc16) ?_
    exact st_addNil (hk _ _ (Sto.Le.refl _) rfl)
   ·intro ρ' τ pool rs hl hd hout hk
    obtain ⟨_, e3, rfl⟩ := hd 3 rfl
    obtain ⟨_, e7, rfl⟩ := hd 7 rfl
    refine o_aggEq (b := ((decide (q7.1 = q12.1)) && ((decide (q7.2 = q12.2)) && true))) (e := (!((decide (q7.1 = q12.1)) && ((decide (q7.2 = q12.2)) && true)))) rfl rfl rfl z_eqg42 e3 e7 (fun w => by refine eq_struct Tryd.underlying42 z_held42 ?_; refine eqf_cons (r := (decide (q7.1 = q12.1))) (r' := ((decide (q7.2 = q12.2)) && true)) rfl (part_one z_sc3 rfl) (part_one z_sc3 rfl) (by exact eq_int Tryd.underlying3 _ _) ?_; refine eqf_cons (r := (decide (q7.2 = q12.2))) (r' := true) rfl (part_one z_sc3 rfl) (part_one z_sc3 rfl) (by exact eq_int Tryd.underlying3 _ _) ?_; exact eqf_nil _ _ _ _) rfl ?_
    exact st_addNil (hk _ _ (Sto.Le.refl _) rfl)
   intro ρ' τ17 vals hl17 hv hout
   refine st_ord [] _ rfl ?_
   refine st_env (ρ' := [(24, .bool (!((decide (q7.1 = q12.1)) && ((decide (q7.2 = q12.2)) && true)))), (0, v1), (1, v3), (4, .bool false), (12, .int .i64 (a0.length : Int)), (13, .int .i64 s6)]) ⟨(lv1 hv 8 rfl rfl), (hout 0 rfl).trans rfl, (hout 1 rfl).trans rfl, (hout 4 rfl).trans rfl, (hout 12 rfl).trans rfl, (hout 13 rfl).trans rfl, trivial⟩ ?_
   refine st_end ?_
   refine st_if rfl h (fun h => ?_) (fun h => ?_)
   ·refine Z 4 rfl ?_
    obtain rfl := he6 _ h
    replace h := hA6
    obtain rfl := Eq.symm h
    exact st_ret (gs' := []) Tryd.func76 rfl (List.Sublist.refl _) (hl6.trans hl17) ⟨rfl, rfl⟩
   ·refine Z 6 rfl ?_
    exact hn6 _ _ _ _ h ⟨(hl6.trans hl17), rfl, rfl⟩
  ·refine st_exit rfl ?_
   obtain rfl := he6 _ h
   replace h := hA6
   exact hk5 _ _ _ ⟨(), h, hl6, rfl, rfl⟩
theorem slices_Equal_int_int_ok {a0 : List Int} {a1 : List Int} {v1 : Value} {v3 : Value} {r : Bool} (h : slices_Equal_int_int a0 a1 r) (σ : Sto) (hs2 : Sl (kI .i64) σ v1 a0) (hs4 : Sl (kI .i64) σ v3 a1) :
    Does Tryd.prog 56 [v1, v3] σ [] (fun v τ gs => gs = [] ∧ .bool r = v) := by
 refine call_of Tryd.func56 Tryd.ntmps56 rfl rfl (fun cs fs => ?_)
 refine Z 8 rfl ?_
 refine o_lenI rfl rfl rfl z_slT25 rfl hs2 ?_
 refine o_move rfl rfl rfl rfl ?_
 refine o_lenI rfl rfl rfl z_slT25 rfl hs4 ?_
 refine Z 2 rfl ?_
 refine st_if rfl h (fun h => ?_) (fun h => ?_)
 ·refine Z 4 rfl ?_
  obtain rfl := Eq.symm h
  exact st_ret (gs' := []) Tryd.func56 rfl (List.Sublist.refl _) (Sto.Le.refl _) ⟨rfl, rfl⟩
 ·refine Z 2 rfl ?_
  refine st_cut (fun ρ τ5 gs => ∃ (s5 : Unit), slices_Equal_int_int_j1 s5 r ∧ σ.Le τ5 ∧ ESub ρ [(4, .bool false)] ∧ gs = []) ?_ (fun hk5 => ?_)
  ·rintro ρ5 τ5 gs5 ⟨s5, h, hl5, hρ, rfl⟩
   refine st_es hρ ?_
   refine Z 4 rfl ?_
   obtain rfl := Eq.symm h
   exact st_ret (gs' := []) Tryd.func56 rfl (List.Sublist.refl _) hl5 ⟨rfl, rfl⟩
  refine Z 3 rfl ?_
  refine o_lenI rfl rfl rfl z_slT25 rfl hs2 ?_
  refine Z 2 rfl ?_
  obtain ⟨e6, hL6, hA6⟩ := h
  refine st_loop hL6 (fun (s6 : Int) ρ τ6 gs => σ.Le τ6 ∧ ESub ρ [(0, v1), (1, v3), (4, .bool false), (12, .int .i64 (a0.length : Int)), (13, .int .i64 s6)] ∧ gs = []) ⟨Sto.Le.refl _, rfl, rfl⟩ ?_
  rintro s6 o6 h he6 ρ6 τ6 gs6 ⟨hl6, hρ, rfl⟩ hn6
  refine st_es hρ ?_
  refine Z 5 rfl ?_
  refine st_if rfl h (fun h => ?_) (fun h => ?_)
  ·refine Z 9 rfl ?_
   obtain ⟨q7, hf8, q12, hf13, h⟩ := h
   refine st_draw 9 (dl [.v (v1), .v (.int .i64 s6), .t fun τ v => ∃ (b9 : Nat) (of10 : Nat) (vsb9 : List Value), (.pointer (some ⟨b9, of10, none⟩) : Value) = v ∧ CelN τ ⟨b9, of10, none⟩ vsb9 ∧ (kI .i64).rep τ vsb9 q7, .v (.int .i64 q7), .v (v3), .v (.int .i64 s6), .t fun τ v => ∃ (b14 : Nat) (of15 : Nat) (vsb14 : List Value), (.pointer (some ⟨b14, of15, none⟩) : Value) = v ∧ CelN τ ⟨b14, of15, none⟩ vsb14 ∧ (kI .i64).rep τ vsb14 q12, .v (.int .i64 q12), .v (.bool (!(decide (q7 = q12))))]) (fun _ _ => []) z_mix rfl (dl_mono ⟨fun _ _ _ hl ⟨b9, of10, vsb9, hv, hc11, hrepb9⟩ => ⟨b9, of10, vsb9, hv, hc11.up hl, Kd.mono _ hl hrepb9⟩, ⟨fun _ _ _ hl ⟨b14, of15, vsb14, hv, hc16, hrepb14⟩ => ⟨b14, of15, vsb14, hv, hc16.up hl, Kd.mono _ hl hrepb14⟩, trivial⟩⟩) (allB_cons (allB_cons (allB_cons (allB_cons (allB_cons (allB_cons (allB_cons (allB_cons (allB_cons allB_nil (p1 dA)) (p1 dA)) ?_) ?_) (p1 dA)) (p1 dA)) ?_) ?_) (p1 dA)) ?_
   ·intro ρ' τ pool rs hl hd hout hk
    obtain ⟨_, e0, rfl⟩ := hd 0 rfl
    obtain ⟨_, e1, rfl⟩ := hd 1 rfl
    refine o_index rfl rfl rfl z_slT25 rfl e0 (hs2.up (hl6.trans hl)) e1 hf8 (fun b9 of10 vsb9 hc11 hrepb9 => ?_)
    exact st_addNil (hk _ _ (Sto.Le.refl _) ⟨b9, of10, _, rfl, hc11, hrepb9⟩)
   ·intro ρ' τ pool rs hl hd hout hk
    obtain ⟨_, e2, b9, of10, vsb9, rfl, hc11, hrepb9⟩ := hd 2 rfl
    have hrepb9 := hrepb9
    obtain rfl := hrepb9
    refine o_loadI (v := .int .i64 q7) rfl rfl rfl z_sc3 e2 (hc11 0 _ rfl) ?_
    exact st_addNil (hk _ _ (Sto.Le.refl _) rfl)
   ·intro ρ' τ pool rs hl hd hout hk
    obtain ⟨_, e4, rfl⟩ := hd 4 rfl
    obtain ⟨_, e5, rfl⟩ := hd 5 rfl
    refine o_index rfl rfl rfl z_slT25 rfl e4 (hs4.up (hl6.trans hl)) e5 hf13 (fun b14 of15 vsb14 hc16 hrepb14 => ?_)
    exact st_addNil (hk _ _ (Sto.Le.refl _) ⟨b14, of15, _, rfl, hc16, hrepb14⟩)
   ·intro ρ' τ pool rs hl hd hout hk
    obtain ⟨_, e6, b14, of15, vsb14, rfl, hc16, hrepb14⟩ := hd 6 rfl
    have hrepb14 := hrepb14
    obtain rfl := hrepb14
    refine o_loadI (v := .int .i64 q12) rfl rfl rfl z_sc3 e6 (hc16 0 _ rfl) ?_
    exact st_addNil (hk _ _ (Sto.Le.refl _) rfl)
   intro ρ' τ17 vals hl17 hv hout
   refine st_ord [] _ rfl ?_
   refine st_env (ρ' := [(24, .bool (!(decide (q7 = q12)))), (0, v1), (1, v3), (4, .bool false), (12, .int .i64 (a0.length : Int)), (13, .int .i64 s6)]) ⟨(lv1 hv 8 rfl rfl), (hout 0 rfl).trans rfl, (hout 1 rfl).trans rfl, (hout 4 rfl).trans rfl, (hout 12 rfl).trans rfl, (hout 13 rfl).trans rfl, trivial⟩ ?_
   refine st_end ?_
   refine st_if rfl h (fun h => ?_) (fun h => ?_)
   ·refine Z 4 rfl ?_
    obtain rfl := he6 _ h
    replace h := hA6
    obtain rfl := Eq.symm h
    exact st_ret (gs' := []) Tryd.func56 rfl (List.Sublist.refl _) (hl6.trans hl17) ⟨rfl, rfl⟩
   ·refine Z 6 rfl ?_
    exact hn6 _ _ _ _ h ⟨(hl6.trans hl17), rfl, rfl⟩
  ·refine st_exit rfl ?_
   obtain rfl := he6 _ h
   replace h := hA6
   exact hk5 _ _ _ ⟨(), h, hl6, rfl, rfl⟩
theorem msg_Same_ok {a0 : Int × List Int × List (Int × Int) × List Int × ByteArray × ByteArray} {a1 : Int × List Int × List (Int × Int) × List Int × ByteArray × ByteArray} {v1 : Value} {v2 : Value} {v5 : Value} {v6 : Value} {r : Bool} (h : msg_Same a0 a1 r) (σ : Sto) (hs3 : Sl (kP (kI .i64) (kI .i64)) σ v1 a0.2.2.1) (hs4 : Sl (kI .i64) σ v2 a0.2.2.2.1) (hs7 : Sl (kP (kI .i64) (kI .i64)) σ v5 a1.2.2.1) (hs8 : Sl (kI .i64) σ v6 a1.2.2.2.1) :
    Does Tryd.prog 72 [.agg [.int .i64 a0.1, .int .i64 (a0.2.1.getD 0 0), .int .i64 (a0.2.1.getD 1 0), .int .i64 (a0.2.1.getD 2 0), .int .i64 (a0.2.1.getD 3 0), .int .i64 (a0.2.1.getD 4 0), .int .i64 (a0.2.1.getD 5 0), v1, v2, .string a0.2.2.2.2.1, .string a0.2.2.2.2.2].toArray, .agg [.int .i64 a1.1, .int .i64 (a1.2.1.getD 0 0), .int .i64 (a1.2.1.getD 1 0), .int .i64 (a1.2.1.getD 2 0), .int .i64 (a1.2.1.getD 3 0), .int .i64 (a1.2.1.getD 4 0), .int .i64 (a1.2.1.getD 5 0), v5, v6, .string a1.2.2.2.2.1, .string a1.2.2.2.2.2].toArray] σ [] (fun v τ gs => gs = [] ∧ .bool r = v) := by
 refine call_of Tryd.func72 Tryd.ntmps72 rfl rfl (fun cs fs => ?_)
 refine Z 2 rfl ?_
 refine o_box (cs := [.int .i64 a0.1, .int .i64 (a0.2.1.getD 0 0), .int .i64 (a0.2.1.getD 1 0), .int .i64 (a0.2.1.getD 2 0), .int .i64 (a0.2.1.getD 3 0), .int .i64 (a0.2.1.getD 4 0), .int .i64 (a0.2.1.getD 5 0), v1, v2, .string a0.2.2.2.2.1, .string a0.2.2.2.2.2]) rfl rfl rfl rfl rfl (fun b9 => ?_)
 refine o_box (cs := [.int .i64 a1.1, .int .i64 (a1.2.1.getD 0 0), .int .i64 (a1.2.1.getD 1 0), .int .i64 (a1.2.1.getD 2 0), .int .i64 (a1.2.1.getD 3 0), .int .i64 (a1.2.1.getD 4 0), .int .i64 (a1.2.1.getD 5 0), v5, v6, .string a1.2.2.2.2.1, .string a1.2.2.2.2.2]) rfl rfl rfl rfl rfl (fun b10 => ?_)
 refine Z 3 rfl ?_
 refine st_cut (fun ρ τ11 gs => ∃ (s11 : Bool), msg_Same_j1 s11 r ∧ σ.Le τ11 ∧ ESub ρ [(4, .bool s11)] ∧ gs = []) ?_ (fun hk11 => ?_)
 ·rintro ρ11 τ11 gs11 ⟨s11, h, hl11, hρ, rfl⟩
  refine st_es hρ ?_
  obtain rfl := Eq.symm h
  exact st_ret (gs' := []) Tryd.func72 rfl (List.Sublist.refl _) hl11 ⟨rfl, rfl⟩
 refine ZZ 6 [1, 0] rfl rfl ?_
 refine o_mif rfl rfl rfl rfl h (fun h => ?_) (fun h => ?_)
 ·refine ZZ 4 [1, 0] rfl rfl ?_
  refine o_aggEq (b := (eqN 6 0 a0.2.1 a1.2.1)) (e := (eqN 6 0 a0.2.1 a1.2.1)) rfl rfl rfl z_eqg23 rfl rfl (fun w => by exact eq_arr (xs := a0.2.1) (ys := a1.2.1) Tryd.underlying23 Tryd.underlying3 z_info3 z_cell3) rfl ?_
  refine o_pick rfl rfl rfl rfl rfl ?_
  refine o_mif rfl rfl rfl rfl h (fun h => ?_) (fun h => ?_)
  ·refine ZZ 4 [1, 0] rfl rfl ?_
   obtain ⟨r12, hr13, h⟩ := h
   refine st_call (foot := []) rfl rfl rfl rfl rfl rfl (callV_fn z_en76 (slices_Equal_msg_Point_msg_Point_ok hr13 σ hs3 hs7)) ?_
   rintro vτ14 τ14 gsτ14 hl15 ⟨rfl, rfl⟩
   refine o_pick rfl rfl rfl rfl rfl ?_
   refine o_mif rfl rfl rfl rfl h (fun h => ?_) (fun h => ?_)
   ·refine ZZ 4 [1, 0] rfl rfl ?_
    obtain ⟨r16, hr17, h⟩ := h
    refine st_call (foot := []) rfl rfl rfl rfl rfl rfl (callV_fn z_en56 (slices_Equal_int_int_ok hr17 τ14 (hs4.up hl15) (hs8.up hl15))) ?_
    rintro vτ18 τ18 gsτ18 hl19 ⟨rfl, rfl⟩
    refine o_pick rfl rfl rfl rfl rfl ?_
    refine o_mif rfl rfl rfl rfl h (fun h => ?_) (fun h => ?_)
    ·refine ZZ 6 [1, 0] rfl rfl ?_
     refine o_mif rfl rfl rfl rfl h (fun h => ?_) (fun h => ?_)
     ·refine ZZ 8 [1, 0] rfl rfl ?_
      refine st_ord [] _ rfl ?_
      exact hk11 _ _ _ ⟨(decide (a0.2.2.2.2.2 = a1.2.2.2.2.2)), h, (hl15.trans hl19), rfl, rfl⟩
     ·refine Z 8 rfl ?_
      refine st_ord [] _ rfl ?_
      exact hk11 _ _ _ ⟨false, h, (hl15.trans hl19), rfl, rfl⟩
    ·refine Z 15 rfl ?_
     refine st_ord [] _ rfl ?_
     exact hk11 _ _ _ ⟨false, h, (hl15.trans hl19), rfl, rfl⟩
   ·refine Z 22 rfl ?_
    refine st_ord [] _ rfl ?_
    exact hk11 _ _ _ ⟨false, h, hl15, rfl, rfl⟩
  ·refine Z 29 rfl ?_
   refine st_ord [] _ rfl ?_
   exact hk11 _ _ _ ⟨false, h, (Sto.Le.refl _), rfl, rfl⟩
 ·refine Z 36 rfl ?_
  refine st_ord [] _ rfl ?_
  exact hk11 _ _ _ ⟨false, h, (Sto.Le.refl _), rfl, rfl⟩
theorem msg_Check_ok {a0 : Int × List Int × List (Int × Int) × List Int × ByteArray × ByteArray} {v1 : Value} {v2 : Value} {r : Int} (h : msg_Check a0 r) (σ : Sto) (hs3 : Sl (kP (kI .i64) (kI .i64)) σ v1 a0.2.2.1) (hs4 : Sl (kI .i64) σ v2 a0.2.2.2.1) :
    Does Tryd.prog 50 [.agg [.int .i64 a0.1, .int .i64 (a0.2.1.getD 0 0), .int .i64 (a0.2.1.getD 1 0), .int .i64 (a0.2.1.getD 2 0), .int .i64 (a0.2.1.getD 3 0), .int .i64 (a0.2.1.getD 4 0), .int .i64 (a0.2.1.getD 5 0), v1, v2, .string a0.2.2.2.2.1, .string a0.2.2.2.2.2].toArray] σ [] (fun v τ gs => gs = [] ∧ .int .i64 r = v) := by
 refine call_of Tryd.func50 Tryd.ntmps50 rfl rfl (fun cs fs => ?_)
 refine Z 2 rfl ?_
 refine o_box (cs := [.int .i64 a0.1, .int .i64 (a0.2.1.getD 0 0), .int .i64 (a0.2.1.getD 1 0), .int .i64 (a0.2.1.getD 2 0), .int .i64 (a0.2.1.getD 3 0), .int .i64 (a0.2.1.getD 4 0), .int .i64 (a0.2.1.getD 5 0), v1, v2, .string a0.2.2.2.2.1, .string a0.2.2.2.2.2]) rfl rfl rfl rfl rfl (fun b5 => ?_)
 refine Z 4 rfl ?_
 refine st_draw 3 (dl [.v (.agg #[.int .i64 a0.1, .int .i64 (a0.2.1.getD 0 0), .int .i64 (a0.2.1.getD 1 0), .int .i64 (a0.2.1.getD 2 0), .int .i64 (a0.2.1.getD 3 0), .int .i64 (a0.2.1.getD 4 0), .int .i64 (a0.2.1.getD 5 0), v1, v2, .string a0.2.2.2.2.1, .string a0.2.2.2.2.2]), .t fun τ v => ∃ (b6 : Nat), (.pointer (some ⟨b6, 0, none⟩) : Value) = v, .v (.int .i64 9)]) (oneG 1 (.cells #[.int .i64 0, .int .i64 0, .int .i64 0, .int .i64 0, .int .i64 0, .int .i64 0, .int .i64 0, .slice none 0 0, .slice none 0 0, .string (bstr []), .string (bstr [])] 27 (0, 0))) z_mix rfl (dl_mono ⟨fun _ _ _ hl ⟨b6, hv⟩ => ⟨b6, hv⟩, trivial⟩) (allB_cons (allB_cons (allB_cons allB_nil ?_) ?_) (p1o dA)) ?_
 ·intro ρ' τ pool rs hl hd hout hk
  refine o_loadN (j := 0) (vs := [.int .i64 a0.1, .int .i64 (a0.2.1.getD 0 0), .int .i64 (a0.2.1.getD 1 0), .int .i64 (a0.2.1.getD 2 0), .int .i64 (a0.2.1.getD 3 0), .int .i64 (a0.2.1.getD 4 0), .int .i64 (a0.2.1.getD 5 0), v1, v2, .string a0.2.2.2.2.1, .string a0.2.2.2.2.2]) rfl rfl rfl z_agg27 ((hout 1 rfl).trans rfl) rfl rfl ?_
  exact st_addNil (hk _ _ (Sto.Le.refl _) rfl)
 ·intro ρ' τ pool rs hl hd hout hk
  refine o_alloc rfl rfl rfl z_zero27 (fun b6 => ?_)
  exact hk _ _ (Sto.Le.refl _) ⟨b6, rfl⟩
 intro ρ' τ7 vals hl7 hv hout
 obtain ⟨l1, b6, t1⟩ := hv 1 (by decide)
 replace l1 : Eng.look ρ' 4 = some (.pointer (some ⟨b6, 0, none⟩)) := l1.trans (congrArg some (Eq.symm t1))
 refine st_gs [[(b5, .cells #[.int .i64 a0.1, .int .i64 (a0.2.1.getD 0 0), .int .i64 (a0.2.1.getD 1 0), .int .i64 (a0.2.1.getD 2 0), .int .i64 (a0.2.1.getD 3 0), .int .i64 (a0.2.1.getD 4 0), .int .i64 (a0.2.1.getD 5 0), v1, v2, .string a0.2.2.2.2.1, .string a0.2.2.2.2.2] 27 (0, 0))], [(b6, .cells #[.int .i64 0, .int .i64 0, .int .i64 0, .int .i64 0, .int .i64 0, .int .i64 0, .int .i64 0, .slice none 0 0, .slice none 0 0, .string (bstr []), .string (bstr [])] 27 (0, 0))]] (by rw [oneG_flat (by decide) (Eq.symm t1)]; rfl) ?_
 refine st_env (ρ' := [(7, .agg #[.int .i64 a0.1, .int .i64 (a0.2.1.getD 0 0), .int .i64 (a0.2.1.getD 1 0), .int .i64 (a0.2.1.getD 2 0), .int .i64 (a0.2.1.getD 3 0), .int .i64 (a0.2.1.getD 4 0), .int .i64 (a0.2.1.getD 5 0), v1, v2, .string a0.2.2.2.2.1, .string a0.2.2.2.2.2]), (4, .pointer (some ⟨b6, 0, none⟩)), (3, .int .i64 9), (1, .pointer (some ⟨b5, 0, none⟩)), (2, .int .i64 0)]) ⟨(lv1 hv 0 rfl rfl), l1, (lv1 hv 2 rfl rfl), (hout 1 rfl).trans rfl, (hout 2 rfl).trans rfl, trivial⟩ ?_
 refine o_store (j := 1) (vs := [.int .i64 a0.1, .int .i64 (a0.2.1.getD 0 0), .int .i64 (a0.2.1.getD 1 0), .int .i64 (a0.2.1.getD 2 0), .int .i64 (a0.2.1.getD 3 0), .int .i64 (a0.2.1.getD 4 0), .int .i64 (a0.2.1.getD 5 0), v1, v2, .string a0.2.2.2.2.1, .string a0.2.2.2.2.2]) (cs' := [.int .i64 a0.1, .int .i64 (a0.2.1.getD 0 0), .int .i64 (a0.2.1.getD 1 0), .int .i64 (a0.2.1.getD 2 0), .int .i64 (a0.2.1.getD 3 0), .int .i64 (a0.2.1.getD 4 0), .int .i64 (a0.2.1.getD 5 0), v1, v2, .string a0.2.2.2.2.1, .string a0.2.2.2.2.2]) rfl rfl rfl z_size27 rfl rfl rfl (ones_cons rfl (ones_cons rfl (ones_cons rfl (ones_cons rfl (ones_cons rfl (ones_cons rfl (ones_cons rfl (ones_cons (hs3.up hl7).one' (ones_cons (hs4.up hl7).one' (ones_cons rfl (ones_cons rfl ones_nil))))))))))) rfl rfl rfl ?_
 refine st_gs [[(b5, .cells #[.int .i64 a0.1, .int .i64 (a0.2.1.getD 0 0), .int .i64 (a0.2.1.getD 1 0), .int .i64 (a0.2.1.getD 2 0), .int .i64 (a0.2.1.getD 3 0), .int .i64 (a0.2.1.getD 4 0), .int .i64 (a0.2.1.getD 5 0), v1, v2, .string a0.2.2.2.2.1, .string a0.2.2.2.2.2] 27 (0, 0))], [(b6, .cells #[.int .i64 a0.1, .int .i64 (a0.2.1.getD 0 0), .int .i64 (a0.2.1.getD 1 0), .int .i64 (a0.2.1.getD 2 0), .int .i64 (a0.2.1.getD 3 0), .int .i64 (a0.2.1.getD 4 0), .int .i64 (a0.2.1.getD 5 0), v1, v2, .string a0.2.2.2.2.1, .string a0.2.2.2.2.2] 27 (0, 0))]] rfl ?_
 refine Z 4 rfl ?_
 refine st_cut (fun ρ τ8 gs => ∃ (s8 : Int × Int × Int × Int × Int × Int × Int × Int × (List (Int × Int)) × List Int × ByteArray × ByteArray) (v9 : Value) (v11 : Value), msg_Check_j1 a0 s8 r ∧ τ7.Le τ8 ∧ ESub ρ [(4, .pointer (some ⟨b6, 0, none⟩)), (3, .int .i64 s8.1), (1, .pointer (some ⟨b5, 0, none⟩)), (2, .int .i64 0)] ∧ gs = [[(b5, .cells #[.int .i64 a0.1, .int .i64 (a0.2.1.getD 0 0), .int .i64 (a0.2.1.getD 1 0), .int .i64 (a0.2.1.getD 2 0), .int .i64 (a0.2.1.getD 3 0), .int .i64 (a0.2.1.getD 4 0), .int .i64 (a0.2.1.getD 5 0), v1, v2, .string a0.2.2.2.2.1, .string a0.2.2.2.2.2] 27 (0, 0))], [(b6, .cells #[.int .i64 s8.2.1, .int .i64 s8.2.2.1, .int .i64 s8.2.2.2.1, .int .i64 s8.2.2.2.2.1, .int .i64 s8.2.2.2.2.2.1, .int .i64 s8.2.2.2.2.2.2.1, .int .i64 s8.2.2.2.2.2.2.2.1, v9, v11, .string s8.2.2.2.2.2.2.2.2.2.2.1, .string s8.2.2.2.2.2.2.2.2.2.2.2] 27 (0, 0))]] ∧ Sl (kP (kI .i64) (kI .i64)) τ8 v9 s8.2.2.2.2.2.2.2.2.1 ∧ Sl (kI .i64) τ8 v11 s8.2.2.2.2.2.2.2.2.2.1) ?_ (fun hk8 => ?_)
 ·rintro ρ8 τ8 gs8 ⟨s8, v9, v11, h, hl8, hρ, rfl, hs10, hs12⟩
  refine st_es hρ ?_
  refine Z 2 rfl ?_
  refine st_cut (fun ρ τ13 gs => ∃ (s13 : Bool), msg_Check_j2 s8 s13 r ∧ τ8.Le τ13 ∧ ESub ρ [(3, .int .i64 s8.1), (2, .int .i64 0), (34, .bool s13)] ∧ gs = []) ?_ (fun hk13 => ?_)
  ·rintro ρ13 τ13 gs13 ⟨s13, h, hl13, hρ, rfl⟩
   refine st_es hρ ?_
   refine st_if rfl h (fun h => ?_) (fun h => ?_)
   ·refine Z 4 rfl ?_
    obtain rfl := Eq.symm h
    exact st_ret (gs' := []) Tryd.func50 rfl (List.Sublist.refl _) ((hl7.trans hl8).trans hl13) ⟨rfl, rfl⟩
   ·refine Z 6 rfl ?_
    obtain rfl := Eq.symm h
    exact st_ret (gs' := []) Tryd.func50 rfl (List.Sublist.refl _) ((hl7.trans hl8).trans hl13) ⟨rfl, rfl⟩
  refine Z 3 rfl ?_
  refine o_mif rfl rfl rfl rfl h (fun h => ?_) (fun h => ?_)
  ·refine ZZ 4 [1, 0] rfl rfl ?_
   obtain ⟨r14, hr15, h⟩ := h
   refine st_call (foot := []) rfl rfl rfl rfl rfl rfl (callV_fn z_en72 (msg_Same_ok hr15 τ8 hs10 hs12 Sl.nil Sl.nil)) ?_
   rintro vτ16 τ16 gsτ16 hl17 ⟨rfl, rfl⟩
   refine Z 3 rfl ?_
   refine st_ord [] _ rfl ?_
   exact hk13 _ _ _ ⟨(!r14), h, hl17, rfl, rfl⟩
  ·refine Z 8 rfl ?_
   refine st_ord [] _ rfl ?_
   exact hk13 _ _ _ ⟨false, h, (Sto.Le.refl _), rfl, rfl⟩
 refine ZZ 4 [0] rfl rfl ?_
 obtain ⟨r18, hr19, h⟩ := h
 refine st_call (foot := []) rfl rfl rfl rfl rfl rfl (callV_fn z_en69 (field_Of_ok hr19 τ7)) ?_
 rintro vτ20 τ20 gsτ20 hl21 ⟨v22, rfl, rfl, hs23⟩
 refine o_lenI rfl rfl rfl z_slT123 rfl hs23 ?_
 refine Z 2 rfl ?_
 obtain ⟨e24, hL24, hA24⟩ := h
 refine st_loop hL24 (fun (s24 : Int × Int × Int × Int × Int × Int × Int × Int × Int × (List (Int × Int)) × List Int × ByteArray × ByteArray) ρ τ24 gs => τ20.Le τ24 ∧ ∃ (v25 : Value) (v27 : Value), ESub ρ [(4, .pointer (some ⟨b6, 0, none⟩)), (3, .int .i64 s24.1), (1, .pointer (some ⟨b5, 0, none⟩)), (2, .int .i64 0), (10, v22), (11, .int .i64 (r18.length : Int)), (12, .int .i64 s24.2.1)] ∧ gs = [[(b5, .cells #[.int .i64 a0.1, .int .i64 (a0.2.1.getD 0 0), .int .i64 (a0.2.1.getD 1 0), .int .i64 (a0.2.1.getD 2 0), .int .i64 (a0.2.1.getD 3 0), .int .i64 (a0.2.1.getD 4 0), .int .i64 (a0.2.1.getD 5 0), v1, v2, .string a0.2.2.2.2.1, .string a0.2.2.2.2.2] 27 (0, 0))], [(b6, .cells #[.int .i64 s24.2.2.1, .int .i64 s24.2.2.2.1, .int .i64 s24.2.2.2.2.1, .int .i64 s24.2.2.2.2.2.1, .int .i64 s24.2.2.2.2.2.2.1, .int .i64 s24.2.2.2.2.2.2.2.1, .int .i64 s24.2.2.2.2.2.2.2.2.1, v25, v27, .string s24.2.2.2.2.2.2.2.2.2.2.2.1, .string s24.2.2.2.2.2.2.2.2.2.2.2.2] 27 (0, 0))]] ∧ Sl (kP (kI .i64) (kI .i64)) τ24 v25 s24.2.2.2.2.2.2.2.2.2.1 ∧ Sl (kI .i64) τ24 v27 s24.2.2.2.2.2.2.2.2.2.2.1) ⟨Sto.Le.refl _, _, _, rfl, rfl, (hs3.up (hl7.trans hl21)), (hs4.up (hl7.trans hl21))⟩ ?_
 rintro s24 o24 h he24 ρ24 τ24 gs24 ⟨hl24, v25, v27, hρ, rfl, hs26, hs28⟩ hn24
 refine st_es hρ ?_
 refine Z 5 rfl ?_
 refine st_if rfl h (fun h => ?_) (fun h => ?_)
 ·refine Z 5 rfl ?_
  obtain ⟨q29, hf30, h⟩ := h
  refine o_index rfl rfl rfl z_slT123 rfl rfl (hs23.up hl24) rfl hf30 (fun b31 of32 vs hc33 hrep => ?_)
  obtain ⟨_, _, rfl, rfl, ⟨_, _, rfl, rfl, ⟨_, _, rfl, rfl, ⟨_, _, rfl, rfl, ⟨_, _, rfl, rfl, ⟨_, _, rfl, rfl, rfl⟩⟩⟩⟩⟩⟩ := hrep
  refine o_loadIN (vs := [.string q29.1, .int .i64 q29.2.1, .int .i64 q29.2.2.1, .int .i64 q29.2.2.2.1, .int .i64 q29.2.2.2.2.1, .int .i64 q29.2.2.2.2.2.1, .int .i64 q29.2.2.2.2.2.2]) rfl rfl rfl z_agg126 rfl rfl (celn_part 0 rfl hc33) ?_
  refine o_alloc rfl rfl rfl z_zero126 (fun b34 => ?_)
  refine ZZ 7 [0, 1, 0] rfl rfl ?_
  obtain ⟨r35, hr36, h⟩ := h
  refine st_call (foot := []) rfl rfl rfl rfl rfl rfl (callV_fn z_en70 (msg_wrong_ok hr36 τ24 (hs3.up ((hl7.trans hl21).trans hl24)) (hs4.up ((hl7.trans hl21).trans hl24)))) ?_
  rintro vτ37 τ37 gsτ37 hl38 ⟨rfl, rfl⟩
  refine Z 7 rfl ?_
  refine st_if rfl h (fun h => ?_) (fun h => ?_)
  ·refine st_exit rfl ?_
   obtain rfl := he24 _ h
   replace h := hA24
   refine st_ord [1, 1] _ rfl ?_
   exact hk8 _ _ _ ⟨(r35, s24.2.2.1, s24.2.2.2.1, s24.2.2.2.2.1, s24.2.2.2.2.2.1, s24.2.2.2.2.2.2.1, s24.2.2.2.2.2.2.2.1, s24.2.2.2.2.2.2.2.2.1, s24.2.2.2.2.2.2.2.2.2.1, s24.2.2.2.2.2.2.2.2.2.2.1, s24.2.2.2.2.2.2.2.2.2.2.2.1, s24.2.2.2.2.2.2.2.2.2.2.2.2), _, _, h, ((hl21.trans hl24).trans hl38), rfl, rfl, (hs26.up hl38), (hs28.up hl38)⟩
  ·refine ZZ 4 [2, 0] rfl rfl ?_
   obtain ⟨r39, hr40, h⟩ := h
   refine st_call (foot := []) rfl rfl rfl rfl rfl rfl (callV_fn z_en71 (msg_without_ok hr40 τ37 (hs26.up hl38) (hs28.up hl38))) ?_
   rintro vτ41 τ41 gsτ41 hl42 ⟨v43, v44, rfl, rfl, hs45, hs46⟩
   refine o_store (j := 2) (vs := [.int .i64 r39.1, .int .i64 (r39.2.1.getD 0 0), .int .i64 (r39.2.1.getD 1 0), .int .i64 (r39.2.1.getD 2 0), .int .i64 (r39.2.1.getD 3 0), .int .i64 (r39.2.1.getD 4 0), .int .i64 (r39.2.1.getD 5 0), v43, v44, .string r39.2.2.2.2.1, .string r39.2.2.2.2.2]) (cs' := [.int .i64 r39.1, .int .i64 (r39.2.1.getD 0 0), .int .i64 (r39.2.1.getD 1 0), .int .i64 (r39.2.1.getD 2 0), .int .i64 (r39.2.1.getD 3 0), .int .i64 (r39.2.1.getD 4 0), .int .i64 (r39.2.1.getD 5 0), v43, v44, .string r39.2.2.2.2.1, .string r39.2.2.2.2.2]) rfl rfl rfl z_size27 rfl rfl rfl (ones_cons rfl (ones_cons rfl (ones_cons rfl (ones_cons rfl (ones_cons rfl (ones_cons rfl (ones_cons rfl (ones_cons hs45.one' (ones_cons hs46.one' (ones_cons rfl (ones_cons rfl ones_nil))))))))))) rfl rfl rfl ?_
   refine st_gs [[(b34, .cells #[.string q29.1, .int .i64 q29.2.1, .int .i64 q29.2.2.1, .int .i64 q29.2.2.2.1, .int .i64 q29.2.2.2.2.1, .int .i64 q29.2.2.2.2.2.1, .int .i64 q29.2.2.2.2.2.2] 126 (0, 0))], [(b5, .cells #[.int .i64 a0.1, .int .i64 (a0.2.1.getD 0 0), .int .i64 (a0.2.1.getD 1 0), .int .i64 (a0.2.1.getD 2 0), .int .i64 (a0.2.1.getD 3 0), .int .i64 (a0.2.1.getD 4 0), .int .i64 (a0.2.1.getD 5 0), v1, v2, .string a0.2.2.2.2.1, .string a0.2.2.2.2.2] 27 (0, 0))], [(b6, .cells #[.int .i64 r39.1, .int .i64 (r39.2.1.getD 0 0), .int .i64 (r39.2.1.getD 1 0), .int .i64 (r39.2.1.getD 2 0), .int .i64 (r39.2.1.getD 3 0), .int .i64 (r39.2.1.getD 4 0), .int .i64 (r39.2.1.getD 5 0), v43, v44, .string r39.2.2.2.2.1, .string r39.2.2.2.2.2] 27 (0, 0))]] rfl ?_
   refine Z 6 rfl ?_
   refine st_ord [1, 1] _ rfl ?_
   exact hn24 _ _ _ _ h ⟨((hl24.trans hl38).trans hl42), _, _, rfl, rfl, hs45, hs46⟩
 ·refine st_exit rfl ?_
  obtain rfl := he24 _ h
  replace h := hA24
  exact hk8 _ _ _ ⟨(s24.1, s24.2.2.1, s24.2.2.2.1, s24.2.2.2.2.1, s24.2.2.2.2.2.1, s24.2.2.2.2.2.2.1, s24.2.2.2.2.2.2.2.1, s24.2.2.2.2.2.2.2.2.1, s24.2.2.2.2.2.2.2.2.2.1, s24.2.2.2.2.2.2.2.2.2.2.1, s24.2.2.2.2.2.2.2.2.2.2.2.1, s24.2.2.2.2.2.2.2.2.2.2.2.2), _, _, h, (hl21.trans hl24), rfl, rfl, hs26, hs28⟩
theorem field_Word_ok {a0 : Int} {r : ByteArray} (h : field_Word a0 r) (σ : Sto)  :
    Does Tryd.prog 40 [.int .i64 a0] σ [] (fun v τ gs => gs = [] ∧ .string r = v) := by
 refine call_of Tryd.func40 Tryd.ntmps40 rfl rfl (fun cs fs => ?_)
 refine Z 2 rfl ?_
 refine o_assign rfl rfl rfl (ev_str z_str0) ?_
 refine Z 12 rfl ?_
 refine st_if rfl h (fun h => ?_) (fun h => ?_)
 ·refine Z 2 rfl ?_
  refine o_assign rfl rfl rfl (ev_str z_str23) ?_
  refine st_end ?_
  obtain rfl := Eq.symm h
  exact st_ret (gs' := []) Tryd.func40 rfl (List.Sublist.refl _) (Sto.Le.refl _) ⟨rfl, rfl⟩
 ·refine Z 5 rfl ?_
  refine st_if rfl h (fun h => ?_) (fun h => ?_)
  ·refine Z 2 rfl ?_
   refine o_assign rfl rfl rfl (ev_str z_str24) ?_
   refine st_end ?_
   obtain rfl := Eq.symm h
   exact st_ret (gs' := []) Tryd.func40 rfl (List.Sublist.refl _) (Sto.Le.refl _) ⟨rfl, rfl⟩
  ·refine Z 5 rfl ?_
   refine st_if rfl h (fun h => ?_) (fun h => ?_)
   ·refine Z 2 rfl ?_
    refine o_assign rfl rfl rfl (ev_str z_str25) ?_
    refine st_end ?_
    obtain rfl := Eq.symm h
    exact st_ret (gs' := []) Tryd.func40 rfl (List.Sublist.refl _) (Sto.Le.refl _) ⟨rfl, rfl⟩
   ·refine Z 5 rfl ?_
    refine st_if rfl h (fun h => ?_) (fun h => ?_)
    ·refine Z 2 rfl ?_
     refine o_assign rfl rfl rfl (ev_str z_str26) ?_
     refine st_end ?_
     obtain rfl := Eq.symm h
     exact st_ret (gs' := []) Tryd.func40 rfl (List.Sublist.refl _) (Sto.Le.refl _) ⟨rfl, rfl⟩
    ·refine Z 5 rfl ?_
     refine st_if rfl h (fun h => ?_) (fun h => ?_)
     ·refine Z 2 rfl ?_
      refine o_assign rfl rfl rfl (ev_str z_str27) ?_
      refine st_end ?_
      obtain rfl := Eq.symm h
      exact st_ret (gs' := []) Tryd.func40 rfl (List.Sublist.refl _) (Sto.Le.refl _) ⟨rfl, rfl⟩
     ·refine Z 4 rfl ?_
      refine o_assign rfl rfl rfl (ev_str z_str0) ?_
      refine st_end ?_
      obtain rfl := Eq.symm h
      exact st_ret (gs' := []) Tryd.func40 rfl (List.Sublist.refl _) (Sto.Le.refl _) ⟨rfl, rfl⟩
theorem field_All_1_ok {c0 : Int} {c1 : Int} {bc0 : Nat} {bc1 : Nat} {σ0 : Sto} (hc0_0 : Cel σ0 ⟨bc0, 0, none⟩ (.int .i64 c0)) (hc1_0 : Cel σ0 ⟨bc1, 0, none⟩ (.int .i64 c1)) :
    IterV Tryd.prog (fun _ x vx => vx = [.agg [.string x.1, .int .i64 x.2.1, .int .i64 x.2.2.1, .int .i64 x.2.2.2.1, .int .i64 x.2.2.2.2.1, .int .i64 x.2.2.2.2.2.1, .int .i64 x.2.2.2.2.2.2].toArray]) (.func (.func 98) #[] [.pointer (some ⟨bc0, 0, none⟩), .pointer (some ⟨bc1, 0, none⟩)].toArray) σ0 [] (fun (_ : Unit) _ f => f = []) (field_All_1 c0 c1) := by
 intro S Y I y hyc hyo hIm hY s s' o hR σ g hle hIg
 obtain ⟨r, hr0⟩ : ∃ r, r = (s', o) := ⟨_, rfl⟩
 rw [← hr0] at hR
 have h := hR
 refine callV_of (caps := [.pointer (some ⟨bc0, 0, none⟩), .pointer (some ⟨bc1, 0, none⟩)]) z_en98 ?_
 refine call_of Tryd.func98 Tryd.ntmps98 rfl rfl (fun cs fs => ?_)
 refine st_ord [0] _ rfl ?_
 refine Z 5 rfl ?_
 refine o_loadI (v := .int .i64 c0) rfl rfl rfl z_sc3 rfl (Cel.up hc0_0 hle) ?_
 obtain ⟨r1, hr2, h⟩ := h
 refine st_call (foot := []) rfl rfl rfl rfl rfl rfl (callV_fn z_en69 (field_Of_ok hr2 σ)) ?_
 rintro vτ3 τ3 gsτ3 hl4 ⟨v5, rfl, rfl, hs6⟩
 refine o_lenI rfl rfl rfl z_slT123 rfl hs6 ?_
 refine Z 2 rfl ?_
 obtain ⟨e7, hL7, hA7⟩ := h
 refine st_loop hL7 (fun (s7 : S × Int) ρ τ7 gs => τ3.Le τ7 ∧ ∃ (g8 : Grp), ESub ρ [(0, y), (2, .pointer (some ⟨bc1, 0, none⟩)), (7, v5), (8, .int .i64 (r1.length : Int)), (9, .int .i64 s7.2)] ∧ gs = [g8] ∧ I s7.1 τ7 g8) ⟨Sto.Le.refl _, g, rfl, rfl, (hIm _ _ _ _ hl4 hIg)⟩ ?_
 rintro s7 o7 h he7 ρ7 τ7 gs7 ⟨hl7, g8, hρ, rfl, hI9⟩ hn7
 refine st_es hρ ?_
 refine Z 5 rfl ?_
 refine st_if rfl h (fun h => ?_) (fun h => ?_)
 ·refine Z 2 rfl ?_
  refine st_cut (fun ρ τ10 gs => ∃ (s10 : S) (g11 : Grp), field_All_1_j2 S Y s7 s10 o7 ∧ τ7.Le τ10 ∧ ESub ρ [(0, y), (2, .pointer (some ⟨bc1, 0, none⟩)), (7, v5), (8, .int .i64 (r1.length : Int)), (9, .int .i64 s7.2)] ∧ gs = [g11] ∧ I s10 τ10 g11) ?_ (fun hk10 => ?_)
  ·rintro ρ10 τ10 gs10 ⟨s10, g11, h, hl10, hρ, rfl, hI12⟩
   refine st_es hρ ?_
   refine Z 4 rfl ?_
   exact hn7 _ _ _ _ h ⟨(hl7.trans hl10), g11, rfl, rfl, hI12⟩
  refine Z 3 rfl ?_
  obtain ⟨q13, hf14, h⟩ := h
  refine o_index rfl rfl rfl z_slT123 rfl rfl (hs6.up hl7) rfl hf14 (fun b15 of16 vs hc17 hrep => ?_)
  obtain ⟨_, _, rfl, rfl, ⟨_, _, rfl, rfl, ⟨_, _, rfl, rfl, ⟨_, _, rfl, rfl, ⟨_, _, rfl, rfl, ⟨_, _, rfl, rfl, rfl⟩⟩⟩⟩⟩⟩ := hrep
  refine o_loadIN (vs := [.string q13.1, .int .i64 q13.2.1, .int .i64 q13.2.2.1, .int .i64 q13.2.2.2.1, .int .i64 q13.2.2.2.2.1, .int .i64 q13.2.2.2.2.2.1, .int .i64 q13.2.2.2.2.2.2]) rfl rfl rfl z_agg126 rfl rfl (celn_part 0 rfl hc17) ?_
  refine o_alloc rfl rfl rfl z_zero126 (fun b18 => ?_)
  refine ZZ 7 [0, 0] rfl rfl ?_
  refine o_loadI (v := .int .i64 c1) rfl rfl rfl z_sc3 rfl (Cel.up hc1_0 ((hle.trans hl4).trans hl7)) ?_
  refine Z 2 rfl ?_
  refine st_if rfl h (fun h => ?_) (fun h => ?_)
  ·refine st_exit rfl ?_
   refine st_ord [1] _ rfl ?_
   exact hk10 _ _ _ ⟨s7.1, g8, h, (Sto.Le.refl _), rfl, rfl, hI9⟩
  ·refine ZZ 5 [0] rfl rfl ?_
   obtain ⟨y19, u20, hy21, h⟩ := h
   refine st_ord [1, 0] _ rfl ?_
   refine st_call (foot := [g8]) rfl rfl rfl rfl rfl rfl (hY q13 s7.1 _ _ _ _ _ (hle.trans (hl4.trans hl7)) hy21 rfl hI9) ?_
   rintro vτ22 τ22 gsτ22 hl23 ⟨rfl, g24, rfl, hI25⟩
   refine Z 2 rfl ?_
   refine st_if rfl h (fun h => ?_) (fun h => ?_)
   ·refine Z 2 rfl ?_
    refine st_ord [0] _ rfl ?_
    obtain rfl := he7 _ h
    replace h := hA7
    obtain rfl := Eq.symm h
    cases hr0
    exact st_fin (gs' := [g24, []]) Tryd.func98 rfl (by simp) ((hl4.trans hl7).trans hl23) ⟨g24, _, rfl, hI25, rfl⟩
   ·refine Z 2 rfl ?_
    refine st_ord [0] _ rfl ?_
    exact hk10 _ _ _ ⟨u20, g24, h, hl23, rfl, rfl, hI25⟩
 ·refine Z 2 rfl ?_
  obtain rfl := he7 _ h
  replace h := hA7
  obtain rfl := Eq.symm h
  cases hr0
  exact st_fin (gs' := [g8, []]) Tryd.func98 rfl (by simp) (hl4.trans hl7) ⟨g8, _, rfl, hI9, rfl⟩
theorem field_All_ok {a0 : Int} {a1 : Int} {r : (((S : Type) → ((ByteArray × Int × Int × Int × Int × Int × Int) → S → Bool × S → Prop) → S → S × Unit → Prop))} (h : field_All a0 a1 r) (σ : Sto)  :
    Does Tryd.prog 81 [.int .i64 a0, .int .i64 a1] σ [] (fun v τ gs => ∃ (f9 : Nat) (q10 : Array Value), gs = [] ∧ .func (.func f9) #[] q10 = v ∧ IterV Tryd.prog (fun _ x vx => vx = [.agg [.string x.1, .int .i64 x.2.1, .int .i64 x.2.2.1, .int .i64 x.2.2.2.1, .int .i64 x.2.2.2.2.1, .int .i64 x.2.2.2.2.2.1, .int .i64 x.2.2.2.2.2.2].toArray]) (.func (.func f9) #[] q10) τ [] (fun (_ : Unit) _ f => f = []) r) := by
 refine call_of Tryd.func81 Tryd.ntmps81 rfl rfl (fun cs fs => ?_)
 refine Z 2 rfl ?_
 refine o_boxC rfl rfl rfl rfl rfl rfl (fun b1 => ?_)
 refine o_boxC rfl rfl rfl rfl rfl rfl (fun b2 => ?_)
 refine Z 4 rfl ?_
 refine st_ord [1, 0] _ rfl ?_
 refine st_freeze (fun τ3 hl4 hg5 => ?_)
 refine st_freeze (fun τ6 hl7 hg8 => ?_)
 refine Z 3 rfl ?_
 obtain rfl := Eq.symm h
 exact st_ret (gs' := []) Tryd.func81 rfl (List.Sublist.refl _) (hl4.trans hl7) ⟨_, _, rfl, rfl, (field_All_1_ok (Cel.up (cel_of hg5 rfl) hl7) (cel_of hg8 rfl))⟩
theorem strings_Join_ok {a0 : List ByteArray} {a1 : ByteArray} {v1 : Value} {r : ByteArray} (h : strings_Join a0 a1 r) (σ : Sto) (hs2 : Sl kS σ v1 a0) :
    Does Tryd.prog 99 [v1, .string a1] σ [] (fun v τ gs => gs = [] ∧ .string r = v) := by
 obtain ⟨h1, h2, rfl⟩ := h
 exact join_does Tryd.strings_Join_none Tryd.strings_Join hs2 h1 h2
theorem say_hex_ok {a0 : ByteArray} {r : ByteArray} (h : say_hex a0 r) (σ : Sto)  :
    Does Tryd.prog 100 [.string a0] σ [] (fun v τ gs => gs = [] ∧ .string r = v) := by
 refine call_of Tryd.func100 Tryd.ntmps100 rfl rfl (fun cs fs => ?_)
 refine Z 2 rfl ?_
 refine o_assign rfl rfl rfl (ev_str z_str0) ?_
 refine Z 5 rfl ?_
 refine o_sbin (v := .bool (decide (a0 = (bstr [])))) rfl rfl rfl rfl (ev_str z_str0) rfl ?_
 refine st_end ?_
 refine st_if rfl h (fun h => ?_) (fun h => ?_)
 ·refine Z 2 rfl ?_
  refine o_assign rfl rfl rfl (ev_str z_str30) ?_
  refine st_end ?_
  obtain rfl := Eq.symm h
  exact st_ret (gs' := []) Tryd.func100 rfl (List.Sublist.refl _) (Sto.Le.refl _) ⟨rfl, rfl⟩
 ·refine Z 6 rfl ?_
  refine st_cut (fun ρ τ1 gs => ∃ (s1 : List Int) (v2 : Value) (g3 : Grp), say_hex_j1 s1 r ∧ σ.Le τ1 ∧ ESub ρ [(2, .string (bstr [])), (3, v2)] ∧ gs = [g3] ∧ Ow (kI .u8) 5 τ1 v2 s1 g3) ?_ (fun hk1 => ?_)
  ·rintro ρ1 τ1 gs1 ⟨s1, v2, g3, h, hl1, hρ, rfl, ho4⟩
   refine st_es hρ ?_
   refine Z 3 rfl ?_
   refine st_freeze (fun τ5 hl6 hg7 => ?_)
   have hs8 := ho4.freeze hl6 hg7
   refine o_bstr (xs := s1) rfl rfl rfl Tryd.underlying174 Tryd.underlying5 Tryd.underlying9 rfl hs8 ?_
   refine Z 2 rfl ?_
   obtain rfl := Eq.symm h
   exact st_ret (gs' := []) Tryd.func100 rfl (List.Sublist.refl _) (hl1.trans hl6) ⟨rfl, rfl⟩
  refine Z 3 rfl ?_
  obtain ⟨hf14, h⟩ := h
  refine o_bytes rfl rfl rfl Tryd.underlying9 Tryd.underlying174 Tryd.underlying5 rfl hf14 (fun v10 τ11 hl12 hs13 => ?_)
  refine o_lenI rfl rfl rfl z_slT174 rfl hs13 ?_
  refine Z 2 rfl ?_
  obtain ⟨e15, hL15, hA15⟩ := h
  refine st_addNil ?_
  refine st_loop hL15 (fun (s15 : List Int × Int) ρ τ15 gs => τ11.Le τ15 ∧ ∃ (v16 : Value) (g17 : Grp), ESub ρ [(2, .string (bstr [])), (3, v16), (9, v10), (10, .int .i64 ((bints a0).length : Int)), (11, .int .i64 s15.2)] ∧ gs = [g17] ∧ Ow (kI .u8) 5 τ15 v16 s15.1 g17) ⟨Sto.Le.refl _, _, _, rfl, rfl, Ow.nil⟩ ?_
  rintro s15 o15 h he15 ρ15 τ15 gs15 ⟨hl15, v16, g17, hρ, rfl, ho18⟩ hn15
  refine st_es hρ ?_
  refine Z 5 rfl ?_
  refine st_if rfl h (fun h => ?_) (fun h => ?_)
  ·refine Z 5 rfl ?_
   obtain ⟨q19, hf20, h⟩ := h
   refine o_index rfl rfl rfl z_slT174 rfl rfl (hs13.up hl15) rfl hf20 (fun b21 of22 vs hc23 hrep => ?_)
   obtain rfl := hrep
   refine o_loadI (v := .int .u8 q19) rfl rfl rfl z_sc5 rfl (hc23 0 _ rfl) ?_
   refine Z 2 rfl ?_
   obtain ⟨q24, hf25, q26, hf27, hf38, hf39, h⟩ := h
   refine st_d41 [] [g17] 9 1 [none, none, none, none, none, none, none, none, some (0, 0)] [none, none, none, none, none, none, none, none, none] [[none, some 23]] [.v (v16), .v (.int .u8 q19), .v (.int .u8 (ishr .u8 q19 4)), .v (.int .u8 q24), .v (.int .u8 q19), .v (.int .u8 (iand .u8 q19 15)), .v (.int .u8 q26), .t fun τ v => ∃ (v28 : Value), (v28 : Value) = v ∧ Sl (kI .u8) τ v28 [q24, q26], .t fun _ _ => True] [[fun τ u F => F = [g17], fun τ u F => ∃ (v40 : Value) (g41 : Grp), F = [g41] ∧ v40 = u ∧ Ow (kI .u8) 5 τ v40 (s15.1 ++ [q24, q26]) g41]] rfl z_mix rfl ⟨fun _ _ _ hl ⟨v28, hv, hs34⟩ => ⟨v28, hv, hs34.up hl⟩, ⟨fun _ _ _ _ _ => trivial, trivial⟩⟩ ⟨⟨fun _ _ _ _ hl h => h, ⟨fun _ _ _ _ hl h => (let ⟨v40, g41, hF, hU, ho42⟩ := h; ⟨v40, g41, hF, hU, ho42.up hl⟩), trivial⟩⟩, trivial⟩ rfl rfl ?_ (allB_cons (allB_cons (allB_cons (allB_cons (allB_cons (allB_cons (allB_cons (allB_cons (allB_cons allB_nil (p4 dA)) (p4 dA)) (p4 dA)) ?_) (p4 dA)) (p4 dA)) ?_) ?_) ?_) ?_
   ·exact rfl
   ·intro ρ' τ pool rs hl hd hout hw hk
    obtain ⟨_, e2, rfl⟩ := hd 2 rfl _ rfl
    refine o_indexS rfl rfl rfl Tryd.underlying9 (ev_str z_str31) e2 hf25 ?_
    exact hk _ _ (Sto.Le.refl _) rfl
   ·intro ρ' τ pool rs hl hd hout hw hk
    obtain ⟨_, e5, rfl⟩ := hd 5 rfl _ rfl
    refine o_indexS rfl rfl rfl Tryd.underlying9 (ev_str z_str31) e5 hf27 ?_
    exact hk _ _ (Sto.Le.refl _) rfl
   ·intro ρ' τ pool rs hl hd hout hw hk
    obtain ⟨_, e3, rfl⟩ := hd 3 rfl _ rfl
    obtain ⟨_, e6, rfl⟩ := hd 6 rfl _ rfl
    refine o_litE (eI .u8) [q24, q26] rfl rfl rfl z_slT174 z_zero5 ⟨rfl, ⟨_, e3, rfl⟩, ⟨rfl, ⟨_, e6, rfl⟩, trivial⟩⟩ rfl rfl rfl rfl (fun v28 g29 ho30 => ?_)
    refine st_freeze (fun τ31 hl32 hg33 => ?_)
    have hs34 := ho30.freeze hl32 hg33
    exact hk _ _ hl32 ⟨v28, rfl, hs34⟩
   ·intro ρ' τ u Fv pool rs hl hI hu hd hout hw hk
    obtain ⟨_, e0, rfl⟩ := hd 0 rfl _ rfl
    obtain ⟨_, e7, v28, rfl, hs34⟩ := hd 7 rfl _ rfl
    have hI0 := hI
    obtain rfl := hI
    refine st_gs [g17, pool] rfl ?_
    refine o_append (dk := (kI .u8)) (xs := s15.1) (ys := [q24, q26]) rfl rfl rfl rfl z_slT174 e0 (ho18.up hl) e7 (Sl.src hs34) hf38 hf39 (fun v35 g36 ho37 => ?_)
    exact hk _ _ [g36] (Sto.Le.refl _) trivial (by exact ⟨v35, g36, rfl, rfl, ho37⟩)
   intro ρ' τ43 vals u Fv hl43 hI hu hv hout
   obtain ⟨v40, g41, rfl, rfl, ho42⟩ := hI
   refine st_gs [g41] rfl ?_
   refine st_env (ρ' := [(2, .string (bstr [])), (9, v10), (10, .int .i64 ((bints a0).length : Int)), (11, .int .i64 s15.2), (23, v40)]) ⟨(hout 2 rfl).trans rfl, (hout 9 rfl).trans rfl, (hout 10 rfl).trans rfl, (hout 11 rfl).trans rfl, (by exact hu _ rfl), trivial⟩ ?_
   refine Z 7 rfl ?_
   exact hn15 _ _ _ _ h ⟨(hl15.trans hl43), _, _, rfl, rfl, ho42⟩
  ·refine st_exit rfl ?_
   obtain rfl := he15 _ h
   replace h := hA15
   exact hk1 _ _ _ ⟨s15.1, _, _, h, (hl12.trans hl15), rfl, rfl, ho18⟩
theorem say_value_ok {a0 : Int × List Int × List (Int × Int) × List Int × ByteArray × ByteArray} {a1 : ByteArray × Int × Int × Int × Int × Int × Int} {v1 : Value} {v2 : Value} {r : ByteArray} (h : say_value a0 a1 r) (σ : Sto) (hs3 : Sl (kP (kI .i64) (kI .i64)) σ v1 a0.2.2.1) (hs4 : Sl (kI .i64) σ v2 a0.2.2.2.1) (hT : Tab Tryd.prog σ) :
    Does Tryd.prog 82 [.agg [.int .i64 a0.1, .int .i64 (a0.2.1.getD 0 0), .int .i64 (a0.2.1.getD 1 0), .int .i64 (a0.2.1.getD 2 0), .int .i64 (a0.2.1.getD 3 0), .int .i64 (a0.2.1.getD 4 0), .int .i64 (a0.2.1.getD 5 0), v1, v2, .string a0.2.2.2.2.1, .string a0.2.2.2.2.2].toArray, .agg [.string a1.1, .int .i64 a1.2.1, .int .i64 a1.2.2.1, .int .i64 a1.2.2.2.1, .int .i64 a1.2.2.2.2.1, .int .i64 a1.2.2.2.2.2.1, .int .i64 a1.2.2.2.2.2.2].toArray] σ [] (fun v τ gs => gs = [] ∧ .string r = v) := by
 refine call_of Tryd.func82 Tryd.ntmps82 rfl rfl (fun cs fs => ?_)
 refine Z 2 rfl ?_
 refine o_box (cs := [.int .i64 a0.1, .int .i64 (a0.2.1.getD 0 0), .int .i64 (a0.2.1.getD 1 0), .int .i64 (a0.2.1.getD 2 0), .int .i64 (a0.2.1.getD 3 0), .int .i64 (a0.2.1.getD 4 0), .int .i64 (a0.2.1.getD 5 0), v1, v2, .string a0.2.2.2.2.1, .string a0.2.2.2.2.2]) rfl rfl rfl rfl rfl (fun b5 => ?_)
 refine o_boxC rfl rfl rfl rfl rfl rfl (fun b6 => ?_)
 refine o_assign rfl rfl rfl (ev_str z_str0) ?_
 refine ZZ 17 [0] rfl rfl ?_
 refine st_if rfl h (fun h => ?_) (fun h => ?_)
 ·refine st_seq ?_
  refine st_cut (fun ρ τ7 gs => ∃ (s7 : List ByteArray) (v8 : Value) (g9 : Grp), say_value_j1 s7 r ∧ σ.Le τ7 ∧ ESub ρ [(2, .pointer (some ⟨b5, 0, none⟩)), (3, .pointer (some ⟨b6, 0, none⟩)), (4, .string (bstr [])), (5, v8)] ∧ gs = [[(b5, .cells #[.int .i64 a0.1, .int .i64 (a0.2.1.getD 0 0), .int .i64 (a0.2.1.getD 1 0), .int .i64 (a0.2.1.getD 2 0), .int .i64 (a0.2.1.getD 3 0), .int .i64 (a0.2.1.getD 4 0), .int .i64 (a0.2.1.getD 5 0), v1, v2, .string a0.2.2.2.2.1, .string a0.2.2.2.2.2] 27 (0, 0))], [(b6, .cells #[.string a1.1, .int .i64 a1.2.1, .int .i64 a1.2.2.1, .int .i64 a1.2.2.2.1, .int .i64 a1.2.2.2.2.1, .int .i64 a1.2.2.2.2.2.1, .int .i64 a1.2.2.2.2.2.2] 126 (0, 0))], g9] ∧ Ow kS 9 τ7 v8 s7 g9) ?_ (fun hk7 => ?_)
  ·rintro ρ7 τ7 gs7 ⟨s7, v8, g9, h, hl7, hρ, rfl, ho10⟩
   refine st_es hρ ?_
   refine Z 3 rfl ?_
   obtain ⟨r16, hr17, h⟩ := h
   refine st_ord [2, 0, 0] _ rfl ?_
   refine st_freeze (fun τ11 hl12 hg13 => ?_)
   have hs14 := ho10.freeze hl12 hg13
   refine st_call (foot := []) rfl rfl rfl rfl (evs_cons rfl (evs_cons (ev_str z_str29) rfl)) rfl (callV_fn z_en99 (strings_Join_ok hr17 τ11 hs14)) ?_
   rintro vτ18 τ18 gsτ18 hl19 ⟨rfl, rfl⟩
   refine Z 2 rfl ?_
   refine st_ord [] _ rfl ?_
   obtain rfl := Eq.symm h
   exact st_ret (gs' := []) Tryd.func82 rfl (List.Sublist.refl _) ((hl7.trans hl12).trans hl19) ⟨rfl, rfl⟩
  refine ZZ 4 [1] rfl rfl ?_
  refine o_lenI rfl rfl rfl z_slT24 rfl hs3 ?_
  refine Z 2 rfl ?_
  obtain ⟨e20, hL20, hA20⟩ := h
  refine st_addNil ?_
  refine st_ord [2, 1, 0] _ rfl ?_
  refine st_loop hL20 (fun (s20 : List ByteArray × Int) ρ τ20 gs => σ.Le τ20 ∧ ∃ (v21 : Value) (g22 : Grp), ESub ρ [(2, .pointer (some ⟨b5, 0, none⟩)), (3, .pointer (some ⟨b6, 0, none⟩)), (4, .string (bstr [])), (5, v21), (15, v1), (16, .int .i64 (a0.2.2.1.length : Int)), (17, .int .i64 s20.2)] ∧ gs = [[(b5, .cells #[.int .i64 a0.1, .int .i64 (a0.2.1.getD 0 0), .int .i64 (a0.2.1.getD 1 0), .int .i64 (a0.2.1.getD 2 0), .int .i64 (a0.2.1.getD 3 0), .int .i64 (a0.2.1.getD 4 0), .int .i64 (a0.2.1.getD 5 0), v1, v2, .string a0.2.2.2.2.1, .string a0.2.2.2.2.2] 27 (0, 0))], [(b6, .cells #[.string a1.1, .int .i64 a1.2.1, .int .i64 a1.2.2.1, .int .i64 a1.2.2.2.1, .int .i64 a1.2.2.2.2.1, .int .i64 a1.2.2.2.2.2.1, .int .i64 a1.2.2.2.2.2.2] 126 (0, 0))], g22] ∧ Ow kS 9 τ20 v21 s20.1 g22) ⟨Sto.Le.refl _, _, _, rfl, rfl, Ow.nil⟩ ?_
  rintro s20 o20 h he20 ρ20 τ20 gs20 ⟨hl20, v21, g22, hρ, rfl, ho23⟩ hn20
  refine st_es hρ ?_
  refine Z 5 rfl ?_
  refine st_if rfl h (fun h => ?_) (fun h => ?_)
  ·refine Z 5 rfl ?_
   obtain ⟨q24, hf25, h⟩ := h
   refine o_index rfl rfl rfl z_slT24 rfl rfl (hs3.up hl20) rfl hf25 (fun b26 of27 vs hc28 hrep => ?_)
   obtain ⟨_, _, rfl, rfl, rfl⟩ := hrep
   refine o_loadIN (vs := [.int .i64 q24.1, .int .i64 q24.2]) rfl rfl rfl z_agg42 rfl rfl (celn_part 0 rfl hc28) ?_
   refine o_alloc rfl rfl rfl z_zero42 (fun b29 => ?_)
   refine ZZ 2 [0] rfl rfl ?_
   obtain ⟨r30, hr31, hf34, r35, hr36, hf39, hf50, hf51, h⟩ := h
   refine st_d41 [[(b29, .cells #[.int .i64 q24.1, .int .i64 q24.2] 42 (0, 0))], [(b5, .cells #[.int .i64 a0.1, .int .i64 (a0.2.1.getD 0 0), .int .i64 (a0.2.1.getD 1 0), .int .i64 (a0.2.1.getD 2 0), .int .i64 (a0.2.1.getD 3 0), .int .i64 (a0.2.1.getD 4 0), .int .i64 (a0.2.1.getD 5 0), v1, v2, .string a0.2.2.2.2.1, .string a0.2.2.2.2.2] 27 (0, 0))], [(b6, .cells #[.string a1.1, .int .i64 a1.2.1, .int .i64 a1.2.2.1, .int .i64 a1.2.2.2.1, .int .i64 a1.2.2.2.2.1, .int .i64 a1.2.2.2.2.2.1, .int .i64 a1.2.2.2.2.2.2] 126 (0, 0))]] [g22] 11 1 [none, none, none, none, none, none, none, none, none, none, some (0, 0)] [none, none, none, none, none, none, none, none, none, none, none] [[none, some 31]] [.v (v21), .v (.pointer (some ⟨b29, 0, none⟩)), .v (.int .i64 q24.1), .v (.string r30), .v (.string (r30 ++ (bstr [44]))), .v (.pointer (some ⟨b29, 1, none⟩)), .v (.int .i64 q24.2), .v (.string r35), .v (.string ((r30 ++ (bstr [44])) ++ r35)), .t fun τ v => ∃ (v40 : Value), (v40 : Value) = v ∧ Sl kS τ v40 [((r30 ++ (bstr [44])) ++ r35)], .t fun _ _ => True] [[fun τ u F => F = [g22], fun τ u F => ∃ (v52 : Value) (g53 : Grp), F = [g53] ∧ v52 = u ∧ Ow kS 9 τ v52 (s20.1 ++ [((r30 ++ (bstr [44])) ++ r35)]) g53]] rfl z_mix rfl ⟨fun _ _ _ hl ⟨v40, hv, hs46⟩ => ⟨v40, hv, hs46.up hl⟩, ⟨fun _ _ _ _ _ => trivial, trivial⟩⟩ ⟨⟨fun _ _ _ _ hl h => h, ⟨fun _ _ _ _ hl h => (let ⟨v52, g53, hF, hU, ho54⟩ := h; ⟨v52, g53, hF, hU, ho54.up hl⟩), trivial⟩⟩, trivial⟩ rfl rfl ?_ (allB_cons (allB_cons (allB_cons (allB_cons (allB_cons (allB_cons (allB_cons (allB_cons (allB_cons (allB_cons (allB_cons allB_nil (p4 dA)) (p4 dA)) ?_) ?_) ?_) (p4 dA)) ?_) ?_) ?_) ?_) ?_) ?_
   ·exact rfl
   ·intro ρ' τ pool rs hl hd hout hw hk
    obtain ⟨_, e1, rfl⟩ := hd 1 rfl _ rfl
    refine o_load (j := 0) (v := .int .i64 q24.1) rfl rfl rfl z_sc3 e1 rfl rfl ?_
    exact hk _ _ (Sto.Le.refl _) rfl
   ·intro ρ' τ pool rs hl hd hout hw hk
    obtain ⟨_, e2, rfl⟩ := hd 2 rfl _ rfl
    refine st_call (foot := []) rfl rfl rfl rfl (evs_cons e2 rfl) rfl (callV_fn z_en45 (say_Number_ok hr31 τ (hT.up (hl20.trans hl)))) ?_
    rintro vτ32 τ32 gsτ32 hl33 ⟨rfl, rfl⟩
    exact hk _ _ hl33 rfl
   ·intro ρ' τ pool rs hl hd hout hw hk
    obtain ⟨_, e3, rfl⟩ := hd 3 rfl _ rfl
    refine o_sadd rfl rfl rfl e3 (ev_str z_str28) hf34 ?_
    exact hk _ _ (Sto.Le.refl _) rfl
   ·intro ρ' τ pool rs hl hd hout hw hk
    obtain ⟨_, e5, rfl⟩ := hd 5 rfl _ rfl
    refine o_load (j := 0) (v := .int .i64 q24.2) rfl rfl rfl z_sc3 e5 rfl rfl ?_
    exact hk _ _ (Sto.Le.refl _) rfl
   ·intro ρ' τ pool rs hl hd hout hw hk
    obtain ⟨_, e6, rfl⟩ := hd 6 rfl _ rfl
    refine st_call (foot := []) rfl rfl rfl rfl (evs_cons e6 rfl) rfl (callV_fn z_en45 (say_Number_ok hr36 τ (hT.up (hl20.trans hl)))) ?_
    rintro vτ37 τ37 gsτ37 hl38 ⟨rfl, rfl⟩
    exact hk _ _ hl38 rfl
   ·intro ρ' τ pool rs hl hd hout hw hk
    obtain ⟨_, e4, rfl⟩ := hd 4 rfl _ rfl
    obtain ⟨_, e7, rfl⟩ := hd 7 rfl _ rfl
    refine o_sadd rfl rfl rfl e4 e7 hf39 ?_
    exact hk _ _ (Sto.Le.refl _) rfl
   ·intro ρ' τ pool rs hl hd hout hw hk
    obtain ⟨_, e8, rfl⟩ := hd 8 rfl _ rfl
    refine o_litE eS [((r30 ++ (bstr [44])) ++ r35)] rfl rfl rfl z_slT59 z_zero9 ⟨rfl, ⟨_, e8, rfl⟩, trivial⟩ rfl rfl rfl rfl (fun v40 g41 ho42 => ?_)
    refine st_freeze (fun τ43 hl44 hg45 => ?_)
    have hs46 := ho42.freeze hl44 hg45
    exact hk _ _ hl44 ⟨v40, rfl, hs46⟩
   ·intro ρ' τ u Fv pool rs hl hI hu hd hout hw hk
    obtain ⟨_, e0, rfl⟩ := hd 0 rfl _ rfl
    obtain ⟨_, e9, v40, rfl, hs46⟩ := hd 9 rfl _ rfl
    have hI0 := hI
    obtain rfl := hI
    refine st_gs [[(b29, .cells #[.int .i64 q24.1, .int .i64 q24.2] 42 (0, 0))], [(b5, .cells #[.int .i64 a0.1, .int .i64 (a0.2.1.getD 0 0), .int .i64 (a0.2.1.getD 1 0), .int .i64 (a0.2.1.getD 2 0), .int .i64 (a0.2.1.getD 3 0), .int .i64 (a0.2.1.getD 4 0), .int .i64 (a0.2.1.getD 5 0), v1, v2, .string a0.2.2.2.2.1, .string a0.2.2.2.2.2] 27 (0, 0))], [(b6, .cells #[.string a1.1, .int .i64 a1.2.1, .int .i64 a1.2.2.1, .int .i64 a1.2.2.2.1, .int .i64 a1.2.2.2.2.1, .int .i64 a1.2.2.2.2.2.1, .int .i64 a1.2.2.2.2.2.2] 126 (0, 0))], g22, pool] rfl ?_
    refine st_ord [3, 0, 0, 0, 0] _ rfl ?_
    refine o_append (dk := kS) (xs := s20.1) (ys := [((r30 ++ (bstr [44])) ++ r35)]) rfl rfl rfl rfl z_slT59 e0 (ho23.up hl) e9 (Sl.src hs46) hf50 hf51 (fun v47 g48 ho49 => ?_)
    refine st_ord [1, 1, 1, 0, 0] _ rfl ?_
    exact hk _ _ [g48] (Sto.Le.refl _) trivial (by exact ⟨v47, g48, rfl, rfl, ho49⟩)
   intro ρ' τ55 vals u Fv hl55 hI hu hv hout
   obtain ⟨v52, g53, rfl, rfl, ho54⟩ := hI
   refine st_gs [[(b29, .cells #[.int .i64 q24.1, .int .i64 q24.2] 42 (0, 0))], [(b5, .cells #[.int .i64 a0.1, .int .i64 (a0.2.1.getD 0 0), .int .i64 (a0.2.1.getD 1 0), .int .i64 (a0.2.1.getD 2 0), .int .i64 (a0.2.1.getD 3 0), .int .i64 (a0.2.1.getD 4 0), .int .i64 (a0.2.1.getD 5 0), v1, v2, .string a0.2.2.2.2.1, .string a0.2.2.2.2.2] 27 (0, 0))], [(b6, .cells #[.string a1.1, .int .i64 a1.2.1, .int .i64 a1.2.2.1, .int .i64 a1.2.2.2.1, .int .i64 a1.2.2.2.2.1, .int .i64 a1.2.2.2.2.2.1, .int .i64 a1.2.2.2.2.2.2] 126 (0, 0))], g53] rfl ?_
   refine st_env (ρ' := [(2, .pointer (some ⟨b5, 0, none⟩)), (3, .pointer (some ⟨b6, 0, none⟩)), (4, .string (bstr [])), (15, v1), (16, .int .i64 (a0.2.2.1.length : Int)), (17, .int .i64 s20.2), (31, v52)]) ⟨(hout 2 rfl).trans rfl, (hout 3 rfl).trans rfl, (hout 4 rfl).trans rfl, (hout 15 rfl).trans rfl, (hout 16 rfl).trans rfl, (hout 17 rfl).trans rfl, (by exact hu _ rfl), trivial⟩ ?_
   refine Z 7 rfl ?_
   refine st_ord [1, 1, 1] _ rfl ?_
   exact hn20 _ _ _ _ h ⟨(hl20.trans hl55), _, _, rfl, rfl, ho54⟩
  ·refine st_exit rfl ?_
   obtain rfl := he20 _ h
   replace h := hA20
   exact hk7 _ _ _ ⟨s20.1, _, _, h, hl20, rfl, rfl, ho23⟩
 ·refine Z 5 rfl ?_
  refine st_if rfl h (fun h => ?_) (fun h => ?_)
  ·refine st_seq ?_
   refine st_cut (fun ρ τ57 gs => ∃ (s57 : List ByteArray) (v58 : Value) (g59 : Grp), say_value_j3 s57 r ∧ σ.Le τ57 ∧ ESub ρ [(2, .pointer (some ⟨b5, 0, none⟩)), (3, .pointer (some ⟨b6, 0, none⟩)), (4, .string (bstr [])), (5, v58)] ∧ gs = [[(b5, .cells #[.int .i64 a0.1, .int .i64 (a0.2.1.getD 0 0), .int .i64 (a0.2.1.getD 1 0), .int .i64 (a0.2.1.getD 2 0), .int .i64 (a0.2.1.getD 3 0), .int .i64 (a0.2.1.getD 4 0), .int .i64 (a0.2.1.getD 5 0), v1, v2, .string a0.2.2.2.2.1, .string a0.2.2.2.2.2] 27 (0, 0))], [(b6, .cells #[.string a1.1, .int .i64 a1.2.1, .int .i64 a1.2.2.1, .int .i64 a1.2.2.2.1, .int .i64 a1.2.2.2.2.1, .int .i64 a1.2.2.2.2.2.1, .int .i64 a1.2.2.2.2.2.2] 126 (0, 0))], g59] ∧ Ow kS 9 τ57 v58 s57 g59) ?_ (fun hk57 => ?_)
   ·rintro ρ57 τ57 gs57 ⟨s57, v58, g59, h, hl57, hρ, rfl, ho60⟩
    refine st_es hρ ?_
    refine Z 3 rfl ?_
    obtain ⟨r66, hr67, h⟩ := h
    refine st_ord [2, 0, 0] _ rfl ?_
    refine st_freeze (fun τ61 hl62 hg63 => ?_)
    have hs64 := ho60.freeze hl62 hg63
    refine st_call (foot := []) rfl rfl rfl rfl (evs_cons rfl (evs_cons (ev_str z_str28) rfl)) rfl (callV_fn z_en99 (strings_Join_ok hr67 τ61 hs64)) ?_
    rintro vτ68 τ68 gsτ68 hl69 ⟨rfl, rfl⟩
    refine Z 2 rfl ?_
    refine st_ord [] _ rfl ?_
    obtain rfl := Eq.symm h
    exact st_ret (gs' := []) Tryd.func82 rfl (List.Sublist.refl _) ((hl57.trans hl62).trans hl69) ⟨rfl, rfl⟩
   refine ZZ 4 [1] rfl rfl ?_
   refine o_lenI rfl rfl rfl z_slT25 rfl hs4 ?_
   refine Z 2 rfl ?_
   obtain ⟨e70, hL70, hA70⟩ := h
   refine st_addNil ?_
   refine st_ord [2, 1, 0] _ rfl ?_
   refine st_loop hL70 (fun (s70 : List ByteArray × Int) ρ τ70 gs => σ.Le τ70 ∧ ∃ (v71 : Value) (g72 : Grp), ESub ρ [(2, .pointer (some ⟨b5, 0, none⟩)), (3, .pointer (some ⟨b6, 0, none⟩)), (4, .string (bstr [])), (5, v71), (38, v2), (39, .int .i64 (a0.2.2.2.1.length : Int)), (40, .int .i64 s70.2)] ∧ gs = [[(b5, .cells #[.int .i64 a0.1, .int .i64 (a0.2.1.getD 0 0), .int .i64 (a0.2.1.getD 1 0), .int .i64 (a0.2.1.getD 2 0), .int .i64 (a0.2.1.getD 3 0), .int .i64 (a0.2.1.getD 4 0), .int .i64 (a0.2.1.getD 5 0), v1, v2, .string a0.2.2.2.2.1, .string a0.2.2.2.2.2] 27 (0, 0))], [(b6, .cells #[.string a1.1, .int .i64 a1.2.1, .int .i64 a1.2.2.1, .int .i64 a1.2.2.2.1, .int .i64 a1.2.2.2.2.1, .int .i64 a1.2.2.2.2.2.1, .int .i64 a1.2.2.2.2.2.2] 126 (0, 0))], g72] ∧ Ow kS 9 τ70 v71 s70.1 g72) ⟨Sto.Le.refl _, _, _, rfl, rfl, Ow.nil⟩ ?_
   rintro s70 o70 h he70 ρ70 τ70 gs70 ⟨hl70, v71, g72, hρ, rfl, ho73⟩ hn70
   refine st_es hρ ?_
   refine Z 5 rfl ?_
   refine st_if rfl h (fun h => ?_) (fun h => ?_)
   ·refine Z 5 rfl ?_
    obtain ⟨q74, hf75, h⟩ := h
    refine o_index rfl rfl rfl z_slT25 rfl rfl (hs4.up hl70) rfl hf75 (fun b76 of77 vs hc78 hrep => ?_)
    obtain rfl := hrep
    refine o_loadI (v := .int .i64 q74) rfl rfl rfl z_sc3 rfl (hc78 0 _ rfl) ?_
    refine Z 5 rfl ?_
    obtain ⟨r79, hr80, h⟩ := h
    refine st_call (foot := []) rfl rfl rfl rfl rfl rfl (callV_fn z_en45 (say_Number_ok hr80 τ70 (hT.up hl70))) ?_
    rintro vτ81 τ81 gsτ81 hl82 ⟨rfl, rfl⟩
    refine o_litE eS [r79] rfl rfl rfl z_slT59 z_zero9 ⟨rfl, ⟨_, rfl, rfl⟩, trivial⟩ rfl rfl rfl rfl (fun v83 g84 ho85 => ?_)
    obtain ⟨hf89, hf90, h⟩ := h
    refine st_ord [3, 0, 0, 0] _ rfl ?_
    refine o_append (dk := kS) (xs := s70.1) (ys := [r79]) rfl rfl rfl rfl z_slT59 rfl (ho73.up hl82) rfl (Ow.src (j := 1) ho85 rfl) hf89 hf90 (fun v86 g87 ho88 => ?_)
    refine Z 7 rfl ?_
    refine st_ord [2, 2, 0] _ rfl ?_
    exact hn70 _ _ _ _ h ⟨(hl70.trans hl82), _, _, rfl, rfl, ho88⟩
   ·refine st_exit rfl ?_
    obtain rfl := he70 _ h
    replace h := hA70
    exact hk57 _ _ _ ⟨s70.1, _, _, h, hl70, rfl, rfl, ho73⟩
  ·refine Z 5 rfl ?_
   refine st_if rfl h (fun h => ?_) (fun h => ?_)
   ·refine ZZ 4 [1] rfl rfl ?_
    obtain ⟨r92, hr93, h⟩ := h
    refine st_call (foot := []) rfl rfl rfl rfl rfl rfl (callV_fn z_en100 (say_hex_ok hr93 σ)) ?_
    rintro vτ94 τ94 gsτ94 hl95 ⟨rfl, rfl⟩
    refine Z 2 rfl ?_
    refine st_ord [] _ rfl ?_
    obtain rfl := Eq.symm h
    exact st_ret (gs' := []) Tryd.func82 rfl (List.Sublist.refl _) hl95 ⟨rfl, rfl⟩
   ·refine Z 5 rfl ?_
    refine st_if rfl h (fun h => ?_) (fun h => ?_)
    ·refine ZZ 4 [1] rfl rfl ?_
     obtain ⟨r96, hr97, h⟩ := h
     refine st_call (foot := []) rfl rfl rfl rfl rfl rfl (callV_fn z_en100 (say_hex_ok hr97 σ)) ?_
     rintro vτ98 τ98 gsτ98 hl99 ⟨rfl, rfl⟩
     refine Z 2 rfl ?_
     refine st_ord [] _ rfl ?_
     obtain rfl := Eq.symm h
     exact st_ret (gs' := []) Tryd.func82 rfl (List.Sublist.refl _) hl99 ⟨rfl, rfl⟩
    ·refine ZZ 7 [0] rfl rfl ?_
     obtain ⟨hf100, hf101, h⟩ := h
     refine o_indexA rfl rfl rfl z_arr23 rfl rfl hf100 hf101 ?_
     refine o_loadV (j := 1) (a1.2.2.1.toNat) (f := (Value.int .i64)) (zz := 0) (l := 6) (xs := a0.2.1) [.int .i64 a0.1] [v1, v2, .string a0.2.2.2.2.1, .string a0.2.2.2.2.2] rfl rfl rfl z_sc3 rfl rfl (by simp only [List.length_cons, List.length_nil] <;> omega) (by omega) ?_
     obtain ⟨r102, hr103, h⟩ := h
     refine st_call (foot := []) rfl rfl rfl rfl rfl rfl (callV_fn z_en45 (say_Number_ok hr103 σ hT)) ?_
     rintro vτ104 τ104 gsτ104 hl105 ⟨rfl, rfl⟩
     refine Z 2 rfl ?_
     refine st_ord [] _ rfl ?_
     obtain rfl := Eq.symm h
     exact st_ret (gs' := []) Tryd.func82 rfl (List.Sublist.refl _) hl105 ⟨rfl, rfl⟩
theorem say_Line_ok {a0 : Int × List Int × List (Int × Int) × List Int × ByteArray × ByteArray} {v1 : Value} {v2 : Value} {r : ByteArray} (h : say_Line a0 r) (σ : Sto) (hs3 : Sl (kP (kI .i64) (kI .i64)) σ v1 a0.2.2.1) (hs4 : Sl (kI .i64) σ v2 a0.2.2.2.1) (hT : Tab Tryd.prog σ) :
    Does Tryd.prog 62 [.agg [.int .i64 a0.1, .int .i64 (a0.2.1.getD 0 0), .int .i64 (a0.2.1.getD 1 0), .int .i64 (a0.2.1.getD 2 0), .int .i64 (a0.2.1.getD 3 0), .int .i64 (a0.2.1.getD 4 0), .int .i64 (a0.2.1.getD 5 0), v1, v2, .string a0.2.2.2.2.1, .string a0.2.2.2.2.2].toArray] σ [] (fun v τ gs => gs = [] ∧ .string r = v) := by
 refine call_of Tryd.func62 Tryd.ntmps62 rfl rfl (fun cs fs => ?_)
 refine Z 2 rfl ?_
 refine o_box (cs := [.int .i64 a0.1, .int .i64 (a0.2.1.getD 0 0), .int .i64 (a0.2.1.getD 1 0), .int .i64 (a0.2.1.getD 2 0), .int .i64 (a0.2.1.getD 3 0), .int .i64 (a0.2.1.getD 4 0), .int .i64 (a0.2.1.getD 5 0), v1, v2, .string a0.2.2.2.2.1, .string a0.2.2.2.2.2]) rfl rfl rfl rfl rfl (fun b5 => ?_)
 refine o_assign rfl rfl rfl (ev_str z_str0) ?_
 refine ZZ 5 [0] rfl rfl ?_
 obtain ⟨r6, hr7, h⟩ := h
 refine st_call (foot := []) rfl rfl rfl rfl rfl rfl (callV_fn z_en50 (msg_Check_ok hr7 σ hs3 hs4)) ?_
 rintro vτ8 τ8 gsτ8 hl9 ⟨rfl, rfl⟩
 refine Z 2 rfl ?_
 refine st_if rfl h (fun h => ?_) (fun h => ?_)
 ·refine Z 2 rfl ?_
  refine o_assign rfl rfl rfl (ev_str z_str0) ?_
  refine st_end ?_
  refine st_ord [] _ rfl ?_
  obtain rfl := Eq.symm h
  exact st_ret (gs' := []) Tryd.func62 rfl (List.Sublist.refl _) hl9 ⟨rfl, rfl⟩
 ·refine ZZ 5 [0] rfl rfl ?_
  obtain ⟨r10, hr11, h⟩ := h
  refine st_call (foot := []) rfl rfl rfl rfl rfl rfl (callV_fn z_en40 (field_Word_ok hr11 τ8)) ?_
  rintro vτ12 τ12 gsτ12 hl13 ⟨rfl, rfl⟩
  refine o_alloc rfl rfl rfl z_zero9 (fun b14 => ?_)
  refine ZZ 7 [0, 1] rfl rfl ?_
  obtain ⟨r15, hr16, h⟩ := h
  refine st_call (foot := []) rfl rfl rfl rfl rfl rfl (callV_fn z_en81 (field_All_ok hr16 τ12)) ?_
  rintro vτ17 τ17 gsτ17 hl18 ⟨f19, q20, rfl, rfl, hit21⟩
  refine Z 2 rfl ?_
  obtain ⟨t22, w22, hR22, hA22⟩ := h
  refine st_env (ρ' := [(1, .pointer (some ⟨b5, 0, none⟩)), (2, .string (bstr [])), (3, .pointer (some ⟨b14, 0, none⟩)), (13, .func (.func f19) #[] q20)]) ⟨rfl, rfl, rfl, rfl, trivial⟩ ?_
  refine st_ord [1, 0] _ rfl ?_
  refine st_addNil ?_
  refine st_range (B := say_Line_l1 a0) (s0 := r10) ranges_fctx rfl hit21 (Sto.Le.refl _) hR22 rfl (fun _ _ _ h => by cases h; rfl) (fun (s22 : ByteArray) τ22 gs => τ17.Le τ22 ∧ gs = [[(b5, .cells #[.int .i64 a0.1, .int .i64 (a0.2.1.getD 0 0), .int .i64 (a0.2.1.getD 1 0), .int .i64 (a0.2.1.getD 2 0), .int .i64 (a0.2.1.getD 3 0), .int .i64 (a0.2.1.getD 4 0), .int .i64 (a0.2.1.getD 5 0), v1, v2, .string a0.2.2.2.2.1, .string a0.2.2.2.2.2] 27 (0, 0))], [(b14, .cells #[.string s22] 9 (0, 0))]]) (fun _ _ _ _ => False) (fun _ _ _ _ hl ⟨hb, hg⟩ => ⟨hb.trans hl, hg⟩) (fun _ _ _ _ _ _ h => h.elim) ⟨Sto.Le.refl _, rfl⟩ ?_ ?_ ?_
  ·rintro x22 s22 o22 τ22 gs22 vx22 hl22 h rfl ⟨hb22, rfl⟩ l22 rc22 caller22 cs22 fs22
   refine st_region ?_
   refine o_alloc rfl rfl rfl z_zero126 (fun b23 => ?_)
   refine ZZ 2 [0] rfl rfl ?_
   refine st_begin ?_
   refine st_block ?_
   obtain ⟨hf24, hf25, r26, hr27, hf30, hf31, h⟩ := h
   refine st_draw 10 (dl [.v (.string s22), .v (.pointer (some ⟨b23, 0, none⟩)), .v (.string x22.1), .v (.string ((bstr [32]) ++ x22.1)), .v (.string (((bstr [32]) ++ x22.1) ++ (bstr [32]))), .v (.agg #[.int .i64 a0.1, .int .i64 (a0.2.1.getD 0 0), .int .i64 (a0.2.1.getD 1 0), .int .i64 (a0.2.1.getD 2 0), .int .i64 (a0.2.1.getD 3 0), .int .i64 (a0.2.1.getD 4 0), .int .i64 (a0.2.1.getD 5 0), v1, v2, .string a0.2.2.2.2.1, .string a0.2.2.2.2.2]), .v (.agg #[.string x22.1, .int .i64 x22.2.1, .int .i64 x22.2.2.1, .int .i64 x22.2.2.2.1, .int .i64 x22.2.2.2.2.1, .int .i64 x22.2.2.2.2.2.1, .int .i64 x22.2.2.2.2.2.2]), .v (.string r26), .v (.string ((((bstr [32]) ++ x22.1) ++ (bstr [32])) ++ r26)), .v (.string (s22 ++ ((((bstr [32]) ++ x22.1) ++ (bstr [32])) ++ r26)))]) (fun _ _ => []) z_mix rfl (dl_mono trivial) (allB_cons (allB_cons (allB_cons (allB_cons (allB_cons (allB_cons (allB_cons (allB_cons (allB_cons (allB_cons allB_nil ?_) (p1 dA)) ?_) ?_) ?_) ?_) ?_) ?_) ?_) ?_) ?_
   ·intro ρ' τ pool rs hl hd hout hk
    refine o_load (j := 2) (v := .string s22) rfl rfl rfl z_sc9 ((hout 3 rfl).trans rfl) rfl rfl ?_
    exact st_addNil (hk _ _ (Sto.Le.refl _) rfl)
   ·intro ρ' τ pool rs hl hd hout hk
    obtain ⟨_, e1, rfl⟩ := hd 1 rfl
    refine o_load (j := 0) (v := .string x22.1) rfl rfl rfl z_sc9 e1 rfl rfl ?_
    exact st_addNil (hk _ _ (Sto.Le.refl _) rfl)
   ·intro ρ' τ pool rs hl hd hout hk
    obtain ⟨_, e2, rfl⟩ := hd 2 rfl
    refine o_sadd rfl rfl rfl (ev_str z_str3) e2 hf24 ?_
    exact st_addNil (hk _ _ (Sto.Le.refl _) rfl)
   ·intro ρ' τ pool rs hl hd hout hk
    obtain ⟨_, e3, rfl⟩ := hd 3 rfl
    refine o_sadd rfl rfl rfl e3 (ev_str z_str3) hf25 ?_
    exact st_addNil (hk _ _ (Sto.Le.refl _) rfl)
   ·intro ρ' τ pool rs hl hd hout hk
    refine o_loadN (j := 1) (vs := [.int .i64 a0.1, .int .i64 (a0.2.1.getD 0 0), .int .i64 (a0.2.1.getD 1 0), .int .i64 (a0.2.1.getD 2 0), .int .i64 (a0.2.1.getD 3 0), .int .i64 (a0.2.1.getD 4 0), .int .i64 (a0.2.1.getD 5 0), v1, v2, .string a0.2.2.2.2.1, .string a0.2.2.2.2.2]) rfl rfl rfl z_agg27 ((hout 1 rfl).trans rfl) rfl rfl ?_
    exact st_addNil (hk _ _ (Sto.Le.refl _) rfl)
   ·intro ρ' τ pool rs hl hd hout hk
    refine o_loadN (j := 0) (vs := [.string x22.1, .int .i64 x22.2.1, .int .i64 x22.2.2.1, .int .i64 x22.2.2.2.1, .int .i64 x22.2.2.2.2.1, .int .i64 x22.2.2.2.2.2.1, .int .i64 x22.2.2.2.2.2.2]) rfl rfl rfl z_agg126 ((hout 4 rfl).trans rfl) rfl rfl ?_
    exact st_addNil (hk _ _ (Sto.Le.refl _) rfl)
   ·intro ρ' τ pool rs hl hd hout hk
    obtain ⟨_, e5, rfl⟩ := hd 5 rfl
    obtain ⟨_, e6, rfl⟩ := hd 6 rfl
    refine st_call (foot := []) rfl rfl rfl rfl (evs_cons e5 (evs_cons e6 rfl)) rfl (callV_fn z_en82 (say_value_ok hr27 τ (hs3.up ((((hl9.trans hl13).trans hl18).trans hl22).trans hl)) (hs4.up ((((hl9.trans hl13).trans hl18).trans hl22).trans hl)) (hT.up ((((hl9.trans hl13).trans hl18).trans hl22).trans hl)))) ?_
    rintro vτ28 τ28 gsτ28 hl29 ⟨rfl, rfl⟩
    exact st_addNil (hk _ _ hl29 rfl)
   ·intro ρ' τ pool rs hl hd hout hk
    obtain ⟨_, e4, rfl⟩ := hd 4 rfl
    obtain ⟨_, e7, rfl⟩ := hd 7 rfl
    refine o_sadd rfl rfl rfl e4 e7 hf30 ?_
    exact st_addNil (hk _ _ (Sto.Le.refl _) rfl)
   ·intro ρ' τ pool rs hl hd hout hk
    obtain ⟨_, e0, rfl⟩ := hd 0 rfl
    obtain ⟨_, e8, rfl⟩ := hd 8 rfl
    refine o_sadd rfl rfl rfl e0 e8 hf31 ?_
    exact st_addNil (hk _ _ (Sto.Le.refl _) rfl)
   intro ρ' τ32 vals hl32 hv hout
   refine st_ord [0, 0, 0] _ rfl ?_
   refine st_env (ρ' := [(24, .string (s22 ++ ((((bstr [32]) ++ x22.1) ++ (bstr [32])) ++ r26))), (1, .pointer (some ⟨b5, 0, none⟩)), (2, .string (bstr [])), (3, .pointer (some ⟨b14, 0, none⟩)), (14, .agg #[.string x22.1, .int .i64 x22.2.1, .int .i64 x22.2.2.1, .int .i64 x22.2.2.2.1, .int .i64 x22.2.2.2.2.1, .int .i64 x22.2.2.2.2.2.1, .int .i64 x22.2.2.2.2.2.2]), (4, .pointer (some ⟨b23, 0, none⟩))]) ⟨(lv1 hv 9 rfl rfl), (hout 1 rfl).trans rfl, (hout 2 rfl).trans rfl, (hout 3 rfl).trans rfl, (hout 14 rfl).trans rfl, (hout 4 rfl).trans rfl, trivial⟩ ?_
   refine ZZ 3 [2] rfl rfl ?_
   refine st_ord [1, 1] _ rfl ?_
   exact st_rend (List.Sublist.refl _) hl32 ⟨_, h, (hl22.trans hl32), rfl⟩
  ·rintro p33 τ34 gs22 f22 ht hl35 ⟨hb, rfl⟩ rfl
   subst ht
   replace h := hA22
   refine st_ord [1, 1] _ rfl ?_
   refine ZZ 6 [1] rfl rfl ?_
   refine st_ord [] _ rfl ?_
   obtain rfl := Eq.symm h
   exact st_ret (gs' := []) Tryd.func62 rfl (List.Sublist.refl _) (((hl9.trans hl13).trans hl18).trans hl35) ⟨rfl, rfl⟩
  ·exact fun _ _ _ _ _ _ _ h => h.elim
theorem event_Word_ok {a0 : Int} {r : ByteArray} (h : event_Word a0 r) (σ : Sto)  :
    Does Tryd.prog 47 [.int .i64 a0] σ [] (fun v τ gs => gs = [] ∧ .string r = v) := by
 refine call_of Tryd.func47 Tryd.ntmps47 rfl rfl (fun cs fs => ?_)
 refine Z 2 rfl ?_
 refine o_assign rfl rfl rfl (ev_str z_str0) ?_
 refine Z 12 rfl ?_
 refine st_if rfl h (fun h => ?_) (fun h => ?_)
 ·refine Z 2 rfl ?_
  refine o_assign rfl rfl rfl (ev_str z_str33) ?_
  refine st_end ?_
  obtain rfl := Eq.symm h
  exact st_ret (gs' := []) Tryd.func47 rfl (List.Sublist.refl _) (Sto.Le.refl _) ⟨rfl, rfl⟩
 ·refine Z 5 rfl ?_
  refine st_if rfl h (fun h => ?_) (fun h => ?_)
  ·refine Z 2 rfl ?_
   refine o_assign rfl rfl rfl (ev_str z_str34) ?_
   refine st_end ?_
   obtain rfl := Eq.symm h
   exact st_ret (gs' := []) Tryd.func47 rfl (List.Sublist.refl _) (Sto.Le.refl _) ⟨rfl, rfl⟩
  ·refine Z 5 rfl ?_
   refine st_if rfl h (fun h => ?_) (fun h => ?_)
   ·refine Z 2 rfl ?_
    refine o_assign rfl rfl rfl (ev_str z_str35) ?_
    refine st_end ?_
    obtain rfl := Eq.symm h
    exact st_ret (gs' := []) Tryd.func47 rfl (List.Sublist.refl _) (Sto.Le.refl _) ⟨rfl, rfl⟩
   ·refine Z 5 rfl ?_
    refine st_if rfl h (fun h => ?_) (fun h => ?_)
    ·refine Z 2 rfl ?_
     refine o_assign rfl rfl rfl (ev_str z_str36) ?_
     refine st_end ?_
     obtain rfl := Eq.symm h
     exact st_ret (gs' := []) Tryd.func47 rfl (List.Sublist.refl _) (Sto.Le.refl _) ⟨rfl, rfl⟩
    ·refine Z 5 rfl ?_
     refine st_if rfl h (fun h => ?_) (fun h => ?_)
     ·refine Z 2 rfl ?_
      refine o_assign rfl rfl rfl (ev_str z_str37) ?_
      refine st_end ?_
      obtain rfl := Eq.symm h
      exact st_ret (gs' := []) Tryd.func47 rfl (List.Sublist.refl _) (Sto.Le.refl _) ⟨rfl, rfl⟩
     ·refine Z 5 rfl ?_
      refine st_if rfl h (fun h => ?_) (fun h => ?_)
      ·refine Z 2 rfl ?_
       refine o_assign rfl rfl rfl (ev_str z_str38) ?_
       refine st_end ?_
       obtain rfl := Eq.symm h
       exact st_ret (gs' := []) Tryd.func47 rfl (List.Sublist.refl _) (Sto.Le.refl _) ⟨rfl, rfl⟩
      ·refine Z 5 rfl ?_
       refine st_if rfl h (fun h => ?_) (fun h => ?_)
       ·refine Z 2 rfl ?_
        refine o_assign rfl rfl rfl (ev_str z_str39) ?_
        refine st_end ?_
        obtain rfl := Eq.symm h
        exact st_ret (gs' := []) Tryd.func47 rfl (List.Sublist.refl _) (Sto.Le.refl _) ⟨rfl, rfl⟩
       ·refine Z 5 rfl ?_
        refine st_if rfl h (fun h => ?_) (fun h => ?_)
        ·refine Z 2 rfl ?_
         refine o_assign rfl rfl rfl (ev_str z_str40) ?_
         refine st_end ?_
         obtain rfl := Eq.symm h
         exact st_ret (gs' := []) Tryd.func47 rfl (List.Sublist.refl _) (Sto.Le.refl _) ⟨rfl, rfl⟩
        ·refine Z 5 rfl ?_
         refine st_if rfl h (fun h => ?_) (fun h => ?_)
         ·refine Z 2 rfl ?_
          refine o_assign rfl rfl rfl (ev_str z_str41) ?_
          refine st_end ?_
          obtain rfl := Eq.symm h
          exact st_ret (gs' := []) Tryd.func47 rfl (List.Sublist.refl _) (Sto.Le.refl _) ⟨rfl, rfl⟩
         ·refine Z 5 rfl ?_
          refine st_if rfl h (fun h => ?_) (fun h => ?_)
          ·refine Z 2 rfl ?_
           refine o_assign rfl rfl rfl (ev_str z_str42) ?_
           refine st_end ?_
           obtain rfl := Eq.symm h
           exact st_ret (gs' := []) Tryd.func47 rfl (List.Sublist.refl _) (Sto.Le.refl _) ⟨rfl, rfl⟩
          ·refine Z 5 rfl ?_
           refine st_if rfl h (fun h => ?_) (fun h => ?_)
           ·refine Z 2 rfl ?_
            refine o_assign rfl rfl rfl (ev_str z_str43) ?_
            refine st_end ?_
            obtain rfl := Eq.symm h
            exact st_ret (gs' := []) Tryd.func47 rfl (List.Sublist.refl _) (Sto.Le.refl _) ⟨rfl, rfl⟩
           ·refine Z 5 rfl ?_
            refine st_if rfl h (fun h => ?_) (fun h => ?_)
            ·refine Z 2 rfl ?_
             refine o_assign rfl rfl rfl (ev_str z_str44) ?_
             refine st_end ?_
             obtain rfl := Eq.symm h
             exact st_ret (gs' := []) Tryd.func47 rfl (List.Sublist.refl _) (Sto.Le.refl _) ⟨rfl, rfl⟩
            ·refine Z 5 rfl ?_
             refine st_if rfl h (fun h => ?_) (fun h => ?_)
             ·refine Z 2 rfl ?_
              refine o_assign rfl rfl rfl (ev_str z_str45) ?_
              refine st_end ?_
              obtain rfl := Eq.symm h
              exact st_ret (gs' := []) Tryd.func47 rfl (List.Sublist.refl _) (Sto.Le.refl _) ⟨rfl, rfl⟩
             ·refine Z 5 rfl ?_
              refine st_if rfl h (fun h => ?_) (fun h => ?_)
              ·refine Z 2 rfl ?_
               refine o_assign rfl rfl rfl (ev_str z_str46) ?_
               refine st_end ?_
               obtain rfl := Eq.symm h
               exact st_ret (gs' := []) Tryd.func47 rfl (List.Sublist.refl _) (Sto.Le.refl _) ⟨rfl, rfl⟩
              ·refine Z 5 rfl ?_
               refine st_if rfl h (fun h => ?_) (fun h => ?_)
               ·refine Z 2 rfl ?_
                refine o_assign rfl rfl rfl (ev_str z_str47) ?_
                refine st_end ?_
                obtain rfl := Eq.symm h
                exact st_ret (gs' := []) Tryd.func47 rfl (List.Sublist.refl _) (Sto.Le.refl _) ⟨rfl, rfl⟩
               ·refine Z 5 rfl ?_
                refine st_if rfl h (fun h => ?_) (fun h => ?_)
                ·refine Z 2 rfl ?_
                 refine o_assign rfl rfl rfl (ev_str z_str22) ?_
                 refine st_end ?_
                 obtain rfl := Eq.symm h
                 exact st_ret (gs' := []) Tryd.func47 rfl (List.Sublist.refl _) (Sto.Le.refl _) ⟨rfl, rfl⟩
                ·refine Z 4 rfl ?_
                 refine o_assign rfl rfl rfl (ev_str z_str0) ?_
                 refine st_end ?_
                 obtain rfl := Eq.symm h
                 exact st_ret (gs' := []) Tryd.func47 rfl (List.Sublist.refl _) (Sto.Le.refl _) ⟨rfl, rfl⟩
theorem event_Line_ok {a0 : Int × Int × Int × Int × (Int × List Int × List (Int × Int) × List Int × ByteArray × ByteArray)} {v1 : Value} {v2 : Value} {r : ByteArray} (h : event_Line a0 r) (σ : Sto) (hs3 : Sl (kP (kI .i64) (kI .i64)) σ v1 a0.2.2.2.2.2.2.1) (hs4 : Sl (kI .i64) σ v2 a0.2.2.2.2.2.2.2.1) (hT : Tab Tryd.prog σ) :
    Does Tryd.prog 39 [.agg [.int .i64 a0.1, .int .u32 a0.2.1, .int .i64 a0.2.2.1, .int .i64 a0.2.2.2.1, .int .i64 a0.2.2.2.2.1, .int .i64 (a0.2.2.2.2.2.1.getD 0 0), .int .i64 (a0.2.2.2.2.2.1.getD 1 0), .int .i64 (a0.2.2.2.2.2.1.getD 2 0), .int .i64 (a0.2.2.2.2.2.1.getD 3 0), .int .i64 (a0.2.2.2.2.2.1.getD 4 0), .int .i64 (a0.2.2.2.2.2.1.getD 5 0), v1, v2, .string a0.2.2.2.2.2.2.2.2.1, .string a0.2.2.2.2.2.2.2.2.2].toArray] σ [] (fun v τ gs => gs = [] ∧ .string r = v) := by
 refine call_of Tryd.func39 Tryd.ntmps39 rfl rfl (fun cs fs => ?_)
 refine Z 2 rfl ?_
 refine o_box (cs := [.int .i64 a0.1, .int .u32 a0.2.1, .int .i64 a0.2.2.1, .int .i64 a0.2.2.2.1, .int .i64 a0.2.2.2.2.1, .int .i64 (a0.2.2.2.2.2.1.getD 0 0), .int .i64 (a0.2.2.2.2.2.1.getD 1 0), .int .i64 (a0.2.2.2.2.2.1.getD 2 0), .int .i64 (a0.2.2.2.2.2.1.getD 3 0), .int .i64 (a0.2.2.2.2.2.1.getD 4 0), .int .i64 (a0.2.2.2.2.2.1.getD 5 0), v1, v2, .string a0.2.2.2.2.2.2.2.2.1, .string a0.2.2.2.2.2.2.2.2.2]) rfl rfl rfl rfl rfl (fun b5 => ?_)
 refine o_assign rfl rfl rfl (ev_str z_str0) ?_
 refine ZZ 6 [0] rfl rfl ?_
 obtain ⟨r6, hr7, h⟩ := h
 refine st_call (foot := []) rfl rfl rfl rfl rfl rfl (callV_fn z_en45 (say_Number_ok hr7 σ hT)) ?_
 rintro vτ8 τ8 gsτ8 hl9 ⟨rfl, rfl⟩
 refine ZZ 14 [0] rfl rfl ?_
 refine st_if rfl h (fun h => ?_) (fun h => ?_)
 ·refine st_seq ?_
  obtain ⟨hf10, hf11, r12, hr13, hf16, hf17, r18, hr19, hf22, h⟩ := h
  refine st_draw 12 (dl [.v (.string r6), .v (.string ((bstr [100, 101, 108, 105, 118, 101, 114, 32]) ++ r6)), .v (.string (((bstr [100, 101, 108, 105, 118, 101, 114, 32]) ++ r6) ++ (bstr [32, 118, 32]))), .v (.pointer (some ⟨b5, 2, none⟩)), .v (.int .i64 a0.2.2.1), .v (.string r12), .v (.string ((((bstr [100, 101, 108, 105, 118, 101, 114, 32]) ++ r6) ++ (bstr [32, 118, 32])) ++ r12)), .v (.string (((((bstr [100, 101, 108, 105, 118, 101, 114, 32]) ++ r6) ++ (bstr [32, 118, 32])) ++ r12) ++ (bstr [32]))), .v (.pointer (some ⟨b5, 4, none⟩)), .v (.agg #[.int .i64 a0.2.2.2.2.1, .int .i64 (a0.2.2.2.2.2.1.getD 0 0), .int .i64 (a0.2.2.2.2.2.1.getD 1 0), .int .i64 (a0.2.2.2.2.2.1.getD 2 0), .int .i64 (a0.2.2.2.2.2.1.getD 3 0), .int .i64 (a0.2.2.2.2.2.1.getD 4 0), .int .i64 (a0.2.2.2.2.2.1.getD 5 0), v1, v2, .string a0.2.2.2.2.2.2.2.2.1, .string a0.2.2.2.2.2.2.2.2.2]), .v (.string r18), .v (.string ((((((bstr [100, 101, 108, 105, 118, 101, 114, 32]) ++ r6) ++ (bstr [32, 118, 32])) ++ r12) ++ (bstr [32])) ++ r18))]) (fun _ _ => []) z_mix rfl (dl_mono trivial) (allB_cons (allB_cons (allB_cons (allB_cons (allB_cons (allB_cons (allB_cons (allB_cons (allB_cons (allB_cons (allB_cons (allB_cons allB_nil (p1 dA)) ?_) ?_) (p1 dA)) ?_) ?_) ?_) ?_) (p1 dA)) ?_) ?_) ?_) ?_
  ·intro ρ' τ pool rs hl hd hout hk
   obtain ⟨_, e0, rfl⟩ := hd 0 rfl
   refine o_sadd rfl rfl rfl (ev_str z_str1) e0 hf10 ?_
   exact st_addNil (hk _ _ (Sto.Le.refl _) rfl)
  ·intro ρ' τ pool rs hl hd hout hk
   obtain ⟨_, e1, rfl⟩ := hd 1 rfl
   refine o_sadd rfl rfl rfl e1 (ev_str z_str2) hf11 ?_
   exact st_addNil (hk _ _ (Sto.Le.refl _) rfl)
  ·intro ρ' τ pool rs hl hd hout hk
   obtain ⟨_, e3, rfl⟩ := hd 3 rfl
   refine o_load (j := 0) (v := .int .i64 a0.2.2.1) rfl rfl rfl z_sc3 e3 rfl rfl ?_
   exact st_addNil (hk _ _ (Sto.Le.refl _) rfl)
  ·intro ρ' τ pool rs hl hd hout hk
   obtain ⟨_, e4, rfl⟩ := hd 4 rfl
   refine st_call (foot := []) rfl rfl rfl rfl (evs_cons e4 rfl) rfl (callV_fn z_en45 (say_Number_ok hr13 τ (hT.up (hl9.trans hl)))) ?_
   rintro vτ14 τ14 gsτ14 hl15 ⟨rfl, rfl⟩
   exact st_addNil (hk _ _ hl15 rfl)
  ·intro ρ' τ pool rs hl hd hout hk
   obtain ⟨_, e2, rfl⟩ := hd 2 rfl
   obtain ⟨_, e5, rfl⟩ := hd 5 rfl
   refine o_sadd rfl rfl rfl e2 e5 hf16 ?_
   exact st_addNil (hk _ _ (Sto.Le.refl _) rfl)
  ·intro ρ' τ pool rs hl hd hout hk
   obtain ⟨_, e6, rfl⟩ := hd 6 rfl
   refine o_sadd rfl rfl rfl e6 (ev_str z_str3) hf17 ?_
   exact st_addNil (hk _ _ (Sto.Le.refl _) rfl)
  ·intro ρ' τ pool rs hl hd hout hk
   obtain ⟨_, e8, rfl⟩ := hd 8 rfl
   refine o_loadN (j := 0) (vs := [.int .i64 a0.2.2.2.2.1, .int .i64 (a0.2.2.2.2.2.1.getD 0 0), .int .i64 (a0.2.2.2.2.2.1.getD 1 0), .int .i64 (a0.2.2.2.2.2.1.getD 2 0), .int .i64 (a0.2.2.2.2.2.1.getD 3 0), .int .i64 (a0.2.2.2.2.2.1.getD 4 0), .int .i64 (a0.2.2.2.2.2.1.getD 5 0), v1, v2, .string a0.2.2.2.2.2.2.2.2.1, .string a0.2.2.2.2.2.2.2.2.2]) rfl rfl rfl z_agg27 e8 rfl rfl ?_
   exact st_addNil (hk _ _ (Sto.Le.refl _) rfl)
  ·intro ρ' τ pool rs hl hd hout hk
   obtain ⟨_, e9, rfl⟩ := hd 9 rfl
   refine st_call (foot := []) rfl rfl rfl rfl (evs_cons e9 rfl) rfl (callV_fn z_en62 (say_Line_ok hr19 τ (hs3.up (hl9.trans hl)) (hs4.up (hl9.trans hl)) (hT.up (hl9.trans hl)))) ?_
   rintro vτ20 τ20 gsτ20 hl21 ⟨rfl, rfl⟩
   exact st_addNil (hk _ _ hl21 rfl)
  ·intro ρ' τ pool rs hl hd hout hk
   obtain ⟨_, e7, rfl⟩ := hd 7 rfl
   obtain ⟨_, e10, rfl⟩ := hd 10 rfl
   refine o_sadd rfl rfl rfl e7 e10 hf22 ?_
   exact st_addNil (hk _ _ (Sto.Le.refl _) rfl)
  intro ρ' τ23 vals hl23 hv hout
  refine st_ord [0] _ rfl ?_
  refine st_env (ρ' := [(23, .string ((((((bstr [100, 101, 108, 105, 118, 101, 114, 32]) ++ r6) ++ (bstr [32, 118, 32])) ++ r12) ++ (bstr [32])) ++ r18)), (2, .string (bstr []))]) ⟨(lv1 hv 11 rfl rfl), (hout 2 rfl).trans rfl, trivial⟩ ?_
  refine Z 2 rfl ?_
  refine st_ord [] _ rfl ?_
  obtain rfl := Eq.symm h
  exact st_ret (gs' := []) Tryd.func39 rfl (List.Sublist.refl _) (hl9.trans hl23) ⟨rfl, rfl⟩
 ·refine Z 5 rfl ?_
  refine st_if rfl h (fun h => ?_) (fun h => ?_)
  ·refine Z 3 rfl ?_
   obtain ⟨hf24, h⟩ := h
   refine o_sadd rfl rfl rfl (ev_str z_str32) rfl hf24 ?_
   obtain ⟨hf25, h⟩ := h
   refine o_sadd rfl rfl rfl rfl (ev_str z_str3) hf25 ?_
   refine ZZ 2 [0] rfl rfl ?_
   obtain ⟨r26, hr27, h⟩ := h
   refine st_call (foot := []) rfl rfl rfl rfl rfl rfl (callV_fn z_en47 (event_Word_ok hr27 τ8)) ?_
   rintro vτ28 τ28 gsτ28 hl29 ⟨rfl, rfl⟩
   obtain ⟨hf30, h⟩ := h
   refine o_sadd rfl rfl rfl rfl rfl hf30 ?_
   refine Z 2 rfl ?_
   refine st_ord [] _ rfl ?_
   obtain rfl := Eq.symm h
   exact st_ret (gs' := []) Tryd.func39 rfl (List.Sublist.refl _) (hl9.trans hl29) ⟨rfl, rfl⟩
  ·refine Z 5 rfl ?_
   refine st_if rfl h (fun h => ?_) (fun h => ?_)
   ·refine Z 3 rfl ?_
    obtain ⟨hf31, h⟩ := h
    refine o_sadd rfl rfl rfl (ev_str z_str48) rfl hf31 ?_
    refine Z 2 rfl ?_
    refine st_ord [] _ rfl ?_
    obtain rfl := Eq.symm h
    exact st_ret (gs' := []) Tryd.func39 rfl (List.Sublist.refl _) hl9 ⟨rfl, rfl⟩
   ·refine Z 4 rfl ?_
    refine o_assign rfl rfl rfl (ev_str z_str0) ?_
    refine st_end ?_
    refine st_ord [] _ rfl ?_
    obtain rfl := Eq.symm h
    exact st_ret (gs' := []) Tryd.func39 rfl (List.Sublist.refl _) hl9 ⟨rfl, rfl⟩
theorem event_Rejection_ok {a0 : Int} {a1 : Int} {r : (Int × Int × Int × Int × (Int × List Int × List (Int × Int) × List Int × ByteArray × ByteArray))} (h : event_Rejection a0 a1 r) (σ : Sto)  :
    Does Tryd.prog 14 [.int .u32 a0, .int .i64 a1] σ [] (fun v τ gs => ∃ (v2 : Value) (v3 : Value), gs = [] ∧ .agg [.int .i64 r.1, .int .u32 r.2.1, .int .i64 r.2.2.1, .int .i64 r.2.2.2.1, .int .i64 r.2.2.2.2.1, .int .i64 (r.2.2.2.2.2.1.getD 0 0), .int .i64 (r.2.2.2.2.2.1.getD 1 0), .int .i64 (r.2.2.2.2.2.1.getD 2 0), .int .i64 (r.2.2.2.2.2.1.getD 3 0), .int .i64 (r.2.2.2.2.2.1.getD 4 0), .int .i64 (r.2.2.2.2.2.1.getD 5 0), v2, v3, .string r.2.2.2.2.2.2.2.2.1, .string r.2.2.2.2.2.2.2.2.2].toArray = v ∧ Sl (kP (kI .i64) (kI .i64)) τ v2 r.2.2.2.2.2.2.1 ∧ Sl (kI .i64) τ v3 r.2.2.2.2.2.2.2.1) := by
 refine call_of Tryd.func14 Tryd.ntmps14 rfl rfl (fun cs fs => ?_)
 refine Z 2 rfl ?_
 refine o_alloc rfl rfl rfl z_zero31 (fun b1 => ?_)
 refine ZZ 8 [0] rfl rfl ?_
 obtain rfl := Eq.symm h
 exact st_retC (gs' := []) [.agg #[.int .i64 2, .int .u32 a0, .int .i64 0, .int .i64 a1, .int .i64 0, .int .i64 0, .int .i64 0, .int .i64 0, .int .i64 0, .int .i64 0, .int .i64 0, .slice none 0 0, .slice none 0 0, .string (bstr []), .string (bstr [])]] Tryd.func14 ⟨⟨_, _, _, _, rfl, mem_flat 0 rfl, fun w hw => cellOfN (vs := [.int .i64 2, .int .u32 a0, .int .i64 0, .int .i64 a1, .int .i64 0, .int .i64 0, .int .i64 0, .int .i64 0, .int .i64 0, .int .i64 0, .int .i64 0, .slice none 0 0, .slice none 0 0, .string (bstr []), .string (bstr [])]) z_agg31 rfl w hw⟩, trivial⟩ (by simp) (Sto.Le.refl _) ⟨_, _, rfl, rfl, Sl.nil, Sl.nil⟩
theorem event_Eviction_ok {a0 : Int} {r : (Int × Int × Int × Int × (Int × List Int × List (Int × Int) × List Int × ByteArray × ByteArray))} (h : event_Eviction a0 r) (σ : Sto)  :
    Does Tryd.prog 15 [.int .u32 a0] σ [] (fun v τ gs => ∃ (v2 : Value) (v3 : Value), gs = [] ∧ .agg [.int .i64 r.1, .int .u32 r.2.1, .int .i64 r.2.2.1, .int .i64 r.2.2.2.1, .int .i64 r.2.2.2.2.1, .int .i64 (r.2.2.2.2.2.1.getD 0 0), .int .i64 (r.2.2.2.2.2.1.getD 1 0), .int .i64 (r.2.2.2.2.2.1.getD 2 0), .int .i64 (r.2.2.2.2.2.1.getD 3 0), .int .i64 (r.2.2.2.2.2.1.getD 4 0), .int .i64 (r.2.2.2.2.2.1.getD 5 0), v2, v3, .string r.2.2.2.2.2.2.2.2.1, .string r.2.2.2.2.2.2.2.2.2].toArray = v ∧ Sl (kP (kI .i64) (kI .i64)) τ v2 r.2.2.2.2.2.2.1 ∧ Sl (kI .i64) τ v3 r.2.2.2.2.2.2.2.1) := by
 refine call_of Tryd.func15 Tryd.ntmps15 rfl rfl (fun cs fs => ?_)
 refine Z 2 rfl ?_
 refine o_alloc rfl rfl rfl z_zero31 (fun b1 => ?_)
 refine ZZ 7 [0] rfl rfl ?_
 obtain rfl := Eq.symm h
 exact st_retC (gs' := []) [.agg #[.int .i64 3, .int .u32 a0, .int .i64 0, .int .i64 0, .int .i64 0, .int .i64 0, .int .i64 0, .int .i64 0, .int .i64 0, .int .i64 0, .int .i64 0, .slice none 0 0, .slice none 0 0, .string (bstr []), .string (bstr [])]] Tryd.func15 ⟨⟨_, _, _, _, rfl, mem_flat 0 rfl, fun w hw => cellOfN (vs := [.int .i64 3, .int .u32 a0, .int .i64 0, .int .i64 0, .int .i64 0, .int .i64 0, .int .i64 0, .int .i64 0, .int .i64 0, .int .i64 0, .int .i64 0, .slice none 0 0, .slice none 0 0, .string (bstr []), .string (bstr [])]) z_agg31 rfl w hw⟩, trivial⟩ (by simp) (Sto.Le.refl _) ⟨_, _, rfl, rfl, Sl.nil, Sl.nil⟩
theorem law23_known_ok  {r : Bool} (h : law23_known r) (σ : Sto) (hT : Tab Tryd.prog σ) :
    Does Tryd.prog 13 [] σ [] (fun v τ gs => gs = [] ∧ .bool r = v) := by
 refine call_of Tryd.func13 Tryd.ntmps13 rfl rfl (fun cs fs => ?_)
 refine Z 6 rfl ?_
 refine o_buildA (ps := [(0, [.int .i64 1]), (1, [.int .i64 2])]) (cs := [.int .i64 1, .int .i64 2, .int .i64 0, .int .i64 0, .int .i64 0, .int .i64 0]) rfl rfl rfl z_arrz23 ⟨rfl, ⟨_, rfl, rfl⟩, ⟨rfl, ⟨_, rfl, rfl⟩, trivial⟩⟩ rfl ?_
 refine ZZ 1 [] rfl rfl ?_
 obtain ⟨r1, hr2, h⟩ := h
 refine st_call (foot := []) rfl rfl rfl rfl rfl rfl (callV_fn z_en8 (event_Delivery_ok hr2 σ Sl.nil Sl.nil)) ?_
 rintro vτ3 τ3 gsτ3 hl4 ⟨v5, v6, rfl, rfl, hs7, hs8⟩
 obtain ⟨r9, hr10, h⟩ := h
 refine st_call (foot := []) rfl rfl rfl rfl rfl rfl (callV_fn z_en39 (event_Line_ok hr10 τ3 hs7 hs8 (hT.up hl4))) ?_
 rintro vτ11 τ11 gsτ11 hl12 ⟨rfl, rfl⟩
 refine Z 3 rfl ?_
 refine st_cut (fun ρ τ13 gs => ∃ (s13 : Bool), law23_known_j1 s13 r ∧ τ11.Le τ13 ∧ ESub ρ [(0, .bool s13)] ∧ gs = []) ?_ (fun hk13 => ?_)
 ·rintro ρ13 τ13 gs13 ⟨s13, h, hl13, hρ, rfl⟩
  refine st_es hρ ?_
  obtain rfl := Eq.symm h
  exact st_ret (gs' := []) Tryd.func13 rfl (List.Sublist.refl _) ((hl4.trans hl12).trans hl13) ⟨rfl, rfl⟩
 refine Z 2 rfl ?_
 refine o_sbin (v := .bool (decide (r9 = (bstr [100, 101, 108, 105, 118, 101, 114, 32, 55, 32, 118, 32, 49, 32, 104, 111, 108, 100, 32, 114, 111, 98, 111, 116, 32, 49, 32, 114, 101, 97, 115, 111, 110, 32, 50, 32, 122, 111, 110, 101, 32, 48])))) rfl rfl rfl rfl (ev_str z_str49) rfl ?_
 refine o_mif rfl rfl rfl rfl h (fun h => ?_) (fun h => ?_)
 ·obtain ⟨r14, hr15, h⟩ := h
  refine st_call (foot := []) rfl rfl rfl rfl rfl rfl (callV_fn z_en14 (event_Rejection_ok hr15 τ11)) ?_
  rintro vτ16 τ16 gsτ16 hl17 ⟨v18, v19, rfl, rfl, hs20, hs21⟩
  obtain ⟨r22, hr23, h⟩ := h
  refine st_call (foot := []) rfl rfl rfl rfl rfl rfl (callV_fn z_en39 (event_Line_ok hr23 τ16 hs20 hs21 (hT.up ((hl4.trans hl12).trans hl17)))) ?_
  rintro vτ24 τ24 gsτ24 hl25 ⟨rfl, rfl⟩
  refine o_sbin (v := .bool (decide (r22 = (bstr [114, 101, 106, 101, 99, 116, 32, 48, 32, 115, 117, 109])))) rfl rfl rfl rfl (ev_str z_str50) rfl ?_
  refine o_pick rfl rfl rfl rfl rfl ?_
  refine o_mif rfl rfl rfl rfl h (fun h => ?_) (fun h => ?_)
  ·obtain ⟨r26, hr27, h⟩ := h
   refine st_call (foot := []) rfl rfl rfl rfl rfl rfl (callV_fn z_en15 (event_Eviction_ok hr27 τ24)) ?_
   rintro vτ28 τ28 gsτ28 hl29 ⟨v30, v31, rfl, rfl, hs32, hs33⟩
   obtain ⟨r34, hr35, h⟩ := h
   refine st_call (foot := []) rfl rfl rfl rfl rfl rfl (callV_fn z_en39 (event_Line_ok hr35 τ28 hs32 hs33 (hT.up ((((hl4.trans hl12).trans hl17).trans hl25).trans hl29)))) ?_
   rintro vτ36 τ36 gsτ36 hl37 ⟨rfl, rfl⟩
   refine o_sbin (v := .bool (decide (r34 = (bstr [101, 118, 105, 99, 116, 32, 53])))) rfl rfl rfl rfl (ev_str z_str51) rfl ?_
   refine Z 3 rfl ?_
   exact hk13 _ _ _ ⟨(decide (r34 = (bstr [101, 118, 105, 99, 116, 32, 53]))), h, (((hl17.trans hl25).trans hl29).trans hl37), rfl, rfl⟩
  ·refine Z 6 rfl ?_
   exact hk13 _ _ _ ⟨false, h, (hl17.trans hl25), rfl, rfl⟩
 ·refine Z 11 rfl ?_
  exact hk13 _ _ _ ⟨false, h, (Sto.Le.refl _), rfl, rfl⟩
end Go.Rel
